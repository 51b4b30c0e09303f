import Derived.Test.YtbokilgdefkmiaaGreatDoorCzB27
import Derived.Test.YtbokilgdefkmiaaGreatDoorCzB26
import Derived.Test.YtbokilgdefkmiaaGreatDoorCzB22
import Derived.Test.YtbokilgdefkmiaaGreatDoorCzB09
import Derived.Test.YtbokilgdefkmiaaGreatDoorCzB18
import Derived.Test.YtbokilgdefkmiaaGreatDoorCzB24
import Derived.Test.YtbokilgdefkmiaaGreatDoorCzB23
set_option linter.unusedSimpArgs false
set_option linter.unusedVariables false
namespace Go.Proofs.YtbokilgdefkmiaaGreatDoor
open Go Ab Go.Shelf Go.Lib Go.Sort
set_option maxRecDepth 100000
set_option maxHeartbeats 1000000
theorem lt_cfD (x y:Nat×Nat):ltOf cfD x y=true↔(x.1<y.1∨(x.1=y.1∧x.2<y.2)):=by
 unfold ltOf cfD compareInt;rw[decide_eq_true_iff]
 split<;>split<;>(try split)<;>(try split)<;>omega
theorem nlt_cfD (x y:Nat×Nat):ltOf cfD x y=false↔ ¬(x.1<y.1∨(x.1=y.1∧x.2<y.2)):=by
 rw[←lt_cfD];simp
theorem swo_cfD:SWO (ltOf cfD) where
 irrefl x:=by rw[nlt_cfD];omega
 trans x y z:=by simp only[lt_cfD];omega
 ntrans x y z:=by simp only[nlt_cfD];omega
theorem tot_cfD (x y:Nat×Nat) (h1:ltOf cfD x y=false) (h2:ltOf cfD y x=false):x=y:=by
 rw[nlt_cfD] at h1 h2;exact Prod.ext (by omega) (by omega)
def srtD (G:List (Nat×Nat)):List (Nat×Nat):=G.mergeSort fun x y=> !(ltOf cfD) y x
theorem srtD_len (G:List (Nat×Nat)):(srtD G).length=G.length:=by unfold srtD;simp
theorem sr_dg (φ:Ph):∀ (d:List (Nat×Nat)) (xs:List Value),All2 (Sr φ) (d.flatMap dgC) xs→xs=d.flatMap encD
 |[],[],_=>rfl
 |[],_::_,h=>h.elim
 |x::d,xs,h=>by
  rw[List.flatMap_cons] at h ⊢
  match xs,h with
  |a::b::r,⟨h1,h2,h3⟩=>
   have e1:a=.int .i64 (x.1:Int):=h1;have e2:b=.int .i64 (x.2:Int):=h2;rw[e1,e2,sr_dg φ d r h3];rfl
  |[_],⟨_,h2⟩=>exact h2.elim
  |[],h=>exact h.elim
theorem dg_sr (φ:Ph):∀ (d:List (Nat×Nat)),All2 (Sr φ) (d.flatMap dgC) (d.flatMap encD)
 |[]=>trivial
 |x::d=>by
  rw[List.flatMap_cons,List.flatMap_cons];exact All2.append ⟨rfl,rfl,trivial⟩ (dg_sr φ d)
theorem enc_len:∀ d:List (Nat×Nat),(d.flatMap encD).length=d.length*2
 |[]=>rfl
 |x::d=>by rw[List.flatMap_cons,List.length_append,enc_len d];simp only[List.length_cons];simp[encD];omega
theorem enc_get:∀ (d:List (Nat×Nat)) (t:Nat),t<d.length*2→(d.flatMap encD)[t]! =(encD d[t/2]!)[t%2]!
 |[],t,h=>by simp at h
 |x::d,0,h=>rfl
 |x::d,1,h=>rfl
 |x::d,t+2,h=>by
  have:=enc_get d t (by simp only[List.length_cons] at h;omega);rw[show (t+2)/2=t/2+1 by omega,show (t+2)%2=t%2 by omega];rw[show (x::d)[t/2+1]! =d[t/2]! by simp,←this,List.flatMap_cons];simp[encD]
theorem flatK_enc (d:List (Nat×Nat)):flatK encD 2 d.toArray=(d.flatMap encD).toArray:=by
 refine ext_get! (by simp only[size_flatK,List.size_toArray,enc_len]) fun t ht=>?_
 have ht':t<d.length*2:=by simpa using ht
 rw[get_flatK _ _ _ t (by simpa using ht')];have:=enc_get d t ht'
 simpa using this.symm
theorem enters42:∀ args w,(callFunc 61 args).run Tryz.prog w=.ok (.enter 61 args) w:=by
 intro args w;simp only[callFunc,Sem.run_bind,run_program,Result.andThen_ok,Tryz.func61];rfl
theorem putCells_row (pre ys zs rest:List Value) (h:zs.length=ys.length):putCells id pre.length zs.toArray (pre++(ys++rest)).toArray=(pre++(zs++rest)).toArray:=by
 unfold putCells;apply Array.ext_getElem?;intro i;simp only[List.mapIdx_toArray,List.getElem?_toArray,List.getElem?_mapIdx,List.size_toArray];by_cases h1:i<pre.length
 ·rw[List.getElem?_append_left h1,List.getElem?_append_left h1]
  cases pre[i]? with
  |none=>rfl
  |some x=>simp;omega
 ·rw[List.getElem?_append_right (l₁:=pre) (l₂:=ys++rest) (by omega),List.getElem?_append_right (l₁:=pre) (l₂:=zs++rest) (by omega)]
  by_cases h2:i-pre.length<zs.length
  ·have h3:i-pre.length<ys.length:=by omega
   rw[List.getElem?_append_left (l₁:=ys) h3,List.getElem?_append_left (l₁:=zs) h2,List.getElem?_eq_getElem h3,List.getElem?_eq_getElem h2];simp only[Option.map_some,Option.some.injEq];rw[if_pos ⟨by omega,by omega⟩];simp[h2]
  ·rw[List.getElem?_append_right (l₁:=ys) (by omega),List.getElem?_append_right (l₁:=zs) (by omega),h]
   cases rest[i-pre.length-ys.length]? with
   |none=>rfl
   |some x=>simp only[Option.map_some,Option.some.injEq];rw[if_neg (by omega)]
theorem sw_other (w:World) (b o n:Nat) (D:Array (Nat×Nat)) (os:Array Obj) (j:Nat) (hj:j<w.heap.size) (hb:j≠b):(sortWorldK encD 2 w b o n D os).heap[j]? =w.heap[j]? :=by
 show ((w.heap.modify b _)++os)[j]? =_;rw[Array.getElem?_append_left (by simpa using hj),Array.getElem?_modify,if_neg (Ne.symm hb)]
theorem sw_at (w:World) (b n:Nat) (d:List (Nat×Nat)) (os:Array Obj) (pre ys rest:List Value) (ty:TypeId) (fr:Nat×Nat) (hw:w.heap[b]? =some (.cells (pre++(ys++rest)).toArray ty fr)) (hl:ys.length=d.length*2):
 (sortWorldK encD 2 w b pre.length n d.toArray os).heap[b]? =some (.cells (pre++(d.flatMap encD++rest)).toArray ty fr):=by
 have hb:b<w.heap.size:=by
  rcases Nat.lt_or_ge b w.heap.size with h|h
  ·exact h
  ·rw[Array.getElem?_eq_none h] at hw;cases hw
 show ((w.heap.modify b (onCells (putCells id pre.length (flatK encD 2 d.toArray))))++os)[b]? =_;rw[Array.getElem?_append_left (by simpa using hb),Array.getElem?_modify,if_pos rfl,hw,flatK_enc];show some (Obj.cells (putCells id pre.length (d.flatMap encD).toArray (pre++(ys++rest)).toArray) ty fr)=_;rw[putCells_row pre ys _ rest (by rw[enc_len,hl])]
theorem holds_dg (w:World) (b:Nat) (d:List (Nat×Nat)) (pre rest:List Value) (ty:TypeId) (fr:Nat×Nat) (hw:w.heap[b]? =some (.cells (pre++(d.flatMap encD++rest)).toArray ty fr))
 (hfr:∀ o,o<(pre++(d.flatMap encD++rest)).length→(fr.1≤o&&o<fr.2)=false):HoldsK encD 2 w b pre.length d.toArray:=by
 intro j hj;rw[flatK_enc] at hj ⊢;simp only[List.size_toArray] at hj;constructor
 ·unfold World.cell?
  rw[hw];simp only[Option.isSome_none,Bool.false_eq_true,if_false,List.getElem?_toArray,id];rw[List.getElem?_append_right (by omega),List.getElem?_append_left (by omega),show pre.length+j-pre.length=j by omega];rw[getElem!_pos _ _ (by simpa using hj)];simp
 ·unfold World.frozen?
  rw[hw];exact hfr _ (by simp only[List.length_append];omega)
theorem opB_some {ty g w:Nat} {cs:List S} (h:cs≠[]):opB ty g w cs=some {cells:=cs,ty:=ty,more:=true,sym:=true,flat:=true,gh:=some (g,w)}:=by
 cases cs with
 |nil=>exact absurd rfl h
 |cons c cs=>rfl
theorem dg_ne {d:List (Nat×Nat)} (h:0<d.length):d.flatMap dgC≠[]:=fun e=>by
 have:=dg_len d;rw[e] at this;simp at this;omega
theorem sort_c (d:List (Nat×Nat)) (hd:d.length≤1000000000000):
 FC Tryz.prog 60 [.s (.row 0 1 d.length),.s (.fn 61)] 2 [(0,dgB 0 d)] .any 2 [(0,dgB 0 (srtD d))]:=by
 refine⟨by kernel_rfl,fun φ xs w hx hg hf=>?_⟩
 match xs,hx with
 |[x0,x1],⟨h0,h1,_⟩=>
  have h1:x1=.func (.func 61) #[] #[]:=h1;subst h1
  rcases Nat.eq_zero_or_pos d.length with hz|hz
  ·obtain rfl:=List.eq_nil_of_length_eq_zero hz
   have h0:x0=.slice none 0 0:=by
    rcases h0 with ⟨_,h⟩|⟨h,_⟩
    ·exact h
    ·exact absurd h (by simp)
   subst h0;refine (AnyF.slices_SortFunc_none Tryz.sortD none 0 _ w).mono ?_;rintro e w' ⟨rfl,rfl⟩
   have e0:srtD []=[]:=by simp[srtD]
   rw[e0];exact⟨φ,_,rfl,trivial,hg,hf,Stp.refl _ _ _,Nat.le_refl _,fun _ _=>rfl⟩
  ·have hs1:=srtD_len d
   have eL:dgB 0 d=some {cells:=d.flatMap dgC,ty:=67,more:=true,sym:=true,flat:=true,gh:=some (1,2)}:=opB_some (dg_ne hz);have eL':dgB 0 (srtD d)=some {cells:=(srtD d).flatMap dgC,ty:=67,more:=true,sym:=true,flat:=true,gh:=some (1,2)}:=opB_some (dg_ne (by omega));rw[eL] at hg;rw[eL,eL']
   obtain⟨b,k,hb,hg1,rfl,hk⟩:∃ b k,φ.f 0=some b∧φ.f 1=some (k,0)∧x0=.slice (some ⟨b.1,b.2,none⟩) d.length k∧d.length≤k:=by
    rcases h0 with ⟨h,_⟩|⟨_,h⟩
    ·omega
    ·exact h
   obtain⟨b',hb',hbl⟩:=hg.hr 0 _ rfl
   obtain rfl:b'=b:=by rw[show φ.f 0=some b from hb] at hb';exact (Option.some.inj hb').symm
   obtain⟨pre,ys,rest,fr,hw,hpre,hys,_,hro,hgh,_⟩:=hbl;have hy:=sr_dg _ d ys hys;have hro:=hro rfl;subst hy
   have hwr:∀ c,Wr φ [(0,some {cells:=d.flatMap dgC,ty:=67,more:=true,sym:=true,flat:=true,gh:=some (1,2)})] c↔c=b'.1:=fun c=>by
    constructor
    ·rintro⟨i,bl,e,hi,he,rfl,_⟩
     rw[lk_cons] at hi;split at hi
     ·rename_i h;subst h;rw[show φ.f 0=some b' from hb] at he;rw[Option.some.inj he]
     ·cases hi
    ·rintro rfl;exact⟨0,_,b',rfl,hb,rfl,rfl⟩
   have hwr':∀ c,Wr φ [(0,some {cells:=(srtD d).flatMap dgC,ty:=67,more:=true,sym:=true,flat:=true,gh:=some (1,2)})] c↔c=b'.1:=fun c=>by
    constructor
    ·rintro⟨i,bl,e,hi,he,rfl,_⟩
     rw[lk_cons] at hi;split at hi
     ·rename_i h;subst h;rw[show φ.f 0=some b' from hb] at he;rw[Option.some.inj he]
     ·cases hi
    ·rintro rfl;exact⟨0,_,b',rfl,hb,rfl,rfl⟩
   have hlt:b'.1<w.heap.size:=by
    rcases Nat.lt_or_ge b'.1 w.heap.size with h|h
    ·exact h
    ·rw[Array.getElem?_eq_none h] at hw;cases hw
   have hH:=holds_dg w b'.1 d pre rest _ fr hw hro;rw[hpre] at hH;have ht:=tyS_run (P:=Tryz.prog) (t:=67) (ag:=true) (sz:=2) (by kernel_rfl);refine (AnyQ.slices_SortFunc_total Tryz.sortD 2 (fun w=>(ht w).1) (fun w=>(ht w).2) encD (fun _=>rfl) (fun x v hv=>by simp[encD] at hv;rcases hv with rfl|rfl<;>rfl) cfD swo_cfD 61 #[] b'.1 b'.2 k d.toArray w enters42 ?_ hH hlt (by simp;omega) tot_cfD).mono ?_
   ·intro m os dk _ x y
    refine (closure_c (x.1:Int) (x.2:Int) (y.1:Int) (y.2:Int) _).mono ?_;rintro e w' ⟨rfl,q,os',rfl⟩;exact⟨rfl,q,os',rfl⟩
   ·rintro e w' ⟨rfl,n,os,rfl⟩
    have ho:=fun j=>sw_other w b'.1 b'.2 n (srtD d).toArray os j
    have hat:=sw_at w b'.1 n (srtD d) os pre _ rest _ fr hw (by rw[enc_len,srtD_len]);rw[hpre] at hat;refine⟨φ,_,rfl,trivial,⟨fun i bl hi=>?_,fun i j bl bl' c c' hi hj _ _ _=>?_,fun c l hz'=>?_,hg.gz⟩,hf,⟨rfl,rfl,rfl,?_,fun c hc hn=>ho c hc fun e=>hn ((hwr c).2 e),fun j bl c hj hc hcl=>?_,fun _ _ h=>h,fun _ _ h=> .inl h⟩,Nat.le_refl _,fun _ _=>rfl⟩
    ·rw[lk_cons] at hi
     split at hi
     ·rename_i h;subst h;obtain rfl:=Option.some.inj hi
      refine⟨b',hb,pre,_,rest,fr,hat,hpre,dg_sr _ _,fun h=>(by cases h),fun _ o ho'=>hro o ?_,fun g z hgz=>?_,fun g h=>(by cases h)⟩
      ·simp only[List.length_append,enc_len,srtD_len] at ho' ⊢;exact ho'
      ·obtain⟨k',hk',hz'⟩:=hgh g z hgz
       refine⟨k',hk',?_⟩;simp only[List.length_append,enc_len,srtD_len] at hz' ⊢;exact hz'
     ·cases hi
    ·rw[lk_cons] at hi hj
     split at hi
     ·split at hj
      ·rename_i h h';exact .inl (h.symm.trans h')
      ·cases hj
     ·cases hi
    ·obtain⟨⟨ty,fr',e⟩,hn⟩:=hg.fz c l hz'
     have hne:c≠b'.1:=fun e=>hn ((hwr c).2 e)
     exact⟨⟨ty,fr',(ho c (hg.fzlt hz') hne).trans e⟩,fun h=>hne ((hwr' c).1 h)⟩
    ·show w.heap.size≤((w.heap.modify b'.1 _)++os).size
     simp
    ·rw[lk_cons] at hj
     split at hj
     ·rename_i h;subst h
      exact⟨0,_,c,rfl,hc,rfl,fun h=>(by cases h),.inl rfl⟩
     ·cases hj
end Go.Proofs.YtbokilgdefkmiaaGreatDoor
namespace Go.Proofs.YtbokilgdefkmiaaGreatDoor
open Go Ab
set_option maxRecDepth 100000
set_option maxHeartbeats 1000000
def dgsV (G:List (Nat×Nat)):V:=.s (.frz (fun k=>dgC (G.getD k (0,0))) 2 G.length)
theorem dg_cell {G:List (Nat×Nat)} {k j:Nat} {x:S} (hk:k<G.length) (hx:(dgC (G.getD k (0,0)))[j]? =some x):(G.flatMap dgC)[k*2+j]? =some x∧pureS x=true:=by
 induction G generalizing k with
 |nil=>simp at hk
 |cons y G ih=>
  cases k with
  |zero=>
   rw[List.flatMap_cons]
   match j,hx with
   |0,hx=>cases hx;exact⟨rfl,rfl⟩
   |1,hx=>cases hx;exact⟨rfl,rfl⟩
   |_+2,hx=>cases hx
  |succ k=>
   have:=ih (k:=k) (by simpa using hk) (by simpa using hx);rw[List.flatMap_cons,show (k+1)*2+j=(k*2+j)+2 by omega];exact this
theorem sort_0:FC Tryz.prog 60 [.s (.row 0 1 0),.s (.fn 61)] 2 [] .any 2 []:=by
 have:=sort_c [] (by decide);rw[show srtD []=[] by simp[srtD]] at this;exact⟨this.1,fun φ xs w hx hg hf=>(this.2 φ xs w hx (hg.sub fun i bl h=>by rw[lk_cons] at h;split at h<;>cases h) hf).mono fun e w' ⟨φ',x,a,b,c,d,e,f⟩=>⟨φ',x,a,b,c.sub fun i bl h=>(by cases h),d,⟨e.os,e.tape,e.output,e.size,fun b hb hn=>e.keep b hb fun⟨i,bl,c,h,_⟩=>(by rw[lk_cons] at h;split at h<;>cases h),fun j bl b h=>(by cases h),e.zle,fun b l hb=>(e.zfr b l hb).elim .inl fun h=>h.elim (fun h=> .inr (.inl h)) fun⟨i,bl,c,h,_⟩=>(by rw[lk_cons] at h;split at h<;>cases h)⟩,f⟩⟩
abbrev dgS (g:Nat) (G:List (Nat×Nat)):Bl:={cells:=G.flatMap dgC,ty:=67,more:=true,sym:=true,flat:=true,gh:=some (g+1,2)}
theorem dgB_pos {g:Nat} {G:List (Nat×Nat)} (h:0<G.length):dgB g G=some (dgS g G):=opB_some (dg_ne h)
theorem sort_p (d:List (Nat×Nat)) (hd:d.length≤1000000000000) (h:0<d.length):FC Tryz.prog 60 [.s (.row 0 1 d.length),.s (.fn 61)] 2 [(0,some (dgS 0 d))] .any 2 [(0,some (dgS 0 (srtD d)))]:=by
 have:=sort_c d hd
 rwa [dgB_pos h,dgB_pos (by rw[srtD_len];exact h)] at this
theorem check_no (p:List Nd) (hw:wfN p) (h:validN p=false):FC Tryz.prog 35 [nodes p] 0 [] (dgsV [(0,1)]) 0 []:=by
 have hv:=validN_c p hw;rw[h] at hv;refine FC.walk (by kernel_rfl) Tryz.func35 rfl rfl ?_
 repeat'(first|exact y0|refine y1 ?_|refine y2 ?_ ?_|(refine y8 ?_ ?_<;>intro h<;>try exact y6)|(refine wC ?_;first|refine wF 55 (pu hv ?_))|refine Ex.fz 2 (fun k=>dgC ([(0,1)].getD k (0,0))) 2 rfl rfl rfl rfl (fun _ _=>rfl) (fun k j x hk hx=>dg_cell hk hx) rfl rfl ?_|refine Fin.le (.inl rfl) rfl (VLe.refl _) rfl|refine y3 ?_|refine y7 ?_ ?_|refine y4 ?_|(refine y9 ?_ ?_<;>intro h)|exact y5|fail)
theorem check_yes (p:List Nd) (hw:wfN p) (hI:wfI p) (h:validN p=true) (hp:p.length≤2048) (t:Fo) (ha:t.At p 0) (hv:t.V (List.replicate t.cnt (false,68))) (hs:t.size=p.length):
 FC Tryz.prog 35 [nodes p] 0 [] (dgsV (srtD (rowG p (anS p t).F (anS p t).S t p.length 0 (anS p t).G))) 0 []:=by
 have hvl:=validN_c p hw;rw[h] at hvl
 have hn:∀ j,j<p.length→NumAt p j:=fun j hj=>by
  obtain⟨sl,h1,h2⟩:=kid_at ha hv (Nat.zero_le _) (by omega:j<0+t.size);exact num_at h1 h2
 have hso:=SOK.anS ha;have hT:=(declS_len false t 0 ⟨true,0,[]⟩ (st0 p)).1;have hG:=(declS_len false t 0 ⟨true,0,[]⟩ (st0 p)).2.2;have hac:=analyze_c p hp hw t ha hv hs;unfold anS at hso hac ⊢;generalize declS false t 0 ⟨true,0,[]⟩ (st0 p)=U at*;rw[show (st0 p).S.length=p.length by simp[st0]] at hT;rw[show (st0 p).G.length=0 from rfl] at hG;obtain⟨T,D,F,G0⟩:=U;simp only at hso hT hG ⊢
 have hTl:∀ q∈T,q.segs.length≤1000000:=fun q hq=>by have:=hso.1 q hq;omega
 generalize hR:rowG p F T t p.length 0 G0=R;refine FC.walk (by kernel_rfl) Tryz.func35 rfl rfl ?_
 repeat'(first|exact y0|refine y1 ?_|refine y2 ?_ ?_|(refine y8 ?_ ?_<;>intro h<;>try exact y6)|(refine wC ?_;first|refine wF 55 (pu hvl ?_)|(refine wF 56 ?_;refine CallG.mo [] hac rfl rfl (by rfl) rfl rfl ⟨VLe.refl _,trivial⟩ trivial rfl rfl (wr:=anL p ⟨T,D,F,G0⟩) (by show [_,_,_,_,_]=_;rw[renO_op,renO_op];rfl) ?_))|refine y3 ?_|refine y7 ?_ ?_|refine y4 ?_|(refine y9 ?_ ?_<;>intro h)|exact y5|fail)
 refine Ex.canon [0,1,2,3,4,5,6,7] 36 [(0,nodes p),(3,.s (.ptr (some (0,0)))),(13,nI p.length),(14,nI 0)] (ndL p D.length T F G0) rfl rfl ⟨VLe.refl _,VLe.refl _,VLe.refl _,VLe.refl _,trivial⟩ ⟨rfl,rfl,rfl,MemP.op rfl trivial⟩ (by unfold ndL dgB;generalize List.flatMap dgC _=cg;cases cg<;>rfl) ?_
 refine Ex.inv (σ:=Nat×List (Nat×Nat)) (fun q=>[(14,nI q.1)]) (fun q=>ndL p D.length T F q.2)
  (fun q=>q.1≤p.length∧q.2.length≤2048+q.1*6145∧rowG p F T t (p.length-q.1) q.1 q.2=R) (fun q=>p.length-q.1) (0,G0) rfl (fun _=>rfl) ?_ ?_ ?_ ?_
 ·exact⟨Nat.zero_le _,by simp only;omega,hR⟩
 ·exact⟨VLe.refl _,trivial⟩
 ·exact⟨rfl,rfl,rfl,SubP.op rfl trivial⟩
 ·rintro⟨i,G⟩ ⟨h1,h2,h3⟩
  simp only at h1 h2 h3 ⊢
  rcases Nat.lt_or_ge i p.length with hi|hi
  ·obtain⟨sl,g1,g2⟩:=kid_at ha hv (Nat.zero_le i) (by omega:i<0+t.size)
   have hoo:=oor_c p hp hI i (hn i hi);rw[show p.length-i=(p.length-(i+1))+1 by omega] at h3;simp only[rowG] at h3
   cases ho:oorB p i with
   |false=>
    rw[ho] at hoo h3;rw[if_neg (by decide)] at h3;have hlen:=nodeG_len (F:=F) (sc:=T.getD i z0) (G:=G) hp g1 g2;have hnd:=node_c p hp hw hI hn D.length T hT hTl F hso.2 i _ _ sl G g1 g2 (by omega);generalize nodeG p F (T.getD i z0) (t.kid 0 i) i G=G2 at*
    have k2:okH 8 (ndL p D.length T F G)=true:=(by unfold ndL dgB;generalize List.flatMap dgC _=cg;cases cg<;>rfl)
    repeat'(first|exact y0|refine y1 ?_|refine y2 ?_ ?_|(refine y8 ?_ ?_<;>intro h<;>try exact y6)|(refine wC ?_;first|(refine wF 57 ?_;refine CallG.mv [0] 0 hoo rfl rfl ⟨VLe.refl _,VLe.refl _,trivial⟩ rfl rfl (fun φ w b=>BlAt.view 1 rfl) rfl ⟨⟨rfl,_,rfl,rfl,fun h=>h⟩,trivial⟩ rfl rfl rfl rfl ?_)|(refine wF 59 ?_;refine CallG.mo [0,1,2,3,4,5,6,7] hnd rfl k2 rfl rfl rfl ⟨VLe.refl _,VLe.refl _,trivial⟩ ⟨⟨rfl,_,rfl,rfl,fun h=>h⟩,⟨rfl,_,rfl,rfl,fun h=>h⟩,⟨rfl,_,rfl,rfl,fun h=>h⟩,FitP.op rfl rfl trivial⟩ rfl rfl (wr:=[(0,some (anB p 3 D.length 8 G2.length)),(1,some (scB T)),(5,some (mapB F)),(6,none),(8,dgB 8 G2)]) (by show [_,_,_,_,_]=_;rw[renO_op];rfl) ?_))|refine y3 ?_|refine y7 ?_ ?_|refine y4 ?_|(refine y9 ?_ ?_<;>intro h)|exact y5|fail)
    all_goals try omega
    refine LoopR.move (i+1,G2) ⟨hi,by simp only;omega,h3⟩ (by simp only;omega) [0,1,2,3,4,5,8,9] rfl ?_ ?_ ?_
    ·repeat' (first|exact VLe.refl _|exact VLe.any _|exact True.intro|refine⟨?_,?_⟩)
    ·exact⟨rfl,rfl,rfl,MemP.op rfl trivial⟩
    ·exact (by unfold ndL dgB;generalize List.flatMap dgC _=cg;cases cg<;>rfl)
   |true=>
    rw[ho] at hoo h3;rw[if_pos rfl] at h3;have hlen:=nodeG_len (F:=F) (sc:=T.getD i z0) (G:=G++[(i,4)]) hp g1 g2;have hnd:=node_c p hp hw hI hn D.length T hT hTl F hso.2 i _ _ sl (G++[(i,4)]) g1 g2 (by simp only[List.length_append,List.length_singleton];omega);simp only[List.length_append,List.length_singleton] at hlen;generalize nodeG p F (T.getD i z0) (t.kid 0 i) i (G++[(i,4)])=G2 at*;simp only[ndL,List.length_append,List.length_singleton] at hnd
    have k2:okH 8 [(0,some (anB p 3 D.length 6 (G.length+1))),(1,some (scB T)),(5,some (mapB F)),(6,dgB 6 (G++[(i,4)]))]=true:=by
     unfold dgB;generalize List.flatMap dgC _=cg;cases cg<;>rfl
    repeat'(first|exact y0|refine y1 ?_|refine y2 ?_ ?_|(refine y8 ?_ ?_<;>intro h<;>try exact y6)|(refine wC ?_;first|(refine wF 57 ?_;refine CallG.mv [0] 0 hoo rfl rfl ⟨VLe.refl _,VLe.refl _,trivial⟩ rfl rfl (fun φ w b=>BlAt.view 1 rfl) rfl ⟨⟨rfl,_,rfl,rfl,fun h=>h⟩,trivial⟩ rfl rfl rfl rfl ?_)|(refine wF 58 ?_;refine CallG.mo [0,1,2,3,4,5,6,7] (report_c p D.length G i 4 (by omega)) rfl (okH_op rfl rfl rfl) rfl rfl rfl ⟨VLe.refl _,VLe.refl _,VLe.refl _,trivial⟩ ⟨⟨rfl,_,rfl,rfl,fun h=>h⟩,FitP.op rfl rfl trivial⟩ rfl rfl (wr:=[(0,some (anB p 3 D.length 8 (G.length+1))),(6,none),(8,dgB 8 (G++[(i,4)]))]) (by show [_,_,_]=_;rw[renO_op];rfl) ?_)|(refine wF 59 ?_;refine CallG.mo [0,1,2,3,4,5,8,9] hnd rfl k2 rfl rfl rfl ⟨VLe.refl _,VLe.refl _,trivial⟩ ⟨⟨rfl,_,rfl,rfl,fun h=>h⟩,⟨rfl,_,rfl,rfl,fun h=>h⟩,⟨rfl,_,rfl,rfl,fun h=>h⟩,FitP.op rfl rfl trivial⟩ rfl rfl (wr:=[(0,some (anB p 3 D.length 10 G2.length)),(1,some (scB T)),(5,some (mapB F)),(8,none),(10,dgB 10 G2)]) (by show [_,_,_,_,_]=_;rw[renO_op];rfl) ?_))|refine y3 ?_|refine y7 ?_ ?_|refine y4 ?_|(refine y9 ?_ ?_<;>intro h)|exact y5|fail)
    all_goals try omega
    refine LoopR.move (i+1,G2) ⟨hi,by simp only;omega,h3⟩ (by simp only;omega) [0,1,2,3,4,5,10,11] rfl ?_ ?_ ?_
    ·repeat' (first|exact VLe.refl _|exact VLe.any _|exact True.intro|refine⟨?_,?_⟩)
    ·exact⟨rfl,rfl,rfl,MemP.op rfl trivial⟩
    ·exact (by unfold ndL dgB;generalize List.flatMap dgC _=cg;cases cg<;>rfl)
  ·have he:i=p.length:=by omega
   subst he;rw[Nat.sub_self] at h3;simp only[rowG] at h3;subst h3;have hl:=srtD_len G;unfold dgsV;rw[hl]
   rcases Nat.eq_zero_or_pos G.length with hz|hz
   ·obtain rfl:=List.eq_nil_of_length_eq_zero hz
    show Ex _ _ _ _ _ [(0,some (anB p 3 D.length 6 0)),(1,some (scB T)),(5,some (mapB F)),(6,none)] _
    repeat'(first|exact y0|refine y1 ?_|refine y2 ?_ ?_|(refine y8 ?_ ?_<;>intro h<;>try exact y6)|refine RegX.atCall (CallG.me [6,7] sort_0 rfl rfl ⟨VLe.refl _,VLe.refl _,trivial⟩ trivial rfl rfl rfl ?_)|refine Ex.set 2 (.s (.frz (fun k=>dgC ((srtD []).getD k (0,0))) 2 0)) (VLe.s SLe.row0) rfl ?_|refine Fin.le (.inl rfl) rfl (VLe.refl _) rfl|refine y3 ?_|refine y7 ?_ ?_|refine y4 ?_|(refine y9 ?_ ?_<;>intro h)|exact y5|fail)
    all_goals try omega
   ·have hsp:=sort_p G (by omega) hz
    rw[show ndL p D.length T F G=[(0,some (anB p 3 D.length 6 G.length)),(1,some (scB T)),(5,some (mapB F)),(6,some (dgS 6 G))] from by unfold ndL;rw[dgB_pos hz]]
    repeat'(first|exact y0|refine y1 ?_|refine y2 ?_ ?_|(refine y8 ?_ ?_<;>intro h<;>try exact y6)|refine RegX.atCall (CallG.me [6,7] hsp rfl rfl ⟨VLe.refl _,VLe.refl _,trivial⟩ ⟨⟨rfl,_,rfl,rfl,fun h=>h⟩,trivial⟩ rfl rfl rfl ?_)|refine Ex.fz 2 (fun k=>dgC ((srtD G).getD k (0,0))) 2 rfl rfl rfl rfl (fun _ _=>rfl) (fun k j x hk hx=>dg_cell (by omega) hx) rfl rfl ?_|refine Fin.le (.inl rfl) rfl (VLe.refl _) rfl|refine y3 ?_|refine y7 ?_ ?_|refine y4 ?_|(refine y9 ?_ ?_<;>intro h)|exact y5|fail)
    all_goals try omega
structure Ins where
 op:Int
 int:Int
 str:By
def insC (x:Ins):List S:=[.int .i64 x.op,.int .u64 x.int,.str x.str]
def dI:Ins:=⟨0,0,[]⟩
abbrev Cd:=List Ins
def em (C:Cd) (op n:Int) (s:By):Cd:=C++[⟨op,n,s⟩]
def pat (C:Cd) (j:Nat) (z:Int):Cd:=C.set j {C.getD j dI with int:=z}
def Fo.hd:Fo→Nd
 | .nil=>dN
 | .cons x _ _=>x
def Fo.tl:Fo→Fo
 | .nil=> .nil
 | .cons _ _ n=>n
def Fo.sub:Fo→Fo
 | .nil=> .nil
 | .cons _ k _=>k
def Fo.ints:Fo→List Int
 | .nil=>[]
 | .cons x _ n=>x.int::n.ints
def bufB (size:Nat) (l:List Int):By:=(List.range size).map fun j=>if j<l.length then ((l.getD j 0)%256).toNat.toUInt8 else 0
def opr (op:Int) (C:Cd):Cd:=
 if op=76 then em C 16 0 [] else if op=84 then em C 17 0 [] else if op=88 then em C 20 0 []
 else if 77≤op∧op≤83 then em C 18 op [] else em C 19 op []
def expE (x:Nd) (k:Fo) (C c0 c1 c2 c5 c6:Cd):Cd:=
 if x.op=1 then em C 1 x.int [] else if x.op=2 then em C 2 0 x.str else if x.op=3 then em C 6 0 x.str else if x.op=6 then em C 7 x.int [] else if x.op=7 then em C 8 x.int []
 else if x.op=5 then em c0 27 x.kids x.str
 else if x.op=41 then em C 29 k.tl.hd.int k.hd.str
 else if x.op=42 then em c5 31 0 k.hd.str
 else if x.op=50 then em C 3 0 (bufB k.hd.int.toNat k.tl.sub.ints)
 else if x.op=51 then em c6 5 (256*k.hd.int+k.tl.hd.kids) []
 else if x.op=85 then c1 else if x.op=87 then c2 else if x.op=86 then em C 23 0 k.hd.str
 else opr x.op c0
def refE (x:Nd) (C c0 c4:Cd):Cd:=if x.op=3 then em C 13 0 x.str else if x.op=6 then em C 14 x.int [] else if x.op=7 then em C 15 x.int [] else if x.op=84 then c4 else opr 76 c0
def typE (x:Nd) (C c0 c4:Cd):Cd:=if x.op=3 then em C 22 0 x.str else if x.op=6 then em (em C 7 x.int []) 21 0 [] else if x.op=7 then em (em C 8 x.int []) 21 0 [] else em (em (if x.op=84 then c4 else opr 76 c0) 17 0 []) 21 0 []
def cod:Nat→Fo→Cd→Cd
 |_,.nil,C=>C
 |m,.cons x k n,C=>
  if m=1 then refE x C (cod 0 k C) (cod 4 k C)
  else if m=2 then typE x C (cod 0 k C) (cod 4 k C)
  else if m=5 then cod 0 n C else if m=6 then cod 7 n C else if m=7 then cod 3 k C
  else if m=3 then cod 3 n (if x.op=3 then em C 4 0 x.str else expE x k C (cod 0 k C) (cod 1 k C) (cod 2 k C) (cod 5 k C) (cod 6 k C))
  else if m=4 then expE x k C (cod 0 k C) (cod 1 k C) (cod 2 k C) (cod 5 k C) (cod 6 k C)
  else cod 0 n (expE x k C (cod 0 k C) (cod 1 k C) (cod 2 k C) (cod 5 k C) (cod 6 k C))
theorem cod_cons (m:Nat) (x:Nd) (k n:Fo) (C:Cd):cod m (.cons x k n) C=
 if m=1 then refE x C (cod 0 k C) (cod 4 k C)
 else if m=2 then typE x C (cod 0 k C) (cod 4 k C)
 else if m=5 then cod 0 n C else if m=6 then cod 7 n C else if m=7 then cod 3 k C
 else if m=3 then cod 3 n (if x.op=3 then em C 4 0 x.str else expE x k C (cod 0 k C) (cod 1 k C) (cod 2 k C) (cod 5 k C) (cod 6 k C))
 else if m=4 then expE x k C (cod 0 k C) (cod 1 k C) (cod 2 k C) (cod 5 k C) (cod 6 k C)
 else cod 0 n (expE x k C (cod 0 k C) (cod 1 k C) (cod 2 k C) (cod 5 k C) (cod 6 k C)):=by cases m<;>rfl
def sto (t:Fo) (C:Cd):Cd:=if t.hd.op=3 then em C 9 0 t.hd.str else if t.hd.op=6 then em C 10 t.hd.int [] else if t.hd.op=7 then em C 11 t.hd.int [] else em (cod 1 t C) 12 0 []
abbrev Stm:=Int→Cd→List Nat→Cd×List Nat
def stE (x:Nd) (k:Fo) (f1 f3:Stm) (lp:Int) (C:Cd) (B:List Nat):Cd×List Nat:=
 if x.op=30 then (sto k.tl (cod 4 k C),B)
 else if x.op=31 then
  if x.kids<3 then
   (pat (f1 lp (em (cod 4 k C) 25 0 []) B).1 (cod 4 k C).length (f1 lp (em (cod 4 k C) 25 0 []) B).1.length,(f1 lp (em (cod 4 k C) 25 0 []) B).2)
  else
   (fun (R3:Cd×List Nat)=>(fun (R6:Cd×List Nat)=>(pat R6.1 R3.1.length R6.1.length,R6.2)) (f3 lp (pat (em R3.1 24 0 []) (cod 4 k C).length (R3.1.length+1:Nat)) R3.2)) (f1 lp (em (cod 4 k C) 25 0 []) B)
 else if x.op=32 then
  (fun (R3:Cd×List Nat)=>(R3.2.foldl (fun D j=>pat D j (R3.1.length+1:Nat)) (em R3.1 24 C.length []),B)) (f1 C.length (em (cod 4 k C) 25 0 []) [(cod 4 k C).length])
 else if x.op=33 then (em (cod 0 k C) 28 x.kids [],B)
 else if x.op=34 then (em C 24 0 [],B++[C.length])
 else if x.op=35 then (em C 24 lp [],B)
 else if x.op=36 then (em C 30 0 k.hd.str,B) else if x.op=37 then (em C 32 0 k.hd.str,B) else if x.op=38 then (em C 33 0 k.hd.str,B)
 else if x.op=39 then (em (cod 4 k C) 34 0 [],B)
 else if x.op=40 then (em (cod 5 k C) 35 0 k.hd.str,B)
 else (em (expE x k C (cod 0 k C) (cod 1 k C) (cod 2 k C) (cod 5 k C) (cod 6 k C)) 26 0 [],B)
def stmC:Nat→Fo→Stm
 |_,.nil,_,C,B=>(C,B)
 |m,.cons x k n,lp,C,B=>
  if m=1 then stmC 2 n lp C B else if m=2 then stmC 0 k lp C B else if m=3 then stmC 1 n lp C B
  else stmC 0 n lp (stE x k (stmC 1 k) (stmC 3 k) lp C B).1 (stE x k (stmC 1 k) (stmC 3 k) lp C B).2
theorem stmC_cons (m:Nat) (x:Nd) (k n:Fo) (lp:Int) (C:Cd) (B:List Nat):stmC m (.cons x k n) lp C B=
 if m=1 then stmC 2 n lp C B else if m=2 then stmC 0 k lp C B else if m=3 then stmC 1 n lp C B
 else stmC 0 n lp (stE x k (stmC 1 k) (stmC 3 k) lp C B).1 (stE x k (stmC 1 k) (stmC 3 k) lp C B).2:=by cases m<;>rfl
theorem Ends.uniq {p:List Nd} {e n i:Nat} (h:Ends p e n i):∀ {e':Nat},Ends p e' n i→e=e':=by
 induction h with
 |done=>
  intro e' h';cases h';rfl
 |step h k hk r ih=>
  intro e' h'
  cases h' with
  |step _ k' hk' r'=>
   have:k=k':=by omega
   subst this;exact ih r'
structure EOK (p:List Nd) (E:List Nat):Prop where
 len:E.length=p.length
 on:∀ i,i<p.length→Ends p (E.getD i 0) 1 i
theorem EOK.get {p:List Nd} {E:List Nat} (h:EOK p E) {x:Nd} {k n:Fo} {i:Nat} (ha:(Fo.cons x k n).At p i):E.getD i 0=i+1+k.size:=(h.on i (At.lt ha)).uniq (At.ends1 ha)
end Go.Proofs.YtbokilgdefkmiaaGreatDoor
namespace Go.Proofs.YtbokilgdefkmiaaGreatDoor
namespace Ab
open Go
theorem all2_get {α β:Type} {r:α→β→Prop}:∀ {l:List α} {xs:List β} {o:Nat} {s:α},All2 r l xs→l[o]? =some s→∃ x,xs[o]? =some x∧r s x
 |[],_,o,s,_,h=>by simp at h
 |a::l,x::xs,0,s,h,hs=>by
  simp only[List.getElem?_cons_zero,Option.some.injEq] at hs;subst hs;exact⟨x,rfl,h.1⟩
 |a::l,x::xs,o+1,s,h,hs=>by
  simp only[List.getElem?_cons_succ] at hs ⊢;exact all2_get h.2 hs
 |_::_,[],_,_,h,_=>h.elim
def cellB (bl:Bl) (o:Nat) (x:S):Bl:={bl with cells:=bl.cells.set o x}
theorem put_same {L:Hp} {i o:Nat} {bl:Bl} {x:S} (hl:lk L i=some bl) {j:Nat} {c:Bl} (h:lk (put L i (some (cellB bl o x))) j=some c):∃ c',lk L j=some c'∧c'.ro=c.ro∧(j≠i→c'=c):=by
 rw[lk_put] at h;split at h
 ·rename_i e;subst e;cases h;exact⟨bl,hl,rfl,fun q=>absurd rfl q⟩
 ·exact⟨c,h,rfl,fun _=>rfl⟩
theorem put_back {L:Hp} {i o:Nat} {bl:Bl} {x:S} (hl:lk L i=some bl) {j:Nat} {c:Bl} (h:lk L j=some c):∃ c',lk (put L i (some (cellB bl o x))) j=some c'∧c'.ro=c.ro∧(j≠i→c'=c):=by
 rw[lk_put];split
 ·rename_i e;subst e;rw[hl] at h;cases h;exact⟨_,rfl,rfl,fun q=>absurd rfl q⟩
 ·exact⟨c,h,rfl,fun _=>rfl⟩
theorem put_wr {φ:Ph} {L:Hp} {i o:Nat} {bl:Bl} {x:S} (hl:lk L i=some bl) {b:Nat}:Wr φ (put L i (some (cellB bl o x))) b↔Wr φ L b:=by
 constructor
 ·rintro⟨j,c,q,h1,h2,h3,h4⟩
  obtain⟨c',k1,k2,_⟩:=put_same hl h1;exact⟨j,c',q,k1,h2,h3,k2.trans h4⟩
 ·rintro⟨j,c,q,h1,h2,h3,h4⟩
  obtain⟨c',k1,k2,_⟩:=put_back (o:=o) (x:=x) hl h1;exact⟨j,c',q,k1,h2,h3,k2.trans h4⟩
theorem SC.cst {P:Program} {f:FuncId} {args:List V} {n:Nat} {L:Hp} {v:V} {n':Nat} {L':Hp} {i o i' o':Nat} {bl bl':Bl} {s:S} (hl:lk L i=some bl) (ho:bl.cells[o]? =some s) (hl':lk L' i'=some bl') (ho':bl'.cells[o']? =some s) (hj:isJ s=false) (hf:bl.flat=false) (hf':bl'.flat=false)
 (sc:∀ x:Value,isCell x=true→SC P f args n (put L i (some (cellB bl o (.cst x)))) v n' (put L' i' (some (cellB bl' o' (.cst x))))):SC P f args n L v n' L':=by
 intro φ xs w hx hg hfr;obtain⟨b,hb,hat⟩:=hg.hr i bl hl;obtain⟨pre,cs,rest,fr,h1,h2,h3,h4,h5,h6⟩:=hat
 have eph:∀ φ:Ph,bl.ph φ=φ:=fun φ=>by unfold Bl.ph;rw[hf]
 have eph':∀ φ:Ph,bl'.ph φ=φ:=fun φ=>by unfold Bl.ph;rw[hf']
 obtain⟨x,hx1,hx2⟩:=all2_get h3 ho;rw[eph] at hx2;have hc:isCell x=true:=hx2.cell hj
 have at1:BlAt φ w b (cellB bl o (.cst x)):=⟨pre,cs,rest,fr,h1,h2,all2_set h3 (fun y hy=>by rw[hx1] at hy;cases hy;exact⟨rfl,hc⟩),h4,h5,h6⟩
 have hg1:Good φ (put L i (some (cellB bl o (.cst x)))) w:=by
  refine⟨fun j c h=>?_,fun j k c c' q q' h k1 k2 k3 k4=>?_,fun b l h=>⟨(hg.fz b l h).1,fun hw=>(hg.fz b l h).2 ((put_wr hl).1 hw)⟩,hg.gz⟩
  ·rw[lk_put] at h
   split at h
   ·rename_i e;subst e;cases h;exact⟨b,hb,at1⟩
   ·exact hg.hr j c h
  ·obtain⟨d,e1,e2,_⟩:=put_same hl h
   obtain⟨d',e1',e2',_⟩:=put_same hl k1
   rcases hg.inj j k d d' q q' e1 e1' k2 k3 k4 with e|⟨e,e'⟩
   ·exact .inl e
   ·exact .inr ⟨e2▸e,e2'▸e'⟩
 refine (sc x hc φ xs w hx hg1 hfr).mono ?_;rintro e w' ⟨φ',y,he,hv,hg',hn,st,hle,hag⟩
 have hle2:φ.le φ':=⟨fun j q hjq=>by
  by_cases h:j<n
  ·rw[hag j h];exact hjq
  ·rw[hfr j (by omega)] at hjq;exact (by cases hjq),st.zle⟩
 have lk1:lk (put L' i' (some (cellB bl' o' (.cst x)))) i'=some (cellB bl' o' (.cst x)):=by rw[lk_put,if_pos rfl]
 obtain⟨b',hb',pre',cs',rest',fr',g1,g2,g3,g4,g5,g6⟩:=hg'.hr i' _ lk1
 have at2:BlAt φ' w' b' bl':=by
  refine⟨pre',cs',rest',fr',g1,g2,?_,g4,g5,g6⟩
  have hlt:o'<bl'.cells.length:=by
   rcases Nat.lt_or_ge o' bl'.cells.length with h|h
   ·exact h
   ·rw[List.getElem?_eq_none h] at ho';cases ho'
  have g3':All2 (Sr (bl'.ph φ')) (bl'.cells.set o' (.cst x)) cs':=g3
  have hback:bl'.cells=(bl'.cells.set o' (.cst x)).set o' s:=by
   refine List.ext_getElem? fun j=>?_
   rw[List.getElem?_set,List.length_set];split
   ·rename_i e;subst e;exact ho'
   ·rename_i e;rw[List.getElem?_set,if_neg e]
  rw[hback]
  refine all2_set g3' fun z hz=>?_
  have hz1:Sr (bl'.ph φ') (.cst x) z:=all2_at g3' (by rw[List.getElem?_set,if_pos rfl,if_pos hlt]) hz;obtain⟨rfl,_⟩:=hz1;rw[eph'];exact hx2.mono hle2
 have hg2:Good φ' L' w':=by
  refine⟨fun j c h=>?_,fun j k c c' q q' h k1 k2 k3 k4=>?_,fun b l h=>⟨(hg'.fz b l h).1,fun hw=>(hg'.fz b l h).2 ((put_wr hl').2 hw)⟩,hg'.gz⟩
  ·by_cases e:i'=j
   ·subst e;rw[hl'] at h;cases h;exact⟨b',hb',at2⟩
   ·exact hg'.hr j c (by rw[lk_put,if_neg e];exact h)
  ·obtain⟨d,e1,e2,_⟩:=put_back (o:=o') (x:=.cst x) hl' h
   obtain⟨d',e1',e2',_⟩:=put_back (o:=o') (x:=.cst x) hl' k1
   rcases hg'.inj j k d d' q q' e1 e1' k2 k3 k4 with e|⟨e,e'⟩
   ·exact .inl e
   ·exact .inr ⟨e2▸e,e2'▸e'⟩
 refine⟨φ',y,he,hv,hg2,hn,⟨st.os,st.tape,st.output,st.size,fun q hq hw=>st.keep q hq fun h=>hw ((put_wr hl).1 h),fun j c q h k1 k2=>?_,st.zle,fun q l h=>?_⟩,hle,hag⟩
 ·obtain⟨d,e1,e2,_⟩:=put_back (o:=o') (x:=.cst x) hl' h
  obtain⟨k,c1,q1,r1,r2,r3,r4,r5⟩:=st.fresh j d q e1 k1 k2;obtain⟨d1,f1,f2,_⟩:=put_same hl r1;exact⟨k,d1,q1,f1,r2,r3,fun h=>e2▸r4 (f2▸h),r5.imp id fun h=>f2.trans h⟩
 ·rcases st.zfr q l h with h|h|h
  ·exact .inl h
  ·exact .inr (.inl h)
  ·exact .inr (.inr ((put_wr hl).1 h))
section
variable {P:Program} {b:Nat} {env:List V} {n:Nat} {L:Hp} {R:Post} {c:Code}
theorem Ex.capC (j o i z:Nat) {m K:Nat} {bli blj:Bl} (hlj:lk L j=some blj) (hs:blj.cells[o]? =some (.slc (some (i,0)) m (some K))) (hf:blj.flat=false) (hli:lk L i=some bli) (hij:i≠j) (hgh:bli.gh=none) (hK:K*z≤bli.cells.length)
 {L':Hp} (hL:put (put L i (some {bli with gh:=some (n,z)})) j (some {blj with cells:=blj.cells.set o (.sla i n m)})=L') (k:Ex P b c env (n+1) L' R):Ex P b c env n L R:=by
 subst hL;intro φ a w h1 h2 h3 h4
 have hle:φ.le ⟨fun x=>if x=n then some (K,0) else φ x,φ.z⟩:=⟨fun x y hx=>by
  have:x≠n:=fun e=>by rw[e,h3 n (Nat.le_refl _)] at hx;cases hx
  show (if x=n then _ else _)=_
  rw[if_neg this];exact hx,fun _ _ h=>h⟩
 have hn:(⟨fun x=>if x=n then some (K,0) else φ x,φ.z⟩:Ph) n=some (K,0):=by show (if n=n then _ else _)=_;rw[if_pos rfl]
 have hne:∀ x,x≠n→(⟨fun x=>if x=n then some (K,0) else φ x,φ.z⟩:Ph) x=φ x:=fun x hx=>by show (if x=n then _ else _)=_;rw[if_neg hx]
 have hz:(⟨fun x=>if x=n then some (K,0) else φ x,φ.z⟩:Ph).z=φ.z:=rfl;generalize (⟨fun x=>if x=n then some (K,0) else φ x,φ.z⟩:Ph)=φ' at hle hn hne hz
 have back:∀ x bx,lk (put (put L i (some {bli with gh:=some (n,z)})) j (some {blj with cells:=blj.cells.set o (.sla i n m)})) x=some bx→∃ b0,lk L x=some b0∧bx.ro=b0.ro:=by
  intro x bx hx;rw[lk_put] at hx;split at hx
  ·rename_i e;subst e;cases hx;exact⟨_,hlj,rfl⟩
  ·rw[lk_put] at hx
   split at hx
   ·rename_i e;subst e;cases hx;exact⟨_,hli,rfl⟩
   ·exact⟨_,hx,rfl⟩
 have num:∀ x b0,lk L x=some b0→x≠n:=fun x b0 hx e=>by
  obtain⟨q,hq,_⟩:=h2.hr x b0 hx;rw[e,h3 n (Nat.le_refl _)] at hq;cases hq
 have wr1:∀ x,Wr φ' (put (put L i (some {bli with gh:=some (n,z)})) j (some {blj with cells:=blj.cells.set o (.sla i n m)})) x→Wr φ L x:=by
  rintro x ⟨jj,bj,d,q1,q2,q3,q4⟩;obtain⟨b0,r1,r2⟩:=back jj bj q1;exact⟨jj,b0,d,r1,by rw[hne jj (num jj b0 r1)] at q2;exact q2,q3,r2▸q4⟩
 have good2:Good φ' (put (put L i (some {bli with gh:=some (n,z)})) j (some {blj with cells:=blj.cells.set o (.sla i n m)})) w:=by
  refine⟨fun x bx hx=>?_,fun x y bx by' b1 b2 hx hy hb1 hb2 e=>?_,fun x l hx=>⟨(h2.fz x l (hz▸hx)).1,fun hw=>(h2.fz x l (hz▸hx)).2 (wr1 x hw)⟩,by rw[hz];exact h2.gz⟩
  ·rw[lk_put] at hx
   split at hx
   ·rename_i e;subst e;cases hx
    obtain⟨b0,hb0,pre,xs,rest,fr,p1,p2,p3,p4,p5,p6,p7⟩:=h2.hr j blj hlj;refine⟨b0,hle _ _ hb0,pre,xs,rest,fr,p1,p2,?_,p4,p5,fun g z e=>?_,p7⟩
    ·refine all2_set (p3.mono fun _ _=>Sr.mono (blj.ph_le hle)) fun x hx=>?_
     have hx3:=(all2_at p3 hs hx).mono (blj.ph_le_self φ);obtain⟨d,kk,q1,q2,q3,q4⟩:=hx3
     have hkk:K=kk:=by
      rcases q4 with q4|q4
      ·cases q4
      ·exact Option.some.inj q4
     subst hkk
     have:blj.ph φ'=φ':=by unfold Bl.ph;rw[hf]
     show Sr (blj.ph φ') _ x;rw[this];refine⟨d,K,hle _ _ q1,hn,?_,q3⟩;rw[Nat.zero_add] at q2;exact q2
    ·obtain⟨k,hk,hz⟩:=p6 g z e
     exact⟨k,hle _ _ hk,hz⟩
   ·rw[lk_put] at hx
    split at hx
    ·rename_i e;subst e;cases hx
     obtain⟨b0,hb0,pre,xs,rest,fr,p1,p2,p3,p4,p5,p6,p7⟩:=h2.hr i bli hli;refine⟨b0,hle _ _ hb0,pre,xs,rest,fr,p1,p2,(p3.mono fun _ _=>Sr.mono (bli.ph_le hle)),p4,p5,fun g z' e=>?_,p7⟩;cases e;refine⟨K,hn,?_⟩;have:=p3.len;rw[List.length_append];omega
    ·obtain⟨b0,hb0,hat⟩:=h2.hr x bx hx
     exact⟨b0,hle _ _ hb0,hat.mono hle rfl⟩
  ·obtain⟨x0,q1,q2⟩:=back x bx hx
   obtain⟨y0,r1,r2⟩:=back y by' hy
   rw[hne x (num x x0 q1)] at hb1;rw[hne y (num y y0 r1)] at hb2;rw[q2,r2];exact h2.inj x y x0 y0 b1 b2 q1 r1 hb1 hb2 e
 refine wp_mono (k φ' a w (h1.mono hle) good2 (fun x hx=>by rw[hne x (by omega)];exact h3 x (by omega)) (by omega)) ?_;rintro x a' w' ⟨φ2,e,m',M,hR,k1,k2,k3,k4,k5,k6⟩;refine⟨φ2,e,m',M,hR,k1,k2,k3,k4,⟨k5.os,k5.tape,k5.output,k5.size,fun d hd hn=>k5.keep d hd fun hw=>hn (wr1 d hw),fun jj bl1 d hj hd hlt'=>?_,fun x l hx=>k5.zle x l (hz▸hx),fun x l hx=>?_⟩,fun x hx=>by rw[k6 x hx,hne x (by omega)]⟩
 ·obtain⟨kk,bl',d',hkk,hc',q1,q2,q3⟩:=k5.fresh jj bl1 d hj hd hlt'
  obtain⟨b0,r1,r2⟩:=back kk bl' hkk;exact⟨kk,b0,d',r1,by rw[hne kk (num kk b0 r1)] at hc';exact hc',q1,fun h=>q2 (r2.trans h),q3.imp id fun h=>r2▸h⟩
 ·rcases k5.zfr x l hx with q|q|q
  ·exact .inl (hz▸q)
  ·exact .inr (.inl q)
  ·exact .inr (.inr (wr1 x q))
theorem Ex.capS (t i z:Nat) {m K:Nat} {bli:Bl} (ht:env.getD t .undef=.s (.slc (some (i,0)) m (some K))) (hli:lk L i=some bli) (hgh:bli.gh=none) (hK:K*z≤bli.cells.length)
 {env':List V} (he:env.set t (.s (.sla i n m))=env') {L':Hp} (hL:put L i (some {bli with gh:=some (n,z)})=L') (k:Ex P b c env' (n+1) L' R):Ex P b c env n L R:=by
 subst hL;subst he;intro φ a w h1 h2 h3 h4
 have hle:φ.le ⟨fun x=>if x=n then some (K,0) else φ x,φ.z⟩:=⟨fun x y hx=>by
  have:x≠n:=fun e=>by rw[e,h3 n (Nat.le_refl _)] at hx;cases hx
  show (if x=n then _ else _)=_
  rw[if_neg this];exact hx,fun _ _ h=>h⟩
 have hn:(⟨fun x=>if x=n then some (K,0) else φ x,φ.z⟩:Ph) n=some (K,0):=by show (if n=n then _ else _)=_;rw[if_pos rfl]
 have hne:∀ x,x≠n→(⟨fun x=>if x=n then some (K,0) else φ x,φ.z⟩:Ph) x=φ x:=fun x hx=>by show (if x=n then _ else _)=_;rw[if_neg hx]
 have hz:(⟨fun x=>if x=n then some (K,0) else φ x,φ.z⟩:Ph).z=φ.z:=rfl;generalize (⟨fun x=>if x=n then some (K,0) else φ x,φ.z⟩:Ph)=φ' at hle hn hne hz
 have back:∀ x bx,lk (put L i (some {bli with gh:=some (n,z)})) x=some bx→∃ b0,lk L x=some b0∧bx.ro=b0.ro:=by
  intro x bx hx;rw[lk_put] at hx;split at hx
  ·rename_i e;subst e;cases hx;exact⟨_,hli,rfl⟩
  ·exact⟨_,hx,rfl⟩
 have num:∀ x b0,lk L x=some b0→x≠n:=fun x b0 hx e=>by
  obtain⟨q,hq,_⟩:=h2.hr x b0 hx;rw[e,h3 n (Nat.le_refl _)] at hq;cases hq
 have wr1:∀ x,Wr φ' (put L i (some {bli with gh:=some (n,z)})) x→Wr φ L x:=by
  rintro x ⟨jj,bj,d,q1,q2,q3,q4⟩;obtain⟨b0,r1,r2⟩:=back jj bj q1;exact⟨jj,b0,d,r1,by rw[hne jj (num jj b0 r1)] at q2;exact q2,q3,r2▸q4⟩
 have good2:Good φ' (put L i (some {bli with gh:=some (n,z)})) w:=by
  refine⟨fun x bx hx=>?_,fun x y bx by' b1 b2 hx hy hb1 hb2 e=>?_,fun x l hx=>⟨(h2.fz x l (hz▸hx)).1,fun hw=>(h2.fz x l (hz▸hx)).2 (wr1 x hw)⟩,by rw[hz];exact h2.gz⟩
  ·rw[lk_put] at hx
   split at hx
   ·rename_i e;subst e;cases hx
    obtain⟨b0,hb0,pre,xs,rest,fr,p1,p2,p3,p4,p5,p6,p7⟩:=h2.hr i bli hli;refine⟨b0,hle _ _ hb0,pre,xs,rest,fr,p1,p2,(p3.mono fun _ _=>Sr.mono (bli.ph_le hle)),p4,p5,fun g z' e=>?_,p7⟩;cases e;refine⟨K,hn,?_⟩;have:=p3.len;rw[List.length_append];omega
   ·obtain⟨b0,hb0,hat⟩:=h2.hr x bx hx
    exact⟨b0,hle _ _ hb0,hat.mono hle rfl⟩
  ·obtain⟨x0,q1,q2⟩:=back x bx hx
   obtain⟨y0,r1,r2⟩:=back y by' hy
   rw[hne x (num x x0 q1)] at hb1;rw[hne y (num y y0 r1)] at hb2;rw[q2,r2];exact h2.inj x y x0 y0 b1 b2 q1 r1 hb1 hb2 e
 have env2:EnvR φ' (env.set t (.s (.sla i n m))) a:=by
  refine⟨h1.1,all2_set (h1.2.mono fun _ _=>Vr.mono hle) fun x hx=>?_⟩
  have hs:env[t]? =some (.s (.slc (some (i,0)) m (some K))):=by
   rw[List.getD_eq_getElem?_getD] at ht
   cases e:env[t]? with
   |none=>rw[e] at ht;cases ht
   |some y=>rw[e] at ht;exact congrArg some ht
  obtain⟨d,kk,q1,q2,q3,q4⟩:=all2_at h1.2 hs hx
  have hkk:K=kk:=by
   rcases q4 with q4|q4
   ·cases q4
   ·exact Option.some.inj q4
  subst hkk;refine⟨d,K,hle _ _ q1,hn,?_,q3⟩;rw[Nat.zero_add] at q2;exact q2
 refine wp_mono (k φ' a w env2 good2 (fun x hx=>by rw[hne x (by omega)];exact h3 x (by omega)) (by omega)) ?_;rintro x a' w' ⟨φ2,e,m',M,hR,k1,k2,k3,k4,k5,k6⟩;refine⟨φ2,e,m',M,hR,k1,k2,k3,k4,⟨k5.os,k5.tape,k5.output,k5.size,fun d hd hn=>k5.keep d hd fun hw=>hn (wr1 d hw),fun jj bl1 d hj hd hlt'=>?_,fun x l hx=>k5.zle x l (hz▸hx),fun x l hx=>?_⟩,fun x hx=>by rw[k6 x hx,hne x (by omega)]⟩
 ·obtain⟨kk,bl',d',hkk,hc',q1,q2,q3⟩:=k5.fresh jj bl1 d hj hd hlt'
  obtain⟨b0,r1,r2⟩:=back kk bl' hkk;exact⟨kk,b0,d',r1,by rw[hne kk (num kk b0 r1)] at hc';exact hc',q1,fun h=>q2 (r2.trans h),q3.imp id fun h=>r2▸h⟩
 ·rcases k5.zfr x l hx with q|q|q
  ·exact .inl (hz▸q)
  ·exact .inr (.inl q)
  ·exact .inr (.inr (wr1 x q))
end
section
variable {P:Program} {ops:Array Oper} {d:Bool} {acc:List Row} {os:List Oper} {env:List V} {n:Nat} {L:Hp} {R:Post}
theorem RegX.ixr {dst:Option Tmp} {t el:TypeId} {x ix:Operand} {t':TypeId} {pos:String} {af:Array Edge} {gd:Option (Nat×Bool)} {i g m sz:Nat} {kd:IntKind} {z:Int} (k:Nat)
 (hd:ev env x=.s (.row i g m)) (hix:ev env ix=.s (.int kd z)) (hz:z=(k:Int)) (hk:k<m) (ht:P.underlying t=some (.slice el)) (hsz:elemSz P el=some sz)
 (hw:want ops env ⟨dst,.indexAddr t x ix,t',pos,af,gd⟩=some true)
 (kk:RegX P ops d (pushR d ⟨dst,.indexAddr t x ix,t',pos,af,gd⟩ [] [] acc) os (setD env dst (.s (.ptr (some (i,k*sz))))) n L R):RegX P ops d acc (⟨dst,.indexAddr t x ix,t',pos,af,gd⟩::os) env n L R:=by
 subst hz;refine RegX.op (foot:=[]) (wr:=[]) hw ?_ (Nat.le_refl _) kk
 refine OpL.light fun φ a w hop _=>?_
 have g1:=hop x (by simp[Op.operands]);have g2:=hop ix (by simp[Op.operands]);rw[hd] at g1;rw[hix] at g2;simp only[Vr,Sr] at g2
 rcases g1 with ⟨h0,_⟩|⟨_,b,c,hb,hg,hv,hle⟩
 ·omega
 ·refine⟨.pointer (some ⟨b.1,k*sz+b.2,none⟩),?_,b,hb,rfl⟩
  have h1:(0:Int)≤(k:Int):=by omega
  have h2:(k:Int)<(m:Int):=by omega
  simp only[execOp,hv,g2,Instr.indexAt,asIntOf,Sem.run_bind,Sem.run_pure,run_underlying ht,Result.andThen_ok,elemSz_ok hsz,addr_add];rw[if_pos ⟨h1,h2⟩];simp[elemSz_ok hsz,addr_add,Nat.add_comm]
end
end Ab
end Go.Proofs.YtbokilgdefkmiaaGreatDoor
namespace Go.Proofs.YtbokilgdefkmiaaGreatDoor
open Go Ab
set_option maxRecDepth 100000
set_option maxHeartbeats 1000000
abbrev cdB (p:List Nd) (E:List Nat) (c n:Nat) (s:S):Bl:=
 {cells:=[.frz (fun k=>ndC (p.getD k dN)) 4 p.length,.frz (fun k=>[.int .i64 ((E.getD k 0:Nat):Int)]) 1 E.length,.row c (c+1) n,s],ty:=72}
abbrev ccB (c:Nat) (C:Cd):Option Bl:=opB 40 (c+1) 3 (C.flatMap insC)
abbrev cdL (p:List Nd) (E:List Nat) (C:Cd) (s:S):Hp:=[(0,some (cdB p E 1 C.length s)),(1,ccB 1 C)]
abbrev cdL' (p:List Nd) (E:List Nat) (C:Cd) (s:S):Hp:=[(0,some (cdB p E 5 C.length s)),(1,none),(5,ccB 5 C)]
theorem ins_len:∀ C:Cd,(C.flatMap insC).length=C.length*3
 |[]=>rfl
 |x::C=>by rw[List.flatMap_cons,List.length_append,ins_len C];simp only[List.length_cons];simp[insC];omega
theorem ins_push (C:Cd) (op n:Int) (s:By):(em C op n s).flatMap insC=C.flatMap insC++insC ⟨op,n,s⟩:=by unfold em;rw[List.flatMap_append];simp
theorem em_length (C:Cd) (op n:Int) (s:By):(em C op n s).length=C.length+1:=by simp[em]
theorem emit_c (p:List Nd) (E:List Nat) (C:Cd) (hC:C.length≤1000000000) (x:Value) (op z:Int) (s:By):
 FC Tryz.prog 38 [.s (.ptr (some (0,0))),nI op,nU z,sV s] 5 (cdL p E C (.cst x)) (nI C.length) 7 (cdL' p E (em C op z s) (.cst x)):=by
 have hsz:(Tryz.prog.types[40]).size=3:=by kernel_rfl
 have hby:(Tryz.prog.types[40]).bytes=32:=by kernel_rfl
 rw[cdL',em_length,ccB,ins_push];refine FC.walk (by kernel_rfl) Tryz.func38 rfl rfl ?_
 repeat'(first|exact y0|refine y1 ?_|refine y2 ?_ ?_|(refine y8 ?_ ?_<;>intro h<;>try exact y6)|refine y3 ?_|refine y7 ?_ ?_|refine y4 ?_|(refine y9 ?_ ?_<;>intro h)|exact y5|fail)
 refine RegX.apr (i:=1) (g:=2) (m:=C.length) (w:=3) (cs:=C.flatMap insC) (foot:=[5]) (k:=1) (add:=insC ⟨op,z,s⟩) rfl rfl (ins_len C) rfl rfl rfl rfl rfl rfl rfl hsz (by decide) rfl ⟨Nat.le_refl _,rfl⟩ (by decide) (by simp[insC]) rfl ?_ (by omega) rfl ?_
 ·rw[hby];omega
 repeat'(first|exact y0|refine y1 ?_|refine y2 ?_ ?_|(refine y8 ?_ ?_<;>intro h<;>try exact y6)|refine y3 ?_|refine y7 ?_ ?_|refine y4 ?_|(refine y9 ?_ ?_<;>intro h)|exact y5|fail)
 all_goals try omega
 refine⟨.inl rfl,_,[6,7],VLe.of_eq (congrArg nI ?_),EndOK.by rfl ?_ rfl ?_ rfl rfl⟩
 ·push_cast;omega
 ·exact⟨rfl,MemP.op rfl trivial⟩
 ·exact okH_op rfl rfl rfl
end Go.Proofs.YtbokilgdefkmiaaGreatDoor
