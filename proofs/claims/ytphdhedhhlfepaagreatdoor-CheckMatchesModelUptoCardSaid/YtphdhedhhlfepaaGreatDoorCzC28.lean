import Derived.Test.YtphdhedhhlfepaaGreatDoorCzC27
import Derived.Test.YtphdhedhhlfepaaGreatDoorCzC25
import Derived.Test.YtphdhedhhlfepaaGreatDoorCzC26
import Derived.Test.YtphdhedhhlfepaaGreatDoorCzC12
set_option linter.unusedSimpArgs false
set_option linter.unusedVariables false
namespace Go.Proofs.YtphdhedhhlfepaaGreatDoor
open Go Ab Go.Shelf Go.Lib Go.Sort
set_option maxRecDepth 100000
set_option maxHeartbeats 1000000
theorem lt_cfD (x y:Nat×Nat):ltOf cfD x y=true↔(x.1<y.1∨(x.1=y.1∧x.2<y.2)):=by
 unfold ltOf cfD compareInt;rw[decide_eq_true_iff]
 split<;>split<;>(try split)<;>(try split)<;>omega
theorem nlt_cfD (x y:Nat×Nat):ltOf cfD x y=false↔ ¬(x.1<y.1∨(x.1=y.1∧x.2<y.2)):=by
 rw[←lt_cfD];simp
theorem swo_cfD:SWO (ltOf cfD) where
 irrefl x:=by rw[nlt_cfD];omega
 trans x y z:=by simp only[lt_cfD];omega
 ntrans x y z:=by simp only[nlt_cfD];omega
theorem tot_cfD (x y:Nat×Nat) (h1:ltOf cfD x y=false) (h2:ltOf cfD y x=false):x=y:=by
 rw[nlt_cfD] at h1 h2;exact Prod.ext (by omega) (by omega)
def srtD (G:List (Nat×Nat)):List (Nat×Nat):=G.mergeSort fun x y=> !(ltOf cfD) y x
theorem srtD_len (G:List (Nat×Nat)):(srtD G).length=G.length:=by unfold srtD;simp
theorem sr_dg (φ:Ph):∀ (d:List (Nat×Nat)) (xs:List Value),All2 (Sr φ) (d.flatMap dgC) xs→xs=d.flatMap encD
 |[],[],_=>rfl
 |[],_::_,h=>h.elim
 |x::d,xs,h=>by
  rw[List.flatMap_cons] at h ⊢
  match xs,h with
  |a::b::r,⟨h1,h2,h3⟩=>
   have e1:a=.int .i64 (x.1:Int):=h1;have e2:b=.int .i64 (x.2:Int):=h2;rw[e1,e2,sr_dg φ d r h3];rfl
  |[_],⟨_,h2⟩=>exact h2.elim
  |[],h=>exact h.elim
theorem dg_sr (φ:Ph):∀ (d:List (Nat×Nat)),All2 (Sr φ) (d.flatMap dgC) (d.flatMap encD)
 |[]=>trivial
 |x::d=>by
  rw[List.flatMap_cons,List.flatMap_cons];exact All2.append ⟨rfl,rfl,trivial⟩ (dg_sr φ d)
theorem enc_len:∀ d:List (Nat×Nat),(d.flatMap encD).length=d.length*2
 |[]=>rfl
 |x::d=>by rw[List.flatMap_cons,List.length_append,enc_len d];simp only[List.length_cons];simp[encD];omega
theorem enc_get:∀ (d:List (Nat×Nat)) (t:Nat),t<d.length*2→(d.flatMap encD)[t]! =(encD d[t/2]!)[t%2]!
 |[],t,h=>by simp at h
 |x::d,0,h=>rfl
 |x::d,1,h=>rfl
 |x::d,t+2,h=>by
  have:=enc_get d t (by simp only[List.length_cons] at h;omega);rw[show (t+2)/2=t/2+1 by omega,show (t+2)%2=t%2 by omega];rw[show (x::d)[t/2+1]! =d[t/2]! by simp,←this,List.flatMap_cons];simp[encD]
theorem flatK_enc (d:List (Nat×Nat)):flatK encD 2 d.toArray=(d.flatMap encD).toArray:=by
 refine ext_get! (by simp only[size_flatK,List.size_toArray,enc_len]) fun t ht=>?_
 have ht':t<d.length*2:=by simpa using ht
 rw[get_flatK _ _ _ t (by simpa using ht')];have:=enc_get d t ht'
 simpa using this.symm
theorem enters42:∀ args w,(callFunc 42 args).run Tryz.prog w=.ok (.enter 42 args) w:=by
 intro args w;simp only[callFunc,Sem.run_bind,run_program,Result.andThen_ok,Tryz.func42];rfl
theorem putCells_row (pre ys zs rest:List Value) (h:zs.length=ys.length):putCells id pre.length zs.toArray (pre++(ys++rest)).toArray=(pre++(zs++rest)).toArray:=by
 unfold putCells;apply Array.ext_getElem?;intro i;simp only[List.mapIdx_toArray,List.getElem?_toArray,List.getElem?_mapIdx,List.size_toArray];by_cases h1:i<pre.length
 ·rw[List.getElem?_append_left h1,List.getElem?_append_left h1]
  cases pre[i]? with
  |none=>rfl
  |some x=>simp;omega
 ·rw[List.getElem?_append_right (l₁:=pre) (l₂:=ys++rest) (by omega),List.getElem?_append_right (l₁:=pre) (l₂:=zs++rest) (by omega)]
  by_cases h2:i-pre.length<zs.length
  ·have h3:i-pre.length<ys.length:=by omega
   rw[List.getElem?_append_left (l₁:=ys) h3,List.getElem?_append_left (l₁:=zs) h2,List.getElem?_eq_getElem h3,List.getElem?_eq_getElem h2];simp only[Option.map_some,Option.some.injEq];rw[if_pos ⟨by omega,by omega⟩];simp[h2]
  ·rw[List.getElem?_append_right (l₁:=ys) (by omega),List.getElem?_append_right (l₁:=zs) (by omega),h]
   cases rest[i-pre.length-ys.length]? with
   |none=>rfl
   |some x=>simp only[Option.map_some,Option.some.injEq];rw[if_neg (by omega)]
theorem sw_other (w:World) (b o n:Nat) (D:Array (Nat×Nat)) (os:Array Obj) (j:Nat) (hj:j<w.heap.size) (hb:j≠b):(sortWorldK encD 2 w b o n D os).heap[j]? =w.heap[j]? :=by
 show ((w.heap.modify b _)++os)[j]? =_;rw[Array.getElem?_append_left (by simpa using hj),Array.getElem?_modify,if_neg (Ne.symm hb)]
theorem sw_at (w:World) (b n:Nat) (d:List (Nat×Nat)) (os:Array Obj) (pre ys rest:List Value) (ty:TypeId) (fr:Nat×Nat) (hw:w.heap[b]? =some (.cells (pre++(ys++rest)).toArray ty fr)) (hl:ys.length=d.length*2):
 (sortWorldK encD 2 w b pre.length n d.toArray os).heap[b]? =some (.cells (pre++(d.flatMap encD++rest)).toArray ty fr):=by
 have hb:b<w.heap.size:=by
  rcases Nat.lt_or_ge b w.heap.size with h|h
  ·exact h
  ·rw[Array.getElem?_eq_none h] at hw;cases hw
 show ((w.heap.modify b (onCells (putCells id pre.length (flatK encD 2 d.toArray))))++os)[b]? =_;rw[Array.getElem?_append_left (by simpa using hb),Array.getElem?_modify,if_pos rfl,hw,flatK_enc];show some (Obj.cells (putCells id pre.length (d.flatMap encD).toArray (pre++(ys++rest)).toArray) ty fr)=_;rw[putCells_row pre ys _ rest (by rw[enc_len,hl])]
theorem holds_dg (w:World) (b:Nat) (d:List (Nat×Nat)) (pre rest:List Value) (ty:TypeId) (fr:Nat×Nat) (hw:w.heap[b]? =some (.cells (pre++(d.flatMap encD++rest)).toArray ty fr))
 (hfr:∀ o,o<(pre++(d.flatMap encD++rest)).length→(fr.1≤o&&o<fr.2)=false):HoldsK encD 2 w b pre.length d.toArray:=by
 intro j hj;rw[flatK_enc] at hj ⊢;simp only[List.size_toArray] at hj;constructor
 ·unfold World.cell?
  rw[hw];simp only[Option.isSome_none,Bool.false_eq_true,if_false,List.getElem?_toArray,id];rw[List.getElem?_append_right (by omega),List.getElem?_append_left (by omega),show pre.length+j-pre.length=j by omega];rw[getElem!_pos _ _ (by simpa using hj)];simp
 ·unfold World.frozen?
  rw[hw];exact hfr _ (by simp only[List.length_append];omega)
theorem opB_some {ty g w:Nat} {cs:List S} (h:cs≠[]):opB ty g w cs=some {cells:=cs,ty:=ty,more:=true,sym:=true,flat:=true,gh:=some (g,w)}:=by
 cases cs with
 |nil=>exact absurd rfl h
 |cons c cs=>rfl
theorem dg_ne {d:List (Nat×Nat)} (h:0<d.length):d.flatMap dgC≠[]:=fun e=>by
 have:=dg_len d;rw[e] at this;simp at this;omega
theorem sort_c (d:List (Nat×Nat)) (hd:d.length≤1000000000000):
 FC Tryz.prog 41 [.s (.row 0 1 d.length),.s (.fn 42)] 2 [(0,dgB 0 d)] .any 2 [(0,dgB 0 (srtD d))]:=by
 refine⟨by kernel_rfl,fun φ xs w hx hg hf=>?_⟩
 match xs,hx with
 |[x0,x1],⟨h0,h1,_⟩=>
  have h1:x1=.func (.func 42) #[] #[]:=h1;subst h1
  rcases Nat.eq_zero_or_pos d.length with hz|hz
  ·obtain rfl:=List.eq_nil_of_length_eq_zero hz
   have h0:x0=.slice none 0 0:=by
    rcases h0 with ⟨_,h⟩|⟨h,_⟩
    ·exact h
    ·exact absurd h (by simp)
   subst h0;refine (AnyF.slices_SortFunc_none Tryz.sortD none 0 _ w).mono ?_;rintro e w' ⟨rfl,rfl⟩
   have e0:srtD []=[]:=by simp[srtD]
   rw[e0];exact⟨φ,_,rfl,trivial,hg,hf,Stp.refl _ _ _,Nat.le_refl _,fun _ _=>rfl⟩
  ·have hs1:=srtD_len d
   have eL:dgB 0 d=some {cells:=d.flatMap dgC,ty:=42,more:=true,sym:=true,flat:=true,gh:=some (1,2)}:=opB_some (dg_ne hz);have eL':dgB 0 (srtD d)=some {cells:=(srtD d).flatMap dgC,ty:=42,more:=true,sym:=true,flat:=true,gh:=some (1,2)}:=opB_some (dg_ne (by omega));rw[eL] at hg;rw[eL,eL']
   obtain⟨b,k,hb,hg1,rfl,hk⟩:∃ b k,φ.f 0=some b∧φ.f 1=some (k,0)∧x0=.slice (some ⟨b.1,b.2,none⟩) d.length k∧d.length≤k:=by
    rcases h0 with ⟨h,_⟩|⟨_,h⟩
    ·omega
    ·exact h
   obtain⟨b',hb',hbl⟩:=hg.hr 0 _ rfl
   obtain rfl:b'=b:=by rw[show φ.f 0=some b from hb] at hb';exact (Option.some.inj hb').symm
   obtain⟨pre,ys,rest,fr,hw,hpre,hys,_,hro,hgh,_⟩:=hbl;have hy:=sr_dg _ d ys hys;have hro:=hro rfl;subst hy
   have hwr:∀ c,Wr φ [(0,some {cells:=d.flatMap dgC,ty:=42,more:=true,sym:=true,flat:=true,gh:=some (1,2)})] c↔c=b'.1:=fun c=>by
    constructor
    ·rintro⟨i,bl,e,hi,he,rfl,_⟩
     rw[lk_cons] at hi;split at hi
     ·rename_i h;subst h;rw[show φ.f 0=some b' from hb] at he;rw[Option.some.inj he]
     ·cases hi
    ·rintro rfl;exact⟨0,_,b',rfl,hb,rfl,rfl⟩
   have hwr':∀ c,Wr φ [(0,some {cells:=(srtD d).flatMap dgC,ty:=42,more:=true,sym:=true,flat:=true,gh:=some (1,2)})] c↔c=b'.1:=fun c=>by
    constructor
    ·rintro⟨i,bl,e,hi,he,rfl,_⟩
     rw[lk_cons] at hi;split at hi
     ·rename_i h;subst h;rw[show φ.f 0=some b' from hb] at he;rw[Option.some.inj he]
     ·cases hi
    ·rintro rfl;exact⟨0,_,b',rfl,hb,rfl,rfl⟩
   have hlt:b'.1<w.heap.size:=by
    rcases Nat.lt_or_ge b'.1 w.heap.size with h|h
    ·exact h
    ·rw[Array.getElem?_eq_none h] at hw;cases hw
   have hH:=holds_dg w b'.1 d pre rest _ fr hw hro;rw[hpre] at hH;have ht:=tyS_run (P:=Tryz.prog) (t:=42) (ag:=true) (sz:=2) (by kernel_rfl);refine (AnyQ.slices_SortFunc_total Tryz.sortD 2 (fun w=>(ht w).1) (fun w=>(ht w).2) encD (fun _=>rfl) (fun x v hv=>by simp[encD] at hv;rcases hv with rfl|rfl<;>rfl) cfD swo_cfD 42 #[] b'.1 b'.2 k d.toArray w enters42 ?_ hH hlt (by simp;omega) tot_cfD).mono ?_
   ·intro m os dk _ x y
    refine (closure_c (x.1:Int) (x.2:Int) (y.1:Int) (y.2:Int) _).mono ?_;rintro e w' ⟨rfl,q,os',rfl⟩;exact⟨rfl,q,os',rfl⟩
   ·rintro e w' ⟨rfl,n,os,rfl⟩
    have ho:=fun j=>sw_other w b'.1 b'.2 n (srtD d).toArray os j
    have hat:=sw_at w b'.1 n (srtD d) os pre _ rest _ fr hw (by rw[enc_len,srtD_len]);rw[hpre] at hat;refine⟨φ,_,rfl,trivial,⟨fun i bl hi=>?_,fun i j bl bl' c c' hi hj _ _ _=>?_,fun c l hz'=>?_,hg.gz⟩,hf,⟨rfl,rfl,rfl,?_,fun c hc hn=>ho c hc fun e=>hn ((hwr c).2 e),fun j bl c hj hc hcl=>?_,fun _ _ h=>h,fun _ _ h=> .inl h⟩,Nat.le_refl _,fun _ _=>rfl⟩
    ·rw[lk_cons] at hi
     split at hi
     ·rename_i h;subst h;obtain rfl:=Option.some.inj hi
      refine⟨b',hb,pre,_,rest,fr,hat,hpre,dg_sr _ _,fun h=>(by cases h),fun _ o ho'=>hro o ?_,fun g z hgz=>?_,fun g h=>(by cases h)⟩
      ·simp only[List.length_append,enc_len,srtD_len] at ho' ⊢;exact ho'
      ·obtain⟨k',hk',hz'⟩:=hgh g z hgz
       refine⟨k',hk',?_⟩;simp only[List.length_append,enc_len,srtD_len] at hz' ⊢;exact hz'
     ·cases hi
    ·rw[lk_cons] at hi hj
     split at hi
     ·split at hj
      ·rename_i h h';exact .inl (h.symm.trans h')
      ·cases hj
     ·cases hi
    ·obtain⟨⟨ty,fr',e⟩,hn⟩:=hg.fz c l hz'
     have hne:c≠b'.1:=fun e=>hn ((hwr c).2 e)
     exact⟨⟨ty,fr',(ho c (hg.fzlt hz') hne).trans e⟩,fun h=>hne ((hwr' c).1 h)⟩
    ·show w.heap.size≤((w.heap.modify b'.1 _)++os).size
     simp
    ·rw[lk_cons] at hj
     split at hj
     ·rename_i h;subst h
      exact⟨0,_,c,rfl,hc,rfl,fun h=>(by cases h),.inl rfl⟩
     ·cases hj
end Go.Proofs.YtphdhedhhlfepaaGreatDoor
namespace Go.Proofs.YtphdhedhhlfepaaGreatDoor
open Go Ab
set_option maxRecDepth 100000
set_option maxHeartbeats 1000000
def dgsV (G:List (Nat×Nat)):V:=.s (.frz (fun k=>dgC (G.getD k (0,0))) 2 G.length)
theorem dg_cell {G:List (Nat×Nat)} {k j:Nat} {x:S} (hk:k<G.length) (hx:(dgC (G.getD k (0,0)))[j]? =some x):(G.flatMap dgC)[k*2+j]? =some x∧pureS x=true:=by
 induction G generalizing k with
 |nil=>simp at hk
 |cons y G ih=>
  cases k with
  |zero=>
   rw[List.flatMap_cons]
   match j,hx with
   |0,hx=>cases hx;exact⟨rfl,rfl⟩
   |1,hx=>cases hx;exact⟨rfl,rfl⟩
   |_+2,hx=>cases hx
  |succ k=>
   have:=ih (k:=k) (by simpa using hk) (by simpa using hx);rw[List.flatMap_cons,show (k+1)*2+j=(k*2+j)+2 by omega];exact this
theorem sort_0:FC Tryz.prog 41 [.s (.row 0 1 0),.s (.fn 42)] 2 [] .any 2 []:=by
 have:=sort_c [] (by decide);rw[show srtD []=[] by simp[srtD]] at this;exact⟨this.1,fun φ xs w hx hg hf=>(this.2 φ xs w hx (hg.sub fun i bl h=>by rw[lk_cons] at h;split at h<;>cases h) hf).mono fun e w' ⟨φ',x,a,b,c,d,e,f⟩=>⟨φ',x,a,b,c.sub fun i bl h=>(by cases h),d,⟨e.os,e.tape,e.output,e.size,fun b hb hn=>e.keep b hb fun⟨i,bl,c,h,_⟩=>(by rw[lk_cons] at h;split at h<;>cases h),fun j bl b h=>(by cases h),e.zle,fun b l hb=>(e.zfr b l hb).elim .inl fun h=>h.elim (fun h=> .inr (.inl h)) fun⟨i,bl,c,h,_⟩=>(by rw[lk_cons] at h;split at h<;>cases h)⟩,f⟩⟩
abbrev dgS (g:Nat) (G:List (Nat×Nat)):Bl:={cells:=G.flatMap dgC,ty:=42,more:=true,sym:=true,flat:=true,gh:=some (g+1,2)}
theorem dgB_pos {g:Nat} {G:List (Nat×Nat)} (h:0<G.length):dgB g G=some (dgS g G):=opB_some (dg_ne h)
theorem sort_p (d:List (Nat×Nat)) (hd:d.length≤1000000000000) (h:0<d.length):FC Tryz.prog 41 [.s (.row 0 1 d.length),.s (.fn 42)] 2 [(0,some (dgS 0 d))] .any 2 [(0,some (dgS 0 (srtD d)))]:=by
 have:=sort_c d hd
 rwa [dgB_pos h,dgB_pos (by rw[srtD_len];exact h)] at this
theorem check_no (p:List Nd) (hw:wfN p) (h:validN p=false):FC Tryz.prog 16 [nodes p] 0 [] (dgsV [(0,1)]) 0 []:=by
 have hv:=validN_c p hw;rw[h] at hv;refine FC.walk (by kernel_rfl) Tryz.func16 rfl rfl ?_
 repeat'(first|exact y0|refine y1 ?_|refine y2 ?_ ?_|(refine y8 ?_ ?_<;>intro h<;>try exact y6)|(refine wC ?_;first|refine wF 36 (pu hv ?_))|refine Ex.fz 2 (fun k=>dgC ([(0,1)].getD k (0,0))) 2 rfl rfl rfl rfl (fun _ _=>rfl) (fun k j x hk hx=>dg_cell hk hx) rfl rfl ?_|refine Fin.le (.inl rfl) rfl (VLe.refl _) rfl|refine y3 ?_|refine y7 ?_ ?_|refine y4 ?_|(refine y9 ?_ ?_<;>intro h)|exact y5|fail)
theorem check_yes (p:List Nd) (hw:wfN p) (hI:wfI p) (h:validN p=true) (hp:p.length≤2048) (t:Fo) (ha:t.At p 0) (hv:t.V (List.replicate t.cnt (false,68))) (hs:t.size=p.length):
 FC Tryz.prog 16 [nodes p] 0 [] (dgsV (srtD (rowG p (anS p t).F (anS p t).S t p.length 0 (anS p t).G))) 0 []:=by
 have hvl:=validN_c p hw;rw[h] at hvl
 have hn:∀ j,j<p.length→NumAt p j:=fun j hj=>by
  obtain⟨sl,h1,h2⟩:=kid_at ha hv (Nat.zero_le _) (by omega:j<0+t.size);exact num_at h1 h2
 have hso:=SOK.anS ha;have hT:=(declS_len false t 0 ⟨true,0,[]⟩ (st0 p)).1;have hG:=(declS_len false t 0 ⟨true,0,[]⟩ (st0 p)).2.2;have hac:=analyze_c p hp hw t ha hv hs;unfold anS at hso hac ⊢;generalize declS false t 0 ⟨true,0,[]⟩ (st0 p)=U at*;rw[show (st0 p).S.length=p.length by simp[st0]] at hT;rw[show (st0 p).G.length=0 from rfl] at hG;obtain⟨T,D,F,G0⟩:=U;simp only at hso hT hG ⊢
 have hTl:∀ q∈T,q.segs.length≤1000000:=fun q hq=>by have:=hso.1 q hq;omega
 generalize hR:rowG p F T t p.length 0 G0=R;refine FC.walk (by kernel_rfl) Tryz.func16 rfl rfl ?_
 repeat'(first|exact y0|refine y1 ?_|refine y2 ?_ ?_|(refine y8 ?_ ?_<;>intro h<;>try exact y6)|(refine wC ?_;first|refine wF 36 (pu hvl ?_)|(refine wF 37 ?_;refine CallG.mo [] hac rfl rfl (by rfl) rfl rfl ⟨VLe.refl _,trivial⟩ trivial rfl rfl (wr:=anL p ⟨T,D,F,G0⟩) (by show [_,_,_,_,_]=_;rw[renO_op,renO_op];rfl) ?_))|refine y3 ?_|refine y7 ?_ ?_|refine y4 ?_|(refine y9 ?_ ?_<;>intro h)|exact y5|fail)
 refine Ex.canon [0,1,2,3,4,5,6,7] 36 [(0,nodes p),(3,.s (.ptr (some (0,0)))),(13,nI p.length),(14,nI 0)] (ndL p D.length T F G0) rfl rfl ⟨VLe.refl _,VLe.refl _,VLe.refl _,VLe.refl _,trivial⟩ ⟨rfl,rfl,rfl,MemP.op rfl trivial⟩ (by unfold ndL dgB;generalize List.flatMap dgC _=cg;cases cg<;>rfl) ?_
 refine Ex.inv (σ:=Nat×List (Nat×Nat)) (fun q=>[(14,nI q.1)]) (fun q=>ndL p D.length T F q.2)
  (fun q=>q.1≤p.length∧q.2.length≤2048+q.1*6145∧rowG p F T t (p.length-q.1) q.1 q.2=R) (fun q=>p.length-q.1) (0,G0) rfl (fun _=>rfl) ?_ ?_ ?_ ?_
 ·exact⟨Nat.zero_le _,by simp only;omega,hR⟩
 ·exact⟨VLe.refl _,trivial⟩
 ·exact⟨rfl,rfl,rfl,SubP.op rfl trivial⟩
 ·rintro⟨i,G⟩ ⟨h1,h2,h3⟩
  simp only at h1 h2 h3 ⊢
  rcases Nat.lt_or_ge i p.length with hi|hi
  ·obtain⟨sl,g1,g2⟩:=kid_at ha hv (Nat.zero_le i) (by omega:i<0+t.size)
   have hoo:=oor_c p hp hI i (hn i hi);rw[show p.length-i=(p.length-(i+1))+1 by omega] at h3;simp only[rowG] at h3
   cases ho:oorB p i with
   |false=>
    rw[ho] at hoo h3;rw[if_neg (by decide)] at h3;have hlen:=nodeG_len (F:=F) (sc:=T.getD i z0) (G:=G) hp g1 g2;have hnd:=node_c p hp hw hI hn D.length T hT hTl F hso.2 i _ _ sl G g1 g2 (by omega);generalize nodeG p F (T.getD i z0) (t.kid 0 i) i G=G2 at*
    have k2:okH 8 (ndL p D.length T F G)=true:=(by unfold ndL dgB;generalize List.flatMap dgC _=cg;cases cg<;>rfl)
    repeat'(first|exact y0|refine y1 ?_|refine y2 ?_ ?_|(refine y8 ?_ ?_<;>intro h<;>try exact y6)|(refine wC ?_;first|(refine wF 38 ?_;refine CallG.mv [0] 0 hoo rfl rfl ⟨VLe.refl _,VLe.refl _,trivial⟩ rfl rfl (fun φ w b=>BlAt.view 1 rfl) rfl ⟨⟨rfl,_,rfl,rfl,fun h=>h⟩,trivial⟩ rfl rfl rfl rfl ?_)|(refine wF 40 ?_;refine CallG.mo [0,1,2,3,4,5,6,7] hnd rfl k2 rfl rfl rfl ⟨VLe.refl _,VLe.refl _,trivial⟩ ⟨⟨rfl,_,rfl,rfl,fun h=>h⟩,⟨rfl,_,rfl,rfl,fun h=>h⟩,⟨rfl,_,rfl,rfl,fun h=>h⟩,FitP.op rfl rfl trivial⟩ rfl rfl (wr:=[(0,some (anB p 3 D.length 8 G2.length)),(1,some (scB T)),(5,some (mapB F)),(6,none),(8,dgB 8 G2)]) (by show [_,_,_,_,_]=_;rw[renO_op];rfl) ?_))|refine y3 ?_|refine y7 ?_ ?_|refine y4 ?_|(refine y9 ?_ ?_<;>intro h)|exact y5|fail)
    all_goals try omega
    refine LoopR.move (i+1,G2) ⟨hi,by simp only;omega,h3⟩ (by simp only;omega) [0,1,2,3,4,5,8,9] rfl ?_ ?_ ?_
    ·repeat' (first|exact VLe.refl _|exact VLe.any _|exact True.intro|refine⟨?_,?_⟩)
    ·exact⟨rfl,rfl,rfl,MemP.op rfl trivial⟩
    ·exact (by unfold ndL dgB;generalize List.flatMap dgC _=cg;cases cg<;>rfl)
   |true=>
    rw[ho] at hoo h3;rw[if_pos rfl] at h3;have hlen:=nodeG_len (F:=F) (sc:=T.getD i z0) (G:=G++[(i,4)]) hp g1 g2;have hnd:=node_c p hp hw hI hn D.length T hT hTl F hso.2 i _ _ sl (G++[(i,4)]) g1 g2 (by simp only[List.length_append,List.length_singleton];omega);simp only[List.length_append,List.length_singleton] at hlen;generalize nodeG p F (T.getD i z0) (t.kid 0 i) i (G++[(i,4)])=G2 at*;simp only[ndL,List.length_append,List.length_singleton] at hnd
    have k2:okH 8 [(0,some (anB p 3 D.length 6 (G.length+1))),(1,some (scB T)),(5,some (mapB F)),(6,dgB 6 (G++[(i,4)]))]=true:=by
     unfold dgB;generalize List.flatMap dgC _=cg;cases cg<;>rfl
    repeat'(first|exact y0|refine y1 ?_|refine y2 ?_ ?_|(refine y8 ?_ ?_<;>intro h<;>try exact y6)|(refine wC ?_;first|(refine wF 38 ?_;refine CallG.mv [0] 0 hoo rfl rfl ⟨VLe.refl _,VLe.refl _,trivial⟩ rfl rfl (fun φ w b=>BlAt.view 1 rfl) rfl ⟨⟨rfl,_,rfl,rfl,fun h=>h⟩,trivial⟩ rfl rfl rfl rfl ?_)|(refine wF 39 ?_;refine CallG.mo [0,1,2,3,4,5,6,7] (report_c p D.length G i 4 (by omega)) rfl (okH_op rfl rfl rfl) rfl rfl rfl ⟨VLe.refl _,VLe.refl _,VLe.refl _,trivial⟩ ⟨⟨rfl,_,rfl,rfl,fun h=>h⟩,FitP.op rfl rfl trivial⟩ rfl rfl (wr:=[(0,some (anB p 3 D.length 8 (G.length+1))),(6,none),(8,dgB 8 (G++[(i,4)]))]) (by show [_,_,_]=_;rw[renO_op];rfl) ?_)|(refine wF 40 ?_;refine CallG.mo [0,1,2,3,4,5,8,9] hnd rfl k2 rfl rfl rfl ⟨VLe.refl _,VLe.refl _,trivial⟩ ⟨⟨rfl,_,rfl,rfl,fun h=>h⟩,⟨rfl,_,rfl,rfl,fun h=>h⟩,⟨rfl,_,rfl,rfl,fun h=>h⟩,FitP.op rfl rfl trivial⟩ rfl rfl (wr:=[(0,some (anB p 3 D.length 10 G2.length)),(1,some (scB T)),(5,some (mapB F)),(8,none),(10,dgB 10 G2)]) (by show [_,_,_,_,_]=_;rw[renO_op];rfl) ?_))|refine y3 ?_|refine y7 ?_ ?_|refine y4 ?_|(refine y9 ?_ ?_<;>intro h)|exact y5|fail)
    all_goals try omega
    refine LoopR.move (i+1,G2) ⟨hi,by simp only;omega,h3⟩ (by simp only;omega) [0,1,2,3,4,5,10,11] rfl ?_ ?_ ?_
    ·repeat' (first|exact VLe.refl _|exact VLe.any _|exact True.intro|refine⟨?_,?_⟩)
    ·exact⟨rfl,rfl,rfl,MemP.op rfl trivial⟩
    ·exact (by unfold ndL dgB;generalize List.flatMap dgC _=cg;cases cg<;>rfl)
  ·have he:i=p.length:=by omega
   subst he;rw[Nat.sub_self] at h3;simp only[rowG] at h3;subst h3;have hl:=srtD_len G;unfold dgsV;rw[hl]
   rcases Nat.eq_zero_or_pos G.length with hz|hz
   ·obtain rfl:=List.eq_nil_of_length_eq_zero hz
    show Ex _ _ _ _ _ [(0,some (anB p 3 D.length 6 0)),(1,some (scB T)),(5,some (mapB F)),(6,none)] _
    repeat'(first|exact y0|refine y1 ?_|refine y2 ?_ ?_|(refine y8 ?_ ?_<;>intro h<;>try exact y6)|refine RegX.atCall (CallG.me [6,7] sort_0 rfl rfl ⟨VLe.refl _,VLe.refl _,trivial⟩ trivial rfl rfl rfl ?_)|refine Ex.set 2 (.s (.frz (fun k=>dgC ((srtD []).getD k (0,0))) 2 0)) (VLe.s SLe.row0) rfl ?_|refine Fin.le (.inl rfl) rfl (VLe.refl _) rfl|refine y3 ?_|refine y7 ?_ ?_|refine y4 ?_|(refine y9 ?_ ?_<;>intro h)|exact y5|fail)
    all_goals try omega
   ·have hsp:=sort_p G (by omega) hz
    rw[show ndL p D.length T F G=[(0,some (anB p 3 D.length 6 G.length)),(1,some (scB T)),(5,some (mapB F)),(6,some (dgS 6 G))] from by unfold ndL;rw[dgB_pos hz]]
    repeat'(first|exact y0|refine y1 ?_|refine y2 ?_ ?_|(refine y8 ?_ ?_<;>intro h<;>try exact y6)|refine RegX.atCall (CallG.me [6,7] hsp rfl rfl ⟨VLe.refl _,VLe.refl _,trivial⟩ ⟨⟨rfl,_,rfl,rfl,fun h=>h⟩,trivial⟩ rfl rfl rfl ?_)|refine Ex.fz 2 (fun k=>dgC ((srtD G).getD k (0,0))) 2 rfl rfl rfl rfl (fun _ _=>rfl) (fun k j x hk hx=>dg_cell (by omega) hx) rfl rfl ?_|refine Fin.le (.inl rfl) rfl (VLe.refl _) rfl|refine y3 ?_|refine y7 ?_ ?_|refine y4 ?_|(refine y9 ?_ ?_<;>intro h)|exact y5|fail)
    all_goals try omega
set_option maxRecDepth 100000
set_option maxHeartbeats 2000000
abbrev Dgs:=List (Nat×Nat)
def dD:Dc:=⟨[],0,0⟩
def dcF (D:List Dc):V:=.s (.frz (fun k=>dcC (D.getD k dD)) 3 D.length)
theorem dc_pure {a:Dc} {j:Nat} {x:S} (h:(dcC a)[j]? =some x):pureS x=true:=by
 rcases j with _|_|_|j
 ·cases h;rfl
 ·cases h;rfl
 ·cases h;rfl
 ·simp[dcC] at h
theorem dg_pure {a:Nat×Nat} {j:Nat} {x:S} (h:(dgC a)[j]? =some x):pureS x=true:=by
 rcases j with _|_|j
 ·cases h;rfl
 ·cases h;rfl
 ·simp[dgC] at h
theorem list_ext {α:Type} {a b:List α} {d:α} (hl:a.length=b.length) (h:∀ i,i<a.length→a.getD i d=b.getD i d):a=b:=by
 refine List.ext_getElem hl fun i h1 h2=>?_
 have:=h i h1
 rwa [List.getD_eq_getElem?_getD,List.getD_eq_getElem?_getD,List.getElem?_eq_getElem h1,List.getElem?_eq_getElem h2] at this
theorem decl_no (p:List Nd) (hw:wfN p) (h:validN p=false):FC Tryz.prog 15 [nodes p] 0 [] (dcF []) 0 []:=by
 have hv:=validN_c p hw;rw[h] at hv;refine FC.walk (by kernel_rfl) Tryz.func15 rfl rfl ?_
 repeat'(first|exact y0|refine y1 ?_|refine y2 ?_ ?_|(refine y8 ?_ ?_<;>intro h<;>try exact y6)|(refine wC ?_;first|refine wF 36 (pu hv ?_))|refine Fin.le (.inl rfl) rfl (VLe.s SLe.nil) rfl|refine y3 ?_|refine y7 ?_ ?_|refine y4 ?_|(refine y9 ?_ ?_<;>intro h)|exact y5|fail)
theorem decl_yes (p:List Nd) (hw:wfN p) (h:validN p=true) (hp:p.length≤2048) (t:Fo) (ha:t.At p 0) (hv:t.V (List.replicate t.cnt (false,68))) (hs:t.size=p.length):
 FC Tryz.prog 15 [nodes p] 0 [] (dcF (anS p t).D) 0 []:=by
 have hvl:=validN_c p hw;rw[h] at hvl;have hac:=analyze_c p hp hw t ha hv hs;generalize anS p t=U at*;obtain⟨T,D,F,G0⟩:=U;refine FC.walk (by kernel_rfl) Tryz.func15 rfl rfl ?_
 repeat'(first|exact y0|refine y1 ?_|refine y2 ?_ ?_|(refine y8 ?_ ?_<;>intro h<;>try exact y6)|(refine wC ?_;first|refine wF 36 (pu hvl ?_)|(refine wF 37 ?_;refine CallG.mo [] hac rfl rfl (by rfl) rfl rfl ⟨VLe.refl _,trivial⟩ trivial rfl rfl (wr:=anL p ⟨T,D,F,G0⟩) (by show [_,_,_,_,_]=_;rw[renO_op,renO_op];rfl) ?_))|refine Ex.fzR 2 dcC 3 dD D rfl rfl (fun _=>rfl) (fun a j x h=>dc_pure h) (by decide) rfl rfl ?_|refine Fin.le (.inl rfl) rfl (VLe.refl _) rfl|refine y3 ?_|refine y7 ?_ ?_|refine y4 ?_|(refine y9 ?_ ?_<;>intro h)|exact y5|fail)
theorem eqD_c (a b:List (Nat×Nat)) {D:Decidable (a=b)} (hb:a.length≤1000000000000):FC Tryz.prog 22 [dgsV a,dgsV b] 0 [] (bV (decide (a=b))) 0 []:=by
 unfold dgsV;refine FC.walk (by kernel_rfl) Tryz.func22 rfl rfl ?_;by_cases hl:a.length=b.length
 ·
  repeat'(first|exact y0|refine y1 ?_|refine y2 ?_ ?_|(refine y8 ?_ ?_<;>intro h<;>try exact y6)|refine Fin.bool (.inl rfl) rfl ?_|refine y3 ?_|refine y7 ?_ ?_|refine y4 ?_|(refine y9 ?_ ?_<;>intro h)|exact y5|fail)
  refine Ex.inv (σ:=Nat) (fun j=>[(5,nI j)]) (fun _=>[]) (fun j=>j≤a.length∧∀ i,i<j→a.getD i (0,0)=b.getD i (0,0)) (fun j=>a.length-j) 0 rfl (fun _=>rfl) ⟨Nat.zero_le _,fun i hi=>by omega⟩ ⟨VLe.refl _,trivial⟩ trivial ?_;rintro j ⟨hj,hI⟩;by_cases hlt:j<a.length
  ·by_cases he:a.getD j (0,0)=b.getD j (0,0)
   ·
    repeat'(first|exact y0|refine y1 ?_|refine y2 ?_ ?_|(refine y8 ?_ ?_<;>intro h<;>try exact y6)|refine y3 ?_|refine y7 ?_ ?_|refine y4 ?_|(refine y9 ?_ ?_<;>intro h)|exact y5|fail)
    refine RegX.atCmp (CmpG.go rfl rfl ⟨⟨by kernel_rfl,by kernel_rfl⟩,trivial⟩ (BrG.any (fun h=>?_) (fun h=>?_)))
    ·exfalso;rw[he] at h;simp at h
    repeat'(first|exact y0|refine y1 ?_|refine y2 ?_ ?_|(refine y8 ?_ ?_<;>intro h<;>try exact y6)|refine y3 ?_|refine y7 ?_ ?_|refine y4 ?_|(refine y9 ?_ ?_<;>intro h)|exact y5|fail)
    all_goals try first
     |exact i64_in (by omega) (by omega)
    refine LoopR.same (j+1) ⟨by omega,ext_all hI he⟩ (by omega) rfl ⟨VLe.refl _,trivial⟩ trivial rfl rfl (by decide)
   ·
    repeat'(first|exact y0|refine y1 ?_|refine y2 ?_ ?_|(refine y8 ?_ ?_<;>intro h<;>try exact y6)|refine y3 ?_|refine y7 ?_ ?_|refine y4 ?_|(refine y9 ?_ ?_<;>intro h)|exact y5|fail)
    refine RegX.atCmp (CmpG.go rfl rfl ⟨⟨by kernel_rfl,by kernel_rfl⟩,trivial⟩ (BrG.any (fun h=>?_) (fun h=>?_)))
    ·
     repeat'(first|exact y0|refine y1 ?_|refine y2 ?_ ?_|(refine y8 ?_ ?_<;>intro h<;>try exact y6)|refine Fin.bool (.inl rfl) rfl ?_|refine y3 ?_|refine y7 ?_ ?_|refine y4 ?_|(refine y9 ?_ ?_<;>intro h)|exact y5|fail)
     symm;exact decide_eq_false fun e=>he (by rw[e])
    ·exfalso
     simp only[Bool.not_eq_false',Bool.and_eq_true,beq_iff_eq,decide_eq_true_eq,Bool.and_true] at h;exact he (Prod.ext (by omega) (by omega))
  ·
   repeat'(first|exact y0|refine y1 ?_|refine y2 ?_ ?_|(refine y8 ?_ ?_<;>intro h<;>try exact y6)|refine Fin.bool (.inl rfl) rfl ?_|refine y3 ?_|refine y7 ?_ ?_|refine y4 ?_|(refine y9 ?_ ?_<;>intro h)|exact y5|fail)
   symm;exact decide_eq_true (list_ext hl fun i hi=>hI i (by omega))
 ·
  repeat'(first|exact y0|refine y1 ?_|refine y2 ?_ ?_|(refine y8 ?_ ?_<;>intro h<;>try exact y6)|refine Fin.bool (.inl rfl) rfl ?_|refine y3 ?_|refine y7 ?_ ?_|refine y4 ?_|(refine y9 ?_ ?_<;>intro h)|exact y5|fail)
  all_goals (symm;exact decide_eq_false fun e=>hl (by rw[e]))
theorem dc_ext {x y:Dc} (h:x.path=y.path∧x.op=y.op∧(x.node:Int)=(y.node:Int)):x=y:=by
 obtain⟨a,b,c⟩:=x;obtain⟨a',b',c'⟩:=y;simp only at h;obtain⟨rfl,rfl,h⟩:=h;congr 1;omega
theorem eqC_c (a b:List Dc) {D:Decidable (a=b)} (hb:a.length≤1000000000000):FC Tryz.prog 24 [dcF a,dcF b] 0 [] (bV (decide (a=b))) 0 []:=by
 unfold dcF;refine FC.walk (by kernel_rfl) Tryz.func24 rfl rfl ?_;by_cases hl:a.length=b.length
 ·
  repeat'(first|exact y0|refine y1 ?_|refine y2 ?_ ?_|(refine y8 ?_ ?_<;>intro h<;>try exact y6)|refine Fin.bool (.inl rfl) rfl ?_|refine y3 ?_|refine y7 ?_ ?_|refine y4 ?_|(refine y9 ?_ ?_<;>intro h)|exact y5|fail)
  refine Ex.inv (σ:=Nat) (fun j=>[(5,nI j)]) (fun _=>[]) (fun j=>j≤a.length∧∀ i,i<j→a.getD i dD=b.getD i dD) (fun j=>a.length-j) 0 rfl (fun _=>rfl) ⟨Nat.zero_le _,fun i hi=>by omega⟩ ⟨VLe.refl _,trivial⟩ trivial ?_;rintro j ⟨hj,hI⟩;by_cases hlt:j<a.length
  ·by_cases he:a.getD j dD=b.getD j dD
   ·
    repeat'(first|exact y0|refine y1 ?_|refine y2 ?_ ?_|(refine y8 ?_ ?_<;>intro h<;>try exact y6)|refine y3 ?_|refine y7 ?_ ?_|refine y4 ?_|(refine y9 ?_ ?_<;>intro h)|exact y5|fail)
    refine RegX.atCmp (CmpG.go rfl rfl ⟨⟨by kernel_rfl,by kernel_rfl⟩,trivial⟩ (BrG.any (fun h=>?_) (fun h=>?_)))
    ·exfalso;rw[he] at h;simp at h
    repeat'(first|exact y0|refine y1 ?_|refine y2 ?_ ?_|(refine y8 ?_ ?_<;>intro h<;>try exact y6)|refine y3 ?_|refine y7 ?_ ?_|refine y4 ?_|(refine y9 ?_ ?_<;>intro h)|exact y5|fail)
    all_goals try first
     |exact i64_in (by omega) (by omega)
    refine LoopR.same (j+1) ⟨by omega,ext_all hI he⟩ (by omega) rfl ⟨VLe.refl _,trivial⟩ trivial rfl rfl (by decide)
   ·
    repeat'(first|exact y0|refine y1 ?_|refine y2 ?_ ?_|(refine y8 ?_ ?_<;>intro h<;>try exact y6)|refine y3 ?_|refine y7 ?_ ?_|refine y4 ?_|(refine y9 ?_ ?_<;>intro h)|exact y5|fail)
    refine RegX.atCmp (CmpG.go rfl rfl ⟨⟨by kernel_rfl,by kernel_rfl⟩,trivial⟩ (BrG.any (fun h=>?_) (fun h=>?_)))
    ·
     repeat'(first|exact y0|refine y1 ?_|refine y2 ?_ ?_|(refine y8 ?_ ?_<;>intro h<;>try exact y6)|refine Fin.bool (.inl rfl) rfl ?_|refine y3 ?_|refine y7 ?_ ?_|refine y4 ?_|(refine y9 ?_ ?_<;>intro h)|exact y5|fail)
     symm;exact decide_eq_false fun e=>he (by rw[e])
    ·exfalso
     simp only[Bool.not_eq_false',Bool.and_eq_true,beq_iff_eq,decide_eq_true_eq,Bool.and_true] at h;exact he (dc_ext h)
  ·
   repeat'(first|exact y0|refine y1 ?_|refine y2 ?_ ?_|(refine y8 ?_ ?_<;>intro h<;>try exact y6)|refine Fin.bool (.inl rfl) rfl ?_|refine y3 ?_|refine y7 ?_ ?_|refine y4 ?_|(refine y9 ?_ ?_<;>intro h)|exact y5|fail)
   symm;exact decide_eq_true (list_ext hl fun i hi=>hI i (by omega))
 ·
  repeat'(first|exact y0|refine y1 ?_|refine y2 ?_ ?_|(refine y8 ?_ ?_<;>intro h<;>try exact y6)|refine Fin.bool (.inl rfl) rfl ?_|refine y3 ?_|refine y7 ?_ ?_|refine y4 ?_|(refine y9 ?_ ?_<;>intro h)|exact y5|fail)
  all_goals (symm;exact decide_eq_false fun e=>hl (by rw[e]))
end Go.Proofs.YtphdhedhhlfepaaGreatDoor
