import Derived.Test.YtegjgpldfgjoiaaGreatDoorCnB23
import Derived.Test.YtegjgpldfgjoiaaGreatDoorCnB21
import Derived.Test.YtegjgpldfgjoiaaGreatDoorCnB22
import Derived.Shelf.SlIterI.Sorted
import Derived.Shelf.SortM.Plain
import Derived.Shelf.SortM.SortNone
import Derived.Shelf.SlMaps.Clone
import Derived.Test.YtegjgpldfgjoiaaGreatDoorRows
import Derived.Test.YtegjgpldfgjoiaaGreatDoorCnB12
import Derived.Below
set_option linter.unusedSimpArgs false
set_option linter.unusedVariables false
namespace Go.Proofs.YtegjgpldfgjoiaaGreatDoor
open Go Ab Go.Shelf Go.Lib Go.Sort
set_option maxRecDepth 100000
set_option maxHeartbeats 1000000
theorem yR (x y:Nat×Nat):ltOf cfD x y=true↔(x.1<y.1\/(x.1=y.1/\x.2<y.2)):=by
 unfold ltOf cfD compareInt;rw[decide_eq_true_iff]
 split<;>split<;>(try split)<;>(try split)<;>omega
theorem oF (x y:Nat×Nat):ltOf cfD x y=false↔ ¬(x.1<y.1\/(x.1=y.1/\x.2<y.2)):=by
 rw[<-yR];simp
theorem B1:SWO (ltOf cfD) where
 irrefl x:=by rw[oF];omega
 trans x y z:=by simp only[yR];omega
 ntrans x y z:=by simp only[oF];omega
theorem BY (x y:Nat×Nat) (h1:ltOf cfD x y=false) (h2:ltOf cfD y x=false):x=y:=by
 rw[oF] at h1 h2;exact Prod.ext (by omega) (by omega)
def dj (G:List (Nat×Nat)):List (Nat×Nat):=G.mergeSort fun x y=> !(ltOf cfD) y x
theorem di (G:List (Nat×Nat)):(dj G).length=G.length:=by unfold dj;simp
theorem DT (φ:Ph):∀ (d:List (Nat×Nat)) (xs:List Value),All2 (Sr φ) (d.flatMap dgC) xs->xs=d.flatMap fy
 |[],[],_=>rfl
 |[],_::_,h=>h.elim
 |x::d,xs,h=>by
  rw[List.flatMap_cons] at h |-
  match xs,h with
  |a::b::r,⟨h1,h2,h3⟩=>
   have e1:a=.int .i64 (x.1:Int):=h1;have e2:b=.int .i64 (x.2:Int):=h2;rw[e1,e2,DT φ d r h3];rfl
  |[_],⟨_,h2⟩=>exact h2.elim
  |[],h=>exact h.elim
theorem Ek (φ:Ph):∀ (d:List (Nat×Nat)),All2 (Sr φ) (d.flatMap dgC) (d.flatMap fy)
 |[]=>trivial
 |x::d=>by
  rw[List.flatMap_cons,List.flatMap_cons];exact All2.append ⟨rfl,rfl,trivial⟩ (Ek φ d)
theorem gP:∀ d:List (Nat×Nat),(d.flatMap fy).length=d.length*2
 |[]=>rfl
 |x::d=>by rw[List.flatMap_cons,List.length_append,gP d];simp only[List.length_cons];simp[fy];omega
theorem ve:∀ (d:List (Nat×Nat)) (t:Nat),t<d.length*2->(d.flatMap fy)[t]! =(fy d[t/2]!)[t%2]!
 |[],t,h=>by simp at h
 |x::d,0,h=>rfl
 |x::d,1,h=>rfl
 |x::d,t+2,h=>by
  have:=ve d t (by simp only[List.length_cons] at h;omega);rw[show (t+2)/2=t/2+1 by omega,show (t+2)%2=t%2 by omega];rw[show (x::d)[t/2+1]! =d[t/2]! by simp,<-this,List.flatMap_cons];simp[fy]
theorem na (d:List (Nat×Nat)):flatK fy 2 d.toArray=(d.flatMap fy).toArray:=by
 refine ext_get! (by simp only[size_flatK,List.size_toArray,gP]) fun t ht=>?_
 have ht':t<d.length*2:=by simpa using ht
 rw[get_flatK _ _ _ t (by simpa using ht')];have:=ve d t ht'
 simpa using this.symm
theorem AA:∀ args w,(callFunc 120 args).run Tryz.prog w=.ok (.enter 120 args) w:=by
 intro args w;simp only[callFunc,Sem.run_bind,run_program,Result.andThen_ok,Tryz.func120];rfl
theorem ot (pre ys zs rest:List Value) (h:zs.length=ys.length):putCells id pre.length zs.toArray (pre++(ys++rest)).toArray=(pre++(zs++rest)).toArray:=by
 unfold putCells;apply Array.ext_getElem?;intro i;simp only[List.mapIdx_toArray,List.getElem?_toArray,List.getElem?_mapIdx,List.size_toArray];by_cases h1:i<pre.length
 ·rw[List.getElem?_append_left h1,List.getElem?_append_left h1]
  cases pre[i]? with
  |none=>rfl
  |some x=>simp;omega
 ·rw[List.getElem?_append_right (l₁:=pre) (l₂:=ys++rest) (by omega),List.getElem?_append_right (l₁:=pre) (l₂:=zs++rest) (by omega)]
  by_cases h2:i-pre.length<zs.length
  ·have h3:i-pre.length<ys.length:=by omega
   rw[List.getElem?_append_left (l₁:=ys) h3,List.getElem?_append_left (l₁:=zs) h2,List.getElem?_eq_getElem h3,List.getElem?_eq_getElem h2];simp only[Option.map_some,Option.some.injEq];rw[if_pos ⟨by omega,by omega⟩];simp[h2]
  ·rw[List.getElem?_append_right (l₁:=ys) (by omega),List.getElem?_append_right (l₁:=zs) (by omega),h]
   cases rest[i-pre.length-ys.length]? with
   |none=>rfl
   |some x=>simp only[Option.map_some,Option.some.injEq];rw[if_neg (by omega)]
theorem xM (w:World) (b o n:Nat) (D:Array (Nat×Nat)) (os:Array Obj) (j:Nat) (hj:j<w.heap.size) (hb:j≠b):(sortWorldK fy 2 w b o n D os).heap[j]? =w.heap[j]? :=by
 show ((w.heap.modify b _)++os)[j]? =_;rw[Array.getElem?_append_left (by simpa using hj),Array.getElem?_modify,if_neg (Ne.symm hb)]
theorem Gf (w:World) (b n:Nat) (d:List (Nat×Nat)) (os:Array Obj) (pre ys rest:List Value) (ty:TypeId) (fr:Nat×Nat) (hw:w.heap[b]? =some (.cells (pre++(ys++rest)).toArray ty fr)) (hl:ys.length=d.length*2):
 (sortWorldK fy 2 w b pre.length n d.toArray os).heap[b]? =some (.cells (pre++(d.flatMap fy++rest)).toArray ty fr):=by
 have hb:b<w.heap.size:=by
  rcases Nat.lt_or_ge b w.heap.size with h|h
  ·exact h
  ·rw[Array.getElem?_eq_none h] at hw;cases hw
 show ((w.heap.modify b (onCells (putCells id pre.length (flatK fy 2 d.toArray))))++os)[b]? =_;rw[Array.getElem?_append_left (by simpa using hb),Array.getElem?_modify,if_pos rfl,hw,na];show some (Obj.cells (putCells id pre.length (d.flatMap fy).toArray (pre++(ys++rest)).toArray) ty fr)=_;rw[ot pre ys _ rest (by rw[gP,hl])]
theorem Ae (w:World) (b:Nat) (d:List (Nat×Nat)) (pre rest:List Value) (ty:TypeId) (fr:Nat×Nat) (hw:w.heap[b]? =some (.cells (pre++(d.flatMap fy++rest)).toArray ty fr))
 (hfr:∀ o,o<(pre++(d.flatMap fy++rest)).length->(fr.1<=o&&o<fr.2)=false):HoldsK fy 2 w b pre.length d.toArray:=by
 intro j hj;rw[na] at hj |-;simp only[List.size_toArray] at hj;constructor
 ·unfold World.cell?
  rw[hw];simp only[Option.isSome_none,Bool.false_eq_true,if_false,List.getElem?_toArray,id];rw[List.getElem?_append_right (by omega),List.getElem?_append_left (by omega),show pre.length+j-pre.length=j by omega];rw[getElem!_pos _ _ (by simpa using hj)];simp
 ·unfold World.frozen?
  rw[hw];exact hfr _ (by simp only[List.length_append];omega)
theorem eO {ty g w:Nat} {cs:List S} (h:cs≠[]):opB ty g w cs=some {cells:=cs,ty:=ty,more:=true,sym:=true,flat:=true,gh:=some (g,w)}:=by
 cases cs with
 |nil=>exact absurd rfl h
 |cons c cs=>rfl
theorem AL {d:List (Nat×Nat)} (h:0<d.length):d.flatMap dgC≠[]:=fun e=>by
 have:=tA d;rw[e] at this;simp at this;omega
theorem xU (d:List (Nat×Nat)) (hd:d.length<=1000000000000):
 FC Tryz.prog 119 [.s (.row 0 1 d.length),.s (.fn 120)] 2 [(0,dgB 0 d)] .any 2 [(0,dgB 0 (dj d))]:=by
 refine⟨by kernel_rfl,fun φ xs w hx hg hf=>?_⟩
 match xs,hx with
 |[x0,x1],⟨h0,h1,_⟩=>
  have h1:x1=.func (.func 120) #[] #[]:=h1;subst h1
  rcases Nat.eq_zero_or_pos d.length with hz|hz
  ·obtain rfl:=List.eq_nil_of_length_eq_zero hz
   have h0:x0=.slice none 0 0:=by
    rcases h0 with ⟨_,h⟩|⟨h,_⟩
    ·exact h
    ·exact absurd h (by simp)
   subst h0;refine (AnyF.slices_SortFunc_none Tryz.sortD none 0 _ w).mono ?_;rintro e w' ⟨rfl,rfl⟩
   have e0:dj []=[]:=by simp[dj]
   rw[e0];exact⟨φ,_,rfl,trivial,hg,hf,Stp.refl _ _ _,Nat.le_refl _,fun _ _=>rfl⟩
  ·have hs1:=di d
   have eL:dgB 0 d=some {cells:=d.flatMap dgC,ty:=112,more:=true,sym:=true,flat:=true,gh:=some (1,2)}:=eO (AL hz);have eL':dgB 0 (dj d)=some {cells:=(dj d).flatMap dgC,ty:=112,more:=true,sym:=true,flat:=true,gh:=some (1,2)}:=eO (AL (by omega));rw[eL] at hg;rw[eL,eL']
   obtain⟨b,k,hb,hg1,rfl,hk⟩:∃ b k,φ.f 0=some b/\φ.f 1=some (k,0)/\x0=.slice (some ⟨b.1,b.2,none⟩) d.length k/\d.length<=k:=by
    rcases h0 with ⟨h,_⟩|⟨_,h⟩
    ·omega
    ·exact h
   obtain⟨b',hb',hbl⟩:=hg.hr 0 _ rfl
   obtain rfl:b'=b:=by rw[show φ.f 0=some b from hb] at hb';exact (Option.some.inj hb').symm
   obtain⟨pre,ys,rest,fr,hw,hpre,hys,_,hro,hgh,_⟩:=hbl;have hy:=DT _ d ys hys;have hro:=hro rfl;subst hy
   have hwr:∀ c,Wr φ [(0,some {cells:=d.flatMap dgC,ty:=112,more:=true,sym:=true,flat:=true,gh:=some (1,2)})] c↔c=b'.1:=fun c=>by
    constructor
    ·rintro⟨i,bl,e,hi,he,rfl,_⟩
     rw[ak] at hi;split at hi
     ·rename_i h;subst h;rw[show φ.f 0=some b' from hb] at he;rw[Option.some.inj he]
     ·cases hi
    ·rintro rfl;exact⟨0,_,b',rfl,hb,rfl,rfl⟩
   have hwr':∀ c,Wr φ [(0,some {cells:=(dj d).flatMap dgC,ty:=112,more:=true,sym:=true,flat:=true,gh:=some (1,2)})] c↔c=b'.1:=fun c=>by
    constructor
    ·rintro⟨i,bl,e,hi,he,rfl,_⟩
     rw[ak] at hi;split at hi
     ·rename_i h;subst h;rw[show φ.f 0=some b' from hb] at he;rw[Option.some.inj he]
     ·cases hi
    ·rintro rfl;exact⟨0,_,b',rfl,hb,rfl,rfl⟩
   have hlt:b'.1<w.heap.size:=by
    rcases Nat.lt_or_ge b'.1 w.heap.size with h|h
    ·exact h
    ·rw[Array.getElem?_eq_none h] at hw;cases hw
   have hH:=Ae w b'.1 d pre rest _ fr hw hro;rw[hpre] at hH;have ht:=kv (P:=Tryz.prog) (t:=112) (ag:=true) (sz:=2) (by kernel_rfl);refine (AnyQ.slices_SortFunc_total Tryz.sortD 2 (fun w=>(ht w).1) (fun w=>(ht w).2) fy (fun _=>rfl) (fun x v hv=>by simp[fy] at hv;rcases hv with rfl|rfl<;>rfl) cfD B1 120 #[] b'.1 b'.2 k d.toArray w AA ?_ hH hlt (by simp;omega) BY).mono ?_
   ·intro m os dk _ x y
    refine (wY (x.1:Int) (x.2:Int) (y.1:Int) (y.2:Int) _).mono ?_;rintro e w' ⟨rfl,q,os',rfl⟩;exact⟨rfl,q,os',rfl⟩
   ·rintro e w' ⟨rfl,n,os,rfl⟩
    have ho:=fun j=>xM w b'.1 b'.2 n (dj d).toArray os j
    have hat:=Gf w b'.1 n (dj d) os pre _ rest _ fr hw (by rw[gP,di]);rw[hpre] at hat;refine⟨φ,_,rfl,trivial,⟨fun i bl hi=>?_,fun i j bl bl' c c' hi hj _ _ _=>?_,fun c l hz'=>?_,hg.gz⟩,hf,⟨rfl,rfl,rfl,?_,fun c hc hn=>ho c hc fun e=>hn ((hwr c).2 e),fun j bl c hj hc hcl=>?_,fun _ _ h=>h,fun _ _ h=> .inl h⟩,Nat.le_refl _,fun _ _=>rfl⟩
    ·rw[ak] at hi
     split at hi
     ·rename_i h;subst h;obtain rfl:=Option.some.inj hi
      refine⟨b',hb,pre,_,rest,fr,hat,hpre,Ek _ _,fun h=>(by cases h),fun _ o ho'=>hro o ?_,fun g z hgz=>?_,fun g h=>(by cases h)⟩
      ·simp only[List.length_append,gP,di] at ho' |-;exact ho'
      ·obtain⟨k',hk',hz'⟩:=hgh g z hgz
       refine⟨k',hk',?_⟩;simp only[List.length_append,gP,di] at hz' |-;exact hz'
     ·cases hi
    ·rw[ak] at hi hj
     split at hi
     ·split at hj
      ·rename_i h h';exact .inl (h.symm.trans h')
      ·cases hj
     ·cases hi
    ·obtain⟨⟨ty,fr',e⟩,hn⟩:=hg.fz c l hz'
     have hne:c≠b'.1:=fun e=>hn ((hwr c).2 e)
     exact⟨⟨ty,fr',(ho c (hg.fzlt hz') hne).trans e⟩,fun h=>hne ((hwr' c).1 h)⟩
    ·show w.heap.size<=((w.heap.modify b'.1 _)++os).size
     simp
    ·rw[ak] at hj
     split at hj
     ·rename_i h;subst h
      exact⟨0,_,c,rfl,hc,rfl,fun h=>(by cases h),.inl rfl⟩
     ·cases hj
end Go.Proofs.YtegjgpldfgjoiaaGreatDoor
namespace Go.Proofs.YtegjgpldfgjoiaaGreatDoor
open Go Ab
set_option maxRecDepth 100000
set_option maxHeartbeats 1000000
def pn (G:List (Nat×Nat)):V:=.s (.frz (fun k=>dgC (G.getD k (0,0))) 2 G.length)
theorem po {G:List (Nat×Nat)} {k j:Nat} {x:S} (hk:k<G.length) (hx:(dgC (G.getD k (0,0)))[j]? =some x):(G.flatMap dgC)[k*2+j]? =some x/\aY x=true:=by
 induction G generalizing k with
 |nil=>simp at hk
 |cons y G ih=>
  cases k with
  |zero=>
   rw[List.flatMap_cons]
   match j,hx with
   |0,hx=>cases hx;exact⟨rfl,rfl⟩
   |1,hx=>cases hx;exact⟨rfl,rfl⟩
   |_+2,hx=>cases hx
  |succ k=>
   have:=ih (k:=k) (by simpa using hk) (by simpa using hx);rw[List.flatMap_cons,show (k+1)*2+j=(k*2+j)+2 by omega];exact this
theorem xV:FC Tryz.prog 119 [.s (.row 0 1 0),.s (.fn 120)] 2 [] .any 2 []:=by
 have:=xU [] (by decide);rw[show dj []=[] by simp[dj]] at this;exact⟨this.1,fun φ xs w hx hg hf=>(this.2 φ xs w hx (hg.sub fun i bl h=>by rw[ak] at h;split at h<;>cases h) hf).mono fun e w' ⟨φ',x,a,b,c,d,e,f⟩=>⟨φ',x,a,b,c.sub fun i bl h=>(by cases h),d,⟨e.os,e.tape,e.output,e.size,fun b hb hn=>e.keep b hb fun⟨i,bl,c,h,_⟩=>(by rw[ak] at h;split at h<;>cases h),fun j bl b h=>(by cases h),e.zle,fun b l hb=>(e.zfr b l hb).elim .inl fun h=>h.elim (fun h=> .inr (.inl h)) fun⟨i,bl,c,h,_⟩=>(by rw[ak] at h;split at h<;>cases h)⟩,f⟩⟩
abbrev dgS (g:Nat) (G:List (Nat×Nat)):Bl:={cells:=G.flatMap dgC,ty:=112,more:=true,sym:=true,flat:=true,gh:=some (g+1,2)}
theorem ja {g:Nat} {G:List (Nat×Nat)} (h:0<G.length):dgB g G=some (dgS g G):=eO (AL h)
theorem xT (d:List (Nat×Nat)) (hd:d.length<=1000000000000) (h:0<d.length):FC Tryz.prog 119 [.s (.row 0 1 d.length),.s (.fn 120)] 2 [(0,some (dgS 0 d))] .any 2 [(0,some (dgS 0 (dj d)))]:=by
 have:=xU d hd
 rwa [ja h,ja (by rw[di];exact h)] at this
theorem Ba (p:List Nd) (hw:wfN p) (h:bz p=false):FC Tryz.prog 65 [ae p] 0 [] (pn [(0,1)]) 0 []:=by
 have hv:=kS p hw;rw[h] at hv;refine FC.walk (by kernel_rfl) Tryz.func65 rfl rfl ?_
 repeat'(first|exact y0|refine y1 ?_|refine y2 ?_ ?_|(refine y8 ?_ ?_<;>intro h<;>try exact y6)|(refine wC ?_;first|refine wF 114 (pu hv ?_))|refine Ex.fz 2 (fun k=>dgC ([(0,1)].getD k (0,0))) 2 rfl rfl rfl rfl (fun _ _=>rfl) (fun k j x hk hx=>po hk hx) rfl rfl ?_|refine Fin.le (.inl rfl) rfl (VLe.refl _) rfl|refine y3 ?_|refine y7 ?_ ?_|refine y4 ?_|(refine y9 ?_ ?_<;>intro h)|exact y5|fail)
theorem nl (p:List Nd) (hw:wfN p) (hI:wfI p) (h:bz p=true) (hp:p.length<=2048) (t:Fo) (ha:t.At p 0) (hv:t.V (List.replicate t.cnt (false,68))) (hs:t.size=p.length):
 FC Tryz.prog 65 [ae p] 0 [] (pn (dj (fi p (anS p t).F (anS p t).S t p.length 0 (anS p t).G))) 0 []:=by
 have hvl:=kS p hw;rw[h] at hvl
 have hn:∀ j,j<p.length->gY p j:=fun j hj=>by
  obtain⟨sl,h1,h2⟩:=cY ha hv (Nat.zero_le _) (by omega:j<0+t.size);exact lx h1 h2
 have hso:=SOK.anS ha;have hT:=(bh false t 0 ⟨true,0,[]⟩ (st0 p)).1;have hG:=(bh false t 0 ⟨true,0,[]⟩ (st0 p)).2.2;have hac:=ny p hp hw t ha hv hs;unfold anS at hso hac |-;generalize aO false t 0 ⟨true,0,[]⟩ (st0 p)=U at*;rw[show (st0 p).S.length=p.length by simp[st0]] at hT;rw[show (st0 p).G.length=0 from rfl] at hG;obtain⟨T,D,F,G0⟩:=U;simp only at hso hT hG |-
 have hTl:∀ q∈T,q.segs.length<=1000000:=fun q hq=>by have:=hso.1 q hq;omega
 generalize hR:fi p F T t p.length 0 G0=R;refine FC.walk (by kernel_rfl) Tryz.func65 rfl rfl ?_
 repeat'(first|exact y0|refine y1 ?_|refine y2 ?_ ?_|(refine y8 ?_ ?_<;>intro h<;>try exact y6)|(refine wC ?_;first|refine wF 114 (pu hvl ?_)|(refine wF 115 ?_;refine CallG.mo [] hac rfl rfl (by rfl) rfl rfl ⟨VLe.refl _,trivial⟩ trivial rfl rfl (wr:=anL p ⟨T,D,F,G0⟩) (by show [_,_,_,_,_]=_;rw[ah,ah];rfl) ?_))|refine y3 ?_|refine y7 ?_ ?_|refine y4 ?_|(refine y9 ?_ ?_<;>intro h)|exact y5|fail)
 refine Ex.canon [0,1,2,3,4,5,6,7] 36 [(0,ae p),(3,.s (.ptr (some (0,0)))),(13,nI p.length),(14,nI 0)] (ndL p D.length T F G0) rfl rfl ⟨VLe.refl _,VLe.refl _,VLe.refl _,VLe.refl _,trivial⟩ ⟨rfl,rfl,rfl,MemP.op rfl trivial⟩ (by unfold ndL dgB;generalize List.flatMap dgC _=cg;cases cg<;>rfl) ?_
 refine Ex.inv (σ:=Nat×List (Nat×Nat)) (fun q=>[(14,nI q.1)]) (fun q=>ndL p D.length T F q.2)
  (fun q=>q.1<=p.length/\q.2.length<=2048+q.1*6145/\fi p F T t (p.length-q.1) q.1 q.2=R) (fun q=>p.length-q.1) (0,G0) rfl (fun _=>rfl) ?_ ?_ ?_ ?_
 ·exact⟨Nat.zero_le _,by simp only;omega,hR⟩
 ·exact⟨VLe.refl _,trivial⟩
 ·exact⟨rfl,rfl,rfl,SubP.op rfl trivial⟩
 ·rintro⟨i,G⟩ ⟨h1,h2,h3⟩
  simp only at h1 h2 h3 |-
  rcases Nat.lt_or_ge i p.length with hi|hi
  ·obtain⟨sl,g1,g2⟩:=cY ha hv (Nat.zero_le i) (by omega:i<0+t.size)
   have hoo:=qn p hp hI i (hn i hi);rw[show p.length-i=(p.length-(i+1))+1 by omega] at h3;simp only[fi] at h3
   cases ho:bU p i with
   |false=>
    rw[ho] at hoo h3;rw[if_neg (by decide)] at h3;have hlen:=eP (F:=F) (sc:=T.getD i z0) (G:=G) hp g1 g2;have hnd:=oE p hp hw hI hn D.length T hT hTl F hso.2 i _ _ sl G g1 g2 (by omega);generalize eQ p F (T.getD i z0) (t.kid 0 i) i G=G2 at*
    have k2:okH 8 (ndL p D.length T F G)=true:=(by unfold ndL dgB;generalize List.flatMap dgC _=cg;cases cg<;>rfl)
    repeat'(first|exact y0|refine y1 ?_|refine y2 ?_ ?_|(refine y8 ?_ ?_<;>intro h<;>try exact y6)|(refine wC ?_;first|(refine wF 116 ?_;refine CallG.mv [0] 0 hoo rfl rfl ⟨VLe.refl _,VLe.refl _,trivial⟩ rfl rfl (fun φ w b=>BlAt.view 1 rfl) rfl ⟨⟨rfl,_,rfl,rfl,fun h=>h⟩,trivial⟩ rfl rfl rfl rfl ?_)|(refine wF 118 ?_;refine CallG.mo [0,1,2,3,4,5,6,7] hnd rfl k2 rfl rfl rfl ⟨VLe.refl _,VLe.refl _,trivial⟩ ⟨⟨rfl,_,rfl,rfl,fun h=>h⟩,⟨rfl,_,rfl,rfl,fun h=>h⟩,⟨rfl,_,rfl,rfl,fun h=>h⟩,FitP.op rfl rfl trivial⟩ rfl rfl (wr:=[(0,some (anB p 3 D.length 8 G2.length)),(1,some (scB T)),(5,some (a_ F)),(6,none),(8,dgB 8 G2)]) (by show [_,_,_,_,_]=_;rw[ah];rfl) ?_))|refine y3 ?_|refine y7 ?_ ?_|refine y4 ?_|(refine y9 ?_ ?_<;>intro h)|exact y5|fail)
    all_goals try omega
    refine LoopR.move (i+1,G2) ⟨hi,by simp only;omega,h3⟩ (by simp only;omega) [0,1,2,3,4,5,8,9] rfl ?_ ?_ ?_
    ·repeat' (first|exact VLe.refl _|exact VLe.any _|exact True.intro|refine⟨?_,?_⟩)
    ·exact⟨rfl,rfl,rfl,MemP.op rfl trivial⟩
    ·exact (by unfold ndL dgB;generalize List.flatMap dgC _=cg;cases cg<;>rfl)
   |true=>
    rw[ho] at hoo h3;rw[if_pos rfl] at h3;have hlen:=eP (F:=F) (sc:=T.getD i z0) (G:=G++[(i,4)]) hp g1 g2;have hnd:=oE p hp hw hI hn D.length T hT hTl F hso.2 i _ _ sl (G++[(i,4)]) g1 g2 (by simp only[List.length_append,List.length_singleton];omega);simp only[List.length_append,List.length_singleton] at hlen;generalize eQ p F (T.getD i z0) (t.kid 0 i) i (G++[(i,4)])=G2 at*;simp only[ndL,List.length_append,List.length_singleton] at hnd
    have k2:okH 8 [(0,some (anB p 3 D.length 6 (G.length+1))),(1,some (scB T)),(5,some (a_ F)),(6,dgB 6 (G++[(i,4)]))]=true:=by
     unfold dgB;generalize List.flatMap dgC _=cg;cases cg<;>rfl
    repeat'(first|exact y0|refine y1 ?_|refine y2 ?_ ?_|(refine y8 ?_ ?_<;>intro h<;>try exact y6)|(refine wC ?_;first|(refine wF 116 ?_;refine CallG.mv [0] 0 hoo rfl rfl ⟨VLe.refl _,VLe.refl _,trivial⟩ rfl rfl (fun φ w b=>BlAt.view 1 rfl) rfl ⟨⟨rfl,_,rfl,rfl,fun h=>h⟩,trivial⟩ rfl rfl rfl rfl ?_)|(refine wF 117 ?_;refine CallG.mo [0,1,2,3,4,5,6,7] (bB p D.length G i 4 (by omega)) rfl (aT rfl rfl rfl) rfl rfl rfl ⟨VLe.refl _,VLe.refl _,VLe.refl _,trivial⟩ ⟨⟨rfl,_,rfl,rfl,fun h=>h⟩,FitP.op rfl rfl trivial⟩ rfl rfl (wr:=[(0,some (anB p 3 D.length 8 (G.length+1))),(6,none),(8,dgB 8 (G++[(i,4)]))]) (by show [_,_,_]=_;rw[ah];rfl) ?_)|(refine wF 118 ?_;refine CallG.mo [0,1,2,3,4,5,8,9] hnd rfl k2 rfl rfl rfl ⟨VLe.refl _,VLe.refl _,trivial⟩ ⟨⟨rfl,_,rfl,rfl,fun h=>h⟩,⟨rfl,_,rfl,rfl,fun h=>h⟩,⟨rfl,_,rfl,rfl,fun h=>h⟩,FitP.op rfl rfl trivial⟩ rfl rfl (wr:=[(0,some (anB p 3 D.length 10 G2.length)),(1,some (scB T)),(5,some (a_ F)),(8,none),(10,dgB 10 G2)]) (by show [_,_,_,_,_]=_;rw[ah];rfl) ?_))|refine y3 ?_|refine y7 ?_ ?_|refine y4 ?_|(refine y9 ?_ ?_<;>intro h)|exact y5|fail)
    all_goals try omega
    refine LoopR.move (i+1,G2) ⟨hi,by simp only;omega,h3⟩ (by simp only;omega) [0,1,2,3,4,5,10,11] rfl ?_ ?_ ?_
    ·repeat' (first|exact VLe.refl _|exact VLe.any _|exact True.intro|refine⟨?_,?_⟩)
    ·exact⟨rfl,rfl,rfl,MemP.op rfl trivial⟩
    ·exact (by unfold ndL dgB;generalize List.flatMap dgC _=cg;cases cg<;>rfl)
  ·have he:i=p.length:=by omega
   subst he;rw[Nat.sub_self] at h3;simp only[fi] at h3;subst h3;have hl:=di G;unfold pn;rw[hl]
   rcases Nat.eq_zero_or_pos G.length with hz|hz
   ·obtain rfl:=List.eq_nil_of_length_eq_zero hz
    show Ex _ _ _ _ _ [(0,some (anB p 3 D.length 6 0)),(1,some (scB T)),(5,some (a_ F)),(6,none)] _
    repeat'(first|exact y0|refine y1 ?_|refine y2 ?_ ?_|(refine y8 ?_ ?_<;>intro h<;>try exact y6)|refine RegX.atCall (CallG.me [6,7] xV rfl rfl ⟨VLe.refl _,VLe.refl _,trivial⟩ trivial rfl rfl rfl ?_)|refine Ex.set 2 (.s (.frz (fun k=>dgC ((dj []).getD k (0,0))) 2 0)) (VLe.s SLe.row0) rfl ?_|refine Fin.le (.inl rfl) rfl (VLe.refl _) rfl|refine y3 ?_|refine y7 ?_ ?_|refine y4 ?_|(refine y9 ?_ ?_<;>intro h)|exact y5|fail)
    all_goals try omega
   ·have hsp:=xT G (by omega) hz
    rw[show ndL p D.length T F G=[(0,some (anB p 3 D.length 6 G.length)),(1,some (scB T)),(5,some (a_ F)),(6,some (dgS 6 G))] from by unfold ndL;rw[ja hz]]
    repeat'(first|exact y0|refine y1 ?_|refine y2 ?_ ?_|(refine y8 ?_ ?_<;>intro h<;>try exact y6)|refine RegX.atCall (CallG.me [6,7] hsp rfl rfl ⟨VLe.refl _,VLe.refl _,trivial⟩ ⟨⟨rfl,_,rfl,rfl,fun h=>h⟩,trivial⟩ rfl rfl rfl ?_)|refine Ex.fz 2 (fun k=>dgC ((dj G).getD k (0,0))) 2 rfl rfl rfl rfl (fun _ _=>rfl) (fun k j x hk hx=>po (by omega) hx) rfl rfl ?_|refine Fin.le (.inl rfl) rfl (VLe.refl _) rfl|refine y3 ?_|refine y7 ?_ ?_|refine y4 ?_|(refine y9 ?_ ?_<;>intro h)|exact y5|fail)
    all_goals try omega
abbrev Dgs:=List (Nat×Nat)
set_option maxRecDepth 100000
theorem bW:∀ (m:Bool) (t:Fo) (i:Nat) (lp r:Bool) (G:Dgs),aM m t i lp r G=G++aM m t i lp r []
 |true,.nil,_,_,_,G=>by simp[aM]
 |false,.nil,_,_,_,G=>by simp[aM]
 |true,.cons x k n,i,lp,r,G=>by
  simp only[aM];rw[bW true n (i+1+k.size) lp r (if x.op=4 then aM false k (i+1) lp true G else G),bW true n (i+1+k.size) lp r (if x.op=4 then aM false k (i+1) lp true [] else [])];split
  ·rw[bW false k (i+1) lp true G];simp only[List.append_assoc]
  ·simp
 |false,.cons x k n,i,lp,r,G=>by
  simp only[aM]
  have h2:bS x.op i lp (fg i r G)=G++bS x.op i lp (fg i r []):=by
   unfold bS fg
   split<;>split<;>simp
  rw[h2];generalize bS x.op i lp (fg i r [])=E;rw[bW false n (i+1+k.size) lp _ (if x.op=31 then aM true k (i+1) lp true (G++E) else if x.op=32 then aM true k (i+1) true true (G++E) else G++E),bW false n (i+1+k.size) lp _ (if x.op=31 then aM true k (i+1) lp true E else if x.op=32 then aM true k (i+1) true true E else E)];split
  ·rw[bW true k (i+1) lp true (G++E),bW true k (i+1) lp true E];simp only[List.append_assoc]
  ·split
   ·rw[bW true k (i+1) true true (G++E),bW true k (i+1) true true E];simp only[List.append_assoc]
   ·simp only[List.append_assoc]
theorem mg (p:List Nd) (lim:Int):∀ (c j:Nat) (G:Dgs),gU p lim c j G=G++gU p lim c j []
 |0,_,G=>by simp[gU]
 |c+1,j,G=>by
  simp only[gU];rw[mg p lim c (j+1) (if (p.getD j dN).op=7/\lim<=ai p j then G++[(j,9)] else G),mg p lim c (j+1) (if (p.getD j dN).op=7/\lim<=ai p j then []++[(j,9)] else [])]
  split<;>simp
theorem yN (p:List Nd) (bl:Fo) (i:Nat) (G:Dgs):qu p bl i G=G++qu p bl i []:=by
 unfold qu;rw[bW _ _ _ _ _ (gU p _ _ _ G),bW _ _ _ _ _ (gU p _ _ _ []),mg p _ _ _ G,List.append_assoc]
theorem fe (p:List Nd) (len w:Int):∀ (t:Fo) (i:Nat) (bit:Int) (G:Dgs),cW p len w t i bit G=G++cW p len w t i bit []
 | .nil,_,_,G=>by simp[cW]
 | .cons x k n,i,bit,G=>by
   simp only[cW];split
   ·simp
   ·split
    ·exact fe p len w n _ _ G
    ·rw[fe p len w n _ _ (if len<((bit+ai p (i+2)-1).tdiv (8*w)+1)*w then G++[(i,7)] else G),fe p len w n _ _ (if len<((bit+ai p (i+2)-1).tdiv (8*w)+1)*w then []++[(i,7)] else [])]
     split<;>simp
theorem th (p:List Nd) (F:List (By×Nat)) (sc:Pth) (bl:Fo) (i:Nat) (G:Dgs):gv p F sc bl i G=G++gv p F sc bl i []:=by
 unfold gv;split
 ·simp
 ·split
  ·simp
  ·exact fe _ _ _ _ _ _ _
theorem vY (p:List Nd) (F:List (By×Nat)) (sc:Pth) (k:Fo) (i:Nat) (G:Dgs):eQ p F sc k i G=G++eQ p F sc k i []:=by
 unfold eQ;split
 ·split<;>simp
 ·split
  ·exact th _ _ _ _ _ _
  ·split
   ·split<;>simp
   ·split
    ·exact yN _ _ _ _
    ·simp
def qq (p:List Nd) (F:List (By×Nat)) (T:List Pth) (t:Fo) (i:Nat):Dgs:=(if bU p i then [(i,4)] else [])++eQ p F (T.getD i z0) (t.kid 0 i) i []
theorem lc (p:List Nd) (F:List (By×Nat)) (T:List Pth) (t:Fo):∀ (c i:Nat) (G:Dgs),fi p F T t c i G=G++(List.range' i c).flatMap (qq p F T t)
 |0,i,G=>by simp[fi]
 |c+1,i,G=>by
  simp only[fi];rw[lc p F T t c (i+1),vY,List.range'_succ,List.flatMap_cons];unfold qq
  split<;>simp
set_option maxRecDepth 100000
set_option maxHeartbeats 2000000
def C6 (E:Dgs):Prop:=∀ d∈E,d.2=6
theorem qb {p:List Nd} {t:Fo} (hp:p.length<=2048) (ha:t.At p 0) (hv:t.V (List.replicate t.cnt (false,68))) (hs:t.size=p.length):(dj (fi p (anS p t).F (anS p t).S t p.length 0 (anS p t).G)).length<=1000000000:=by
 rw[di]
 have key:∀ (l:List Nat),l.length<=2048->(∀ i∈l,i<p.length)->(l.flatMap (qq p (anS p t).F (anS p t).S t)).length<=l.length*6145:=by
  intro l
  induction l with
  |nil=>intro _ _;simp
  |cons i l ih=>
   intro h1 h2;rw[List.flatMap_cons,List.length_append,List.length_cons];have:=ih (by simp only[List.length_cons] at h1;omega) (fun j hj=>h2 j (List.mem_cons_of_mem _ hj));have hi:=h2 i (List.mem_cons_self ..);obtain⟨sl,g1,g2⟩:=cY ha hv (Nat.zero_le i) (by omega:i<0+t.size);have hn:=eP hp (F:=(anS p t).F) (sc:=(anS p t).S.getD i z0) (G:=[]) g1 g2
   have he:(qq p (anS p t).F (anS p t).S t i).length<=6145:=by
    unfold qq;rw[List.length_append]
    have:(if bU p i then [(i,4)] else []:Dgs).length<=1:=by split<;>simp
    simp only[List.length_nil] at hn;omega
   rw[Nat.add_mul];omega
 rw[lc,List.length_append];have h1:=(bh false t 0 ⟨true,0,[]⟩ (st0 p)).2.2;rw[show (st0 p).G.length=0 from rfl] at h1;have h2:=key (List.range' 0 p.length) (by simp;omega) (fun i hi=>by have:=List.mem_range'_1.1 hi;omega);simp only[List.length_range'] at h2;have h3:p.length*6145<=2048*6145:=Nat.mul_le_mul_right _ hp;have h4:(anS p t).G.length<=0+t.size:=h1;omega
theorem Bg {G:Dgs} (h:C6 (dj G)):C6 G:=fun d hd=>h d (by unfold dj;exact (List.mergeSort_perm ..).mem_iff.2 hd)
theorem Ep {G:Dgs} {k:Nat} (hk:k<G.length):G.getD k (0,0)∈G:=by
 rw[List.getD_eq_getElem?_getD,List.getElem?_eq_getElem hk];exact List.getElem_mem hk
theorem tJ {p:List Nd} {F:List (By×Nat)} {T:List Pth} {t:Fo} {G:Dgs} (h:C6 (fi p F T t p.length 0 G)) (j:Nat) (hj:j<p.length):bU p j=false:=by
 rw[lc] at h
 have this:C6 (if bU p j then [(j,4)] else []):=fun d hd=>h d (List.mem_append_right _ (List.mem_flatMap.2 ⟨j,by simp[hj],List.mem_append_left _ hd⟩))
 cases e:bU p j with
 |false=>rfl
 |true=>
  rw[e,if_pos rfl] at this;have:=this (j,4) (List.mem_singleton.2 rfl);cases this
theorem yV (p:List Nd) (hw:wfN p) (hI:wfI p):∃ G:Dgs,G.length<=1000000000/\FC Tryz.prog 65 [ae p] 0 [] (pn G) 0 []/\
 (C6 G->PrO p/\∃ t:Fo,t.At p 0/\t.V (List.replicate t.cnt (false,68))/\t.size=p.length/\EOK p (aH t)/\FC Tryz.prog 68 [ae p] 0 [] (.s (.frz (fun k=>[.int .i64 (((aH t).getD k 0:Nat):Int)]) 1 (aH t).length)) 0 []):=by
 cases h:bz p with
 |false=>exact⟨[(0,1)],by decide,Ba p hw h,fun e=>by have:=e (0,1) (List.mem_singleton.2 rfl);cases this⟩
 |true=>
  obtain⟨hp,t,ha,hv,hd,hs⟩:=dQ h;have hck:=nl p hw hI h hp t ha hv hs;have hG:=qb hp ha hv hs;refine⟨_,hG,hck,fun h6=>⟨⟨hp,hw,hI,fun j hj=>tJ (Bg h6) j hj,fun j hj=>?_⟩,t,ha,hv,hs,l4 ha hv hs,?_⟩⟩
  ·obtain⟨sl,h1,h2⟩:=cY ha hv (Nat.zero_le _) (by omega:j<0+t.size)
   exact lx h1 h2
  ·rcases Nat.eq_zero_or_pos p.length with e|e
   ·obtain rfl:=List.eq_nil_of_length_eq_zero e
    cases t with
    |nil=>exact rD
    |cons x k n=>simp only[Fo.size,List.length_nil] at hs;omega
   ·exact tu p hp e t ha hv hs
end Go.Proofs.YtegjgpldfgjoiaaGreatDoor
namespace Go.Proofs.YtegjgpldfgjoiaaGreatDoor
open Go.Shelf
def Tryz.keysA_ren:Go.Shelf.Ren:=⟨fun|7=>72|10=>131|n=>n,fun|23=>76|26=>3|3=>86|28=>133|0=>0|27=>132|33=>141|4=>4|n=>n,fun|n=>n⟩
theorem Tryz.keysA:Go.Proofs.SlLaysZI.n7 Tryz.prog Tryz.keysA_ren:={
 mixed:=by kernel_rfl
 f7:=⟨Tryz.f72.name,by decide,Tryz.func72.trans (congrArg some (by kernel_rfl))⟩
 f10:=⟨Tryz.f131.name,by decide,Tryz.func131.trans (congrArg some (by kernel_rfl))⟩
 t0:=Tryz.underlying0
 a0:=Tryz.isAgg0
 z0:=Tryz.sizeOf0
 v0:=Tryz.zeroValue0
 t4:=Tryz.underlying4
 a4:=Tryz.isAgg4
 z4:=Tryz.sizeOf4
 v4:=Tryz.zeroValue4
 t23:=Tryz.underlying76
 a23:=Tryz.isAgg76
 z23:=Tryz.sizeOf76
 v23:=Tryz.zeroValue76
 t26:=Tryz.underlying3
 a26:=Tryz.isAgg3
 z26:=Tryz.sizeOf3
 v26:=Tryz.zeroValue3
 t27:=Tryz.underlying132
 a27:=Tryz.isAgg132
 z27:=Tryz.sizeOf132
 v27:=Tryz.zeroValue132
 t28:=Tryz.underlying133
 a28:=Tryz.isAgg133
 z28:=Tryz.sizeOf133
 v28:=Tryz.zeroValue133
 t33:=Tryz.underlying141
 a33:=Tryz.isAgg141
 z33:=Tryz.sizeOf141
 v33:=Tryz.zeroValue141}
def Tryz.sortedA_ren:Go.Shelf.Ren:=⟨fun|6=>71|8=>130|9=>74|11=>190|13=>133|12=>132|23=>200|24=>201|14=>191|15=>192|16=>193|17=>194|18=>195|19=>196|20=>197|21=>198|22=>199|25=>238|26=>239|27=>240|28=>241|29=>242|30=>181|31=>260|n=>n,fun|26=>3|28=>133|24=>22|0=>0|3=>3|37=>137|48=>255|50=>47|4=>4|40=>248|39=>247|45=>43|5=>5|9=>9|51=>282|55=>285|57=>297|58=>298|33=>141|n=>n,fun|n=>n⟩
theorem Tryz.sortedA:Go.Proofs.SlLaysZI.n6 Tryz.prog Tryz.sortedA_ren:={
 mixed:=by kernel_rfl
 f6:=⟨Tryz.f71.name,by decide,Tryz.func71.trans (congrArg some (by kernel_rfl))⟩
 f8:=⟨Tryz.f130.name,by decide,Tryz.func130.trans (congrArg some (by kernel_rfl))⟩
 f11:=⟨Tryz.f190.name,by decide,Tryz.func190.trans (congrArg some (by kernel_rfl))⟩
 t0:=Tryz.underlying0
 a0:=Tryz.isAgg0
 z0:=Tryz.sizeOf0
 v0:=Tryz.zeroValue0
 t24:=Tryz.underlying22
 a24:=Tryz.isAgg22
 z24:=Tryz.sizeOf22
 v24:=Tryz.zeroValue22
 t26:=Tryz.underlying3
 a26:=Tryz.isAgg3
 z26:=Tryz.sizeOf3
 v26:=Tryz.zeroValue3
 t28:=Tryz.underlying133
 a28:=Tryz.isAgg133
 z28:=Tryz.sizeOf133
 v28:=Tryz.zeroValue133
 i26:=by kernel_rfl}
def Tryz.sortA_ren:Go.Shelf.Ren:=⟨fun|5=>74|8=>133|7=>132|19=>200|20=>201|10=>191|11=>192|12=>193|13=>194|14=>195|15=>196|16=>197|17=>198|18=>199|30=>238|31=>239|32=>240|33=>241|34=>242|35=>181|40=>260|n=>n,fun|23=>22|25=>3|3=>3|32=>137|22=>22|0=>0|44=>255|46=>47|4=>4|36=>248|35=>247|41=>43|5=>5|9=>9|53=>282|57=>285|63=>297|64=>298|n=>n,fun|n=>n⟩
theorem Tryz.sortA:Go.Proofs.SlLaysM.n5 Tryz.prog Tryz.sortA_ren:={
 mixed:=by kernel_rfl
 f5:=⟨Tryz.f74.name,by decide,Tryz.func74.trans (congrArg some (by kernel_rfl))⟩
 f7:=⟨Tryz.f132.name,by decide,Tryz.func132.trans (congrArg some (by kernel_rfl))⟩
 f8:=Tryz.func133.trans (congrArg some (by kernel_rfl))
 f10:=⟨Tryz.f191.name,by decide,Tryz.func191.trans (congrArg some (by kernel_rfl))⟩
 f11:=⟨Tryz.f192.name,by decide,Tryz.func192.trans (congrArg some (by kernel_rfl))⟩
 f12:=⟨Tryz.f193.name,by decide,Tryz.func193.trans (congrArg some (by kernel_rfl))⟩
 f13:=⟨Tryz.f194.name,by decide,Tryz.func194.trans (congrArg some (by kernel_rfl))⟩
 f14:=⟨Tryz.f195.name,by decide,Tryz.func195.trans (congrArg some (by kernel_rfl))⟩
 f15:=⟨Tryz.f196.name,by decide,Tryz.func196.trans (congrArg some (by kernel_rfl))⟩
 f16:=⟨Tryz.f197.name,by decide,Tryz.func197.trans (congrArg some (by kernel_rfl))⟩
 f17:=⟨Tryz.f198.name,by decide,Tryz.func198.trans (congrArg some (by kernel_rfl))⟩
 f18:=⟨Tryz.f199.name,by decide,Tryz.func199.trans (congrArg some (by kernel_rfl))⟩
 f19:=Tryz.func200.trans (congrArg some (by kernel_rfl))
 f20:=Tryz.func201.trans (congrArg some (by kernel_rfl))
 f30:=⟨Tryz.f238.name,by decide,Tryz.func238.trans (congrArg some (by kernel_rfl))⟩
 f31:=Tryz.func239.trans (congrArg some (by kernel_rfl))
 f32:=Tryz.func240.trans (congrArg some (by kernel_rfl))
 f33:=⟨Tryz.f241.name,by decide,Tryz.func241.trans (congrArg some (by kernel_rfl))⟩
 f34:=⟨Tryz.f242.name,by decide,Tryz.func242.trans (congrArg some (by kernel_rfl))⟩
 f35:=⟨Tryz.f181.name,by decide,Tryz.func181.trans (congrArg some (by kernel_rfl))⟩
 f40:=⟨Tryz.f260.name,by decide,Tryz.func260.trans (congrArg some (by kernel_rfl))⟩
 t0:=Tryz.underlying0
 a0:=Tryz.isAgg0
 z0:=Tryz.sizeOf0
 v0:=Tryz.zeroValue0
 t3:=Tryz.underlying3
 a3:=Tryz.isAgg3
 z3:=Tryz.sizeOf3
 v3:=Tryz.zeroValue3
 t4:=Tryz.underlying4
 a4:=Tryz.isAgg4
 z4:=Tryz.sizeOf4
 v4:=Tryz.zeroValue4
 t5:=Tryz.underlying5
 a5:=Tryz.isAgg5
 z5:=Tryz.sizeOf5
 v5:=Tryz.zeroValue5
 t9:=Tryz.underlying9
 a9:=Tryz.isAgg9
 z9:=Tryz.sizeOf9
 v9:=Tryz.zeroValue9
 t22:=Tryz.underlying22
 a22:=Tryz.isAgg22
 z22:=Tryz.sizeOf22
 v22:=Tryz.zeroValue22
 t23:=Tryz.underlying22
 a23:=Tryz.isAgg22
 z23:=Tryz.sizeOf22
 v23:=Tryz.zeroValue22
 t25:=Tryz.underlying3
 a25:=Tryz.isAgg3
 z25:=Tryz.sizeOf3
 v25:=Tryz.zeroValue3
 t32:=Tryz.underlying137
 a32:=Tryz.isAgg137
 z32:=Tryz.sizeOf137
 v32:=Tryz.zeroValue137
 t35:=Tryz.underlying247
 a35:=Tryz.isAgg247
 z35:=Tryz.sizeOf247
 v35:=Tryz.zeroValue247
 t36:=Tryz.underlying248
 a36:=Tryz.isAgg248
 z36:=Tryz.sizeOf248
 v36:=Tryz.zeroValue248
 t41:=Tryz.underlying43
 a41:=Tryz.isAgg43
 z41:=Tryz.sizeOf43
 v41:=Tryz.zeroValue43
 t44:=Tryz.underlying255
 a44:=Tryz.isAgg255
 z44:=Tryz.sizeOf255
 v44:=Tryz.zeroValue255
 t46:=Tryz.underlying47
 a46:=Tryz.isAgg47
 z46:=Tryz.sizeOf47
 v46:=Tryz.zeroValue47
 t53:=Tryz.underlying282
 a53:=Tryz.isAgg282
 z53:=Tryz.sizeOf282
 v53:=Tryz.zeroValue282
 t57:=Tryz.underlying285
 a57:=Tryz.isAgg285
 z57:=Tryz.sizeOf285
 v57:=Tryz.zeroValue285
 t63:=Tryz.underlying297
 a63:=Tryz.isAgg297
 z63:=Tryz.sizeOf297
 v63:=Tryz.zeroValue297
 t64:=Tryz.underlying298
 a64:=Tryz.isAgg298
 z64:=Tryz.sizeOf298
 v64:=Tryz.zeroValue298}
def Tryz.cloneA_ren:Go.Shelf.Ren:=⟨fun|5=>123|7=>182|n=>n,fun|23=>76|25=>3|3=>86|4=>4|20=>20|n=>n,fun|n=>n⟩
theorem Tryz.cloneA:Go.Proofs.SlLaysW.n5 Tryz.prog Tryz.cloneA_ren:={
 mixed:=by kernel_rfl
 f5:=⟨Tryz.f123.name,by decide,Tryz.func123.trans (congrArg some (by kernel_rfl))⟩
 f7:=Tryz.func182.trans (congrArg some (by kernel_rfl))
 t4:=Tryz.underlying4
 a4:=Tryz.isAgg4
 z4:=Tryz.sizeOf4
 v4:=Tryz.zeroValue4
 t20:=Tryz.underlying20
 a20:=Tryz.isAgg20
 z20:=Tryz.sizeOf20
 v20:=Tryz.zeroValue20
 t23:=Tryz.underlying76
 a23:=Tryz.isAgg76
 z23:=Tryz.sizeOf76
 v23:=Tryz.zeroValue76}
def Tryz.cloneB_ren:Go.Shelf.Ren:=⟨fun|5=>124|7=>182|n=>n,fun|23=>77|25=>9|3=>3|4=>4|20=>20|n=>n,fun|n=>n⟩
theorem Tryz.cloneB:Go.Proofs.SlLaysW.n5 Tryz.prog Tryz.cloneB_ren:={
 mixed:=by kernel_rfl
 f5:=⟨Tryz.f124.name,by decide,Tryz.func124.trans (congrArg some (by kernel_rfl))⟩
 f7:=Tryz.func182.trans (congrArg some (by kernel_rfl))
 t4:=Tryz.underlying4
 a4:=Tryz.isAgg4
 z4:=Tryz.sizeOf4
 v4:=Tryz.zeroValue4
 t20:=Tryz.underlying20
 a20:=Tryz.isAgg20
 z20:=Tryz.sizeOf20
 v20:=Tryz.zeroValue20
 t23:=Tryz.underlying77
 a23:=Tryz.isAgg77
 z23:=Tryz.sizeOf77
 v23:=Tryz.zeroValue77}
def Tryz.cloneC_ren:Go.Shelf.Ren:=⟨fun|5=>125|7=>182|n=>n,fun|23=>78|25=>3|3=>126|4=>4|20=>20|n=>n,fun|n=>n⟩
theorem Tryz.cloneC:Go.Proofs.SlLaysW.n5 Tryz.prog Tryz.cloneC_ren:={
 mixed:=by kernel_rfl
 f5:=⟨Tryz.f125.name,by decide,Tryz.func125.trans (congrArg some (by kernel_rfl))⟩
 f7:=Tryz.func182.trans (congrArg some (by kernel_rfl))
 t4:=Tryz.underlying4
 a4:=Tryz.isAgg4
 z4:=Tryz.sizeOf4
 v4:=Tryz.zeroValue4
 t20:=Tryz.underlying20
 a20:=Tryz.isAgg20
 z20:=Tryz.sizeOf20
 v20:=Tryz.zeroValue20
 t23:=Tryz.underlying78
 a23:=Tryz.isAgg78
 z23:=Tryz.sizeOf78
 v23:=Tryz.zeroValue78}
end Go.Proofs.YtegjgpldfgjoiaaGreatDoor
namespace Go.Proofs.YtegjgpldfgjoiaaGreatDoor
namespace Ab
open Go
theorem SC.fresh {P:Program} {f:FuncId} {args:List V} {n n':Nat} {L:Hp} {v:V} (bl:Bl) (hL:∀ i,n<=i->lk L i=none) (hn:n+1<=n')
 (h:∀ (φ:Ph) (xs:List Value) (w:World),All2 (Vr φ) args xs->Good φ L w->Calls P f xs.toArray w fun e w'=>∃ (g:Nat) (c:Nat->Option (Nat×Nat)) (y:Value),e=.returned y/\RowKit.Below w.heap.size w w'/\w.heap.size<=g/\c n=some (g,0)/\(∀ i,n'<=i->c i=none)/\∀ φ':Ph,φ.le φ'->(∀ i,n<=i->φ' i=c i)->Vr φ' v y/\BlAt φ' w' (g,0) bl):
 SC P f args n L v n' (put L n (some bl)):=by
 intro φ xs w h1 h2 h3;refine Calls.mono (h φ xs w h1 h2) ?_;rintro e w' ⟨g,c,y,rfl,hb,hlt,hcn,hc,hv⟩
 let φ':Ph:=⟨fun i=>if n<=i then c i else φ i,φ.z⟩
 have hge:∀ i,n<=i->φ' i=c i:=fun i hi=>by simp only[φ'];rw[if_pos hi]
 have hlo:∀ i,i<n->φ' i=φ i:=fun i hi=>by simp only[φ'];rw[if_neg (by omega)]
 have hle:φ.le φ':=by
  refine⟨fun i b hi=>?_,fun _ _ h=>h⟩
  rcases Nat.lt_or_ge i n with e|e
  ·rw[hlo i e];exact hi
  ·rw[h3 i e] at hi;cases hi
 obtain⟨hv1,hv2⟩:=hv φ' hle hge
 have hφn:φ' n=some (g,0):=by rw[hge n (Nat.le_refl _)];exact hcn
 have old:∀ j bj,lk (put L n (some bl)) j=some bj->n≠j->lk L j=some bj/\φ' j=φ j:=by
  intro j bj hj hne;rw[ax,if_neg hne] at hj;refine⟨hj,?_⟩
  rcases Nat.lt_or_ge j n with e|e
  ·exact hlo j e
  ·rw[hL j e] at hj;cases hj
 have new:∀ j bj b,lk L j=some bj->φ j=some b->b.1<w.heap.size:=by
  intro j bj b hj hbj;obtain⟨b',hb',hat⟩:=h2.hr j bj hj;rw[hbj] at hb';cases hb';exact hat.lt
 refine⟨φ',y,rfl,hv1,⟨fun j bj hj=>?_,fun j j' bj bj' b b₂ hj hj' hb1 hb2 hbb=>?_,fun b l hb1=>?_,h2.gz⟩,fun i hi=>?_,⟨hb.os,hb.tape,hb.output,hb.size,fun b hb' _=>hb.block b hb',fun j bj b hj hp hlt'=>?_,fun _ _ h=>h,fun _ _ h=> .inl h⟩,by omega,fun i hi=>hlo i hi⟩
 ·by_cases e:n=j
  ·subst e
   rw[ax,if_pos rfl] at hj;cases hj;exact⟨(g,0),hφn,hv2⟩
  ·obtain⟨hm,hφ⟩:=old j bj hj e
   obtain⟨b,hb1,hat⟩:=h2.hr j bj hm;exact⟨b,by rw[hφ];exact hb1,hat.mono hle (hb.block _ hat.lt)⟩
 ·by_cases e:n=j<;>by_cases e':n=j'
  ·exact .inl (e▸e')
  ·subst e
   obtain⟨hm,hφ⟩:=old j' bj' hj' e';rw[hφn] at hb1;cases hb1;have:=new j' bj' b₂ hm (by rw[<-hφ];exact hb2);simp only at hbb;omega
  ·subst e'
   obtain⟨hm,hφ⟩:=old j bj hj e;rw[hφn] at hb2;cases hb2;have:=new j bj b hm (by rw[<-hφ];exact hb1);simp only at hbb;omega
  ·obtain⟨hm,hφ⟩:=old j bj hj e
   obtain⟨hm',hφ'⟩:=old j' bj' hj' e';exact h2.inj j j' bj bj' b b₂ hm hm' (by rw[<-hφ];exact hb1) (by rw[<-hφ'];exact hb2) hbb
 ·have hl:=h2.fzlt hb1
  refine⟨by rw[hb.block b hl];exact (h2.fz b l hb1).1,?_⟩;rintro⟨i,bi,d,hi,hd,hdb,hro⟩;by_cases e:n=i
  ·subst e
   rw[hφn] at hd;cases hd;simp only at hdb;omega
  ·obtain⟨hm,hφ⟩:=old i bi hi e
   exact (h2.fz b l hb1).2 ⟨i,bi,d,hm,by rw[<-hφ];exact hd,hdb,hro⟩
 ·rw[hge i (by omega)];exact hc i hi
 ·by_cases e:n=j
  ·subst e
   rw[hφn] at hp;cases hp;simp only at hlt';omega
  ·obtain⟨hm,hφ⟩:=old j bj hj e
   exact⟨j,bj,b,hm,by rw[<-hφ];exact hp,rfl,id,.inl rfl⟩
end Ab
end Go.Proofs.YtegjgpldfgjoiaaGreatDoor
namespace Go.Proofs.YtegjgpldfgjoiaaGreatDoor
open Go Ab
set_option maxRecDepth 100000
set_option maxHeartbeats 2000000
theorem C2 (w:World) (o:Obj):(w.alloc o).heap[w.heap.size]? =some o:=by
 show (w.heap.push o)[w.heap.size]? =some o;simp
theorem yO {κ α:Type} (K:KD κ) (agg:Bool) (sz:Nat) (c:α->List S) (hw:∀ a,(c a).length=sz) (E:En κ α) (ck:Nat) (f:FuncId) (hcl:∀ (b:Nat) (es:Array MapEntry) (clock:Nat) (w:World),w.heap[b]? =some (.map es clock)->Calls Tryz.prog f #[.map (some b)] w fun e w'=>e=.returned (.map (some w.heap.size))/\w'=w.alloc (.map es clock)):
 SC Tryz.prog f [.s (.map (some 0))] 1 [(0,some (mB K agg sz c E ck))] (.s (.map (some 1))) 2 [(0,some (mB K agg sz c E ck)),(1,some (mB K agg sz c E ck))]:=by
 refine SC.fresh (L:=[(0,some (mB K agg sz c E ck))]) (mB K agg sz c E ck) (fun j hj=>?_) (Nat.le_refl _) fun φ xs w ha hg=>?_
 ·rw[ak,if_neg (by omega)];rfl
 ·match xs,ha with
  |[x],⟨hx,_⟩=>
   obtain⟨b,hb,hb2,rfl⟩:=hx;obtain⟨b',hb',hat⟩:=hg.hr 0 _ rfl;rw[hb] at hb';cases hb';obtain⟨M,hm,hM⟩:=ge (r:=false) hw hat hb2;refine Calls.mono (hcl b.1 _ _ w hm) ?_;rintro e w' ⟨rfl,rfl⟩;refine⟨w.heap.size,fun i=>if i=1 then some (w.heap.size,0) else none,_,rfl,(RowKit.Below.refl _ w).alloc (Nat.le_refl _) _,Nat.le_refl _,rfl,fun i hi=>if_neg (by omega),fun φ' hle hc=>⟨⟨(w.heap.size,0),hc 1 (Nat.le_refl _),rfl,rfl⟩,?_⟩⟩;exact rV hw (C2 w _) (EntsR.mono (φ:=fl φ) (φ':=fl φ') ⟨fun _ _ h=>(by cases h),fun _ _ h=>hle.z _ _ h⟩ hM) rfl
theorem GV (E:List Ent):FC Tryz.prog 123 [.s (.map (some 0))] 1 [(0,some (oB E))] (.s (.map (some 1))) 2 [(0,some (oB E)),(1,some (oB E))]:=
 ⟨by kernel_rfl,yO kdI true 14 cf bq _ _ _ fun b es clock w hb=>AnyW.maps_Clone Tryz.cloneA b es clock w hb⟩
theorem GU (E:List Ent):FC Tryz.prog 124 [.s (.map (some 0))] 1 [(0,some (pB E))] (.s (.map (some 1))) 2 [(0,some (pB E)),(1,some (pB E))]:=
 ⟨by kernel_rfl,yO kdS false 1 iC (fun _=>rfl) _ _ _ fun b es clock w hb=>AnyW.maps_Clone Tryz.cloneB b es clock w hb⟩
theorem GT (T:List Tb):FC Tryz.prog 125 [.s (.map (some 0))] 1 [(0,some (tB T))] (.s (.map (some 1))) 2 [(0,some (tB T)),(1,some (tB T))]:=
 ⟨by kernel_rfl,yO kdI true 2 eF bA _ _ _ fun b es clock w hb=>AnyW.maps_Clone Tryz.cloneC b es clock w hb⟩
abbrev bn (o p t:Nat) (nx nt:Int):Bl:={cells:=[.map (some o),.map (some p),.map (some t),.int .i64 nx,.int .i64 nt],ty:=80}
theorem ni (E:List Ent) (T:List Tb) (nx nt:Int):FC Tryz.prog 66 [.s (.ptr (some (0,0)))] 4 [(0,some {bn 1 2 3 nx nt with ro:=true}),(1,some (oB E)),(2,some (pB E)),(3,some (tB T))] (.agg [.map (some 4),.map (some 5),.map (some 6),.int .i64 nx,.int .i64 nt]) 7 [(0,some {bn 1 2 3 nx nt with ro:=true}),(1,some (oB E)),(2,some (pB E)),(3,some (tB T)),(4,some (oB E)),(5,some (pB E)),(6,some (tB T))]:=by
 have h1:=GV E;have h2:=GU E;have h3:=GT T;refine FC.walk (by kernel_rfl) Tryz.func66 rfl rfl ?_
 repeat'(first|exact y0|refine y1 ?_|refine y2 ?_ ?_|(refine y8 ?_ ?_<;>intro h<;>try exact y6)|(refine wC ?_;first|(refine wF 123 ?_;refine CallG.me [1] h1 rfl rfl ⟨VLe.refl _,trivial⟩ ⟨⟨rfl,_,rfl,rfl,fun h=>h⟩,trivial⟩ rfl rfl rfl ?_)|(refine wF 124 ?_;refine CallG.me [2] h2 rfl rfl ⟨VLe.refl _,trivial⟩ ⟨⟨rfl,_,rfl,rfl,fun h=>h⟩,trivial⟩ rfl rfl rfl ?_)|(refine wF 125 ?_;refine CallG.me [3] h3 rfl rfl ⟨VLe.refl _,trivial⟩ ⟨⟨rfl,_,rfl,rfl,fun h=>h⟩,trivial⟩ rfl rfl rfl ?_))|refine y3 ?_|refine y7 ?_ ?_|refine y4 ?_|(refine y9 ?_ ?_<;>intro h)|exact y5|fail)
 exact⟨.inl rfl,_,[5,6,7],VLe.refl _,EndOK.by rfl ⟨rfl,rfl,rfl,rfl,rfl,rfl,rfl,trivial⟩ rfl rfl rfl rfl⟩
set_option maxRecDepth 100000
set_option maxHeartbeats 2000000
abbrev spL (E:List Ent) (T:List Tb):Hp:=[(0,some (bn 1 2 3 (E.length:Nat) (1+(T.length:Int)))),(1,some (oB E)),(2,some (pB E)),(3,some (tB T))]
abbrev spN (E:List Ent) (T:List Tb):Hp:=[(0,some (bn 4 5 6 (E.length:Nat) (1+(T.length:Int)))),(1,none),(2,none),(3,none),(4,some (oB E)),(5,some (pB E)),(6,some (tB T))]
theorem yX (p:List Nd) (G:Dgs) (hG:G.length<=1000000000) (hck:FC Tryz.prog 65 [ae p] 0 [] (pn G) 0 []) (h6: ¬C6 G) (E:List Ent) (T:List Tb):
 FC Tryz.prog 25 [.s (.ptr (some (0,0))),ae p] 4 (spL E T) (.tup [.s (.int .i64 0),.s (.int .i64 1)]) 7 (spN E T):=by
 refine FC.walk (by kernel_rfl) Tryz.func25 rfl rfl ?_
 repeat'(first|exact y0|refine y1 ?_|refine y2 ?_ ?_|(refine y8 ?_ ?_<;>intro h<;>try exact y6)|(refine wC ?_;first|refine wF 65 (pu hck ?_))|refine y3 ?_|refine y7 ?_ ?_|refine y4 ?_|(refine y9 ?_ ?_<;>intro h)|exact y5|fail)
 refine Ex.inv (σ:=Nat) (fun i=>[(16,nI (i:Nat))]) (fun _=>spL E T) (fun i=>i<=G.length/\∀ k,k<i->(G.getD k (0,0)).2=6) (fun i=>G.length-i) 0 rfl (fun _=>rfl) ⟨Nat.zero_le _,fun k hk=>absurd hk (Nat.not_lt_zero _)⟩ ⟨VLe.refl _,trivial⟩ ⟨rfl,rfl,rfl,rfl,trivial⟩ ?_;rintro i ⟨hi,hb⟩;by_cases hlt:i<G.length
 ·by_cases hc:(G.getD i (0,0)).2=6
  ·
   have hb':∀ k,k<i+1->(G.getD k (0,0)).2=6:=by
    intro k hk
    rcases Nat.lt_or_ge k i with h|h
    ·exact hb k h
    ·rw[show k=i by omega];exact hc
   repeat'(first|exact y0|refine y1 ?_|refine y2 ?_ ?_|(refine y8 ?_ ?_<;>intro h<;>try exact y6)|refine y3 ?_|refine y7 ?_ ?_|refine y4 ?_|(refine y9 ?_ ?_<;>intro h)|exact y5|fail)
   refine LoopR.same (i+1) ⟨hlt,hb'⟩ (by omega) rfl ⟨VLe.of_eq (congrArg nI (by push_cast;omega)),trivial⟩ ⟨rfl,rfl,rfl,rfl,trivial⟩ rfl rfl (by decide)
  ·
   repeat'(first|exact y0|refine y1 ?_|refine y2 ?_ ?_|(refine y8 ?_ ?_<;>intro h<;>try exact y6)|refine y3 ?_|refine y7 ?_ ?_|refine y4 ?_|(refine y9 ?_ ?_<;>intro h)|exact y5|fail)
   exact⟨.inl rfl,_,[1,2,3],VLe.refl _,EndOK.move rfl ⟨rfl,rfl,rfl,rfl,trivial⟩ rfl rfl rfl rfl rfl⟩
 ·exfalso
  refine h6 fun d hd=>?_
  obtain⟨k,hk,rfl⟩:=List.mem_iff_getElem.1 hd;have:=hb k (by omega)
  rwa [List.getD_eq_getElem?_getD,List.getElem?_eq_getElem hk] at this
end Go.Proofs.YtegjgpldfgjoiaaGreatDoor
