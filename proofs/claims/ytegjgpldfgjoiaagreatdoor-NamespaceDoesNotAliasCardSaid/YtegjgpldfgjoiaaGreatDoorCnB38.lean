import Derived.Test.YtegjgpldfgjoiaaGreatDoorCnB24
import Derived.Test.YtegjgpldfgjoiaaGreatDoorCnB15
import Derived.Test.YtegjgpldfgjoiaaGreatDoorCnB13
import Derived.Test.YtegjgpldfgjoiaaGreatDoorCnB22
set_option linter.unusedSimpArgs false
set_option linter.unusedVariables false
namespace Go.Proofs.YtegjgpldfgjoiaaGreatDoor
open Go Ab
set_option maxRecDepth 100000
set_option maxHeartbeats 4000000
theorem Dx:dj []=[]:=by simp[dj]
theorem rO (p:List Nd) (hw:wfN p) (hI:wfI p) (h:bz p=true) (hp:p.length<=2048) (t:Fo) (ha:t.At p 0) (hv:t.V (List.replicate t.cnt (false,68))) (hs:t.size=p.length):
 FC Tryz.prog 65 [ae p] 0 [] (.s (.row 0 1 (dj (fi p (anS p t).F (anS p t).S t p.length 0 (anS p t).G)).length)) 2 [(0,dgB 0 (dj (fi p (anS p t).F (anS p t).S t p.length 0 (anS p t).G)))]:=by
 have hvl:=kS p hw;rw[h] at hvl
 have hn:∀ j,j<p.length->gY p j:=fun j hj=>by
  obtain⟨sl,h1,h2⟩:=cY ha hv (Nat.zero_le _) (by omega:j<0+t.size);exact lx h1 h2
 have hso:=SOK.anS ha;have hT:=(bh false t 0 ⟨true,0,[]⟩ (st0 p)).1;have hG:=(bh false t 0 ⟨true,0,[]⟩ (st0 p)).2.2;have hac:=ny p hp hw t ha hv hs;unfold anS at hso hac |-;generalize aO false t 0 ⟨true,0,[]⟩ (st0 p)=U at*;rw[show (st0 p).S.length=p.length by simp[st0]] at hT;rw[show (st0 p).G.length=0 from rfl] at hG;obtain⟨T,D,F,G0⟩:=U;simp only at hso hT hG |-
 have hTl:∀ q∈T,q.segs.length<=1000000:=fun q hq=>by have:=hso.1 q hq;omega
 generalize hR:fi p F T t p.length 0 G0=R;refine FC.walk (by kernel_rfl) Tryz.func65 rfl rfl ?_
 repeat'(first|exact y0|refine y1 ?_|refine y2 ?_ ?_|(refine y8 ?_ ?_<;>intro h<;>try exact y6)|(refine wC ?_;first|refine wF 114 (pu hvl ?_)|(refine wF 115 ?_;refine CallG.mo [] hac rfl rfl (by rfl) rfl rfl ⟨VLe.refl _,trivial⟩ trivial rfl rfl (wr:=anL p ⟨T,D,F,G0⟩) (by show [_,_,_,_,_]=_;rw[ah,ah];rfl) ?_))|refine y3 ?_|refine y7 ?_ ?_|refine y4 ?_|(refine y9 ?_ ?_<;>intro h)|exact y5|fail)
 refine Ex.canon [0,1,2,3,4,5,6,7] 36 [(0,ae p),(3,.s (.ptr (some (0,0)))),(13,nI p.length),(14,nI 0)] (ndL p D.length T F G0) rfl rfl ⟨VLe.refl _,VLe.refl _,VLe.refl _,VLe.refl _,trivial⟩ ⟨rfl,rfl,rfl,MemP.op rfl trivial⟩ (by unfold ndL dgB;generalize List.flatMap dgC _=cg;cases cg<;>rfl) ?_
 refine Ex.inv (σ:=Nat×List (Nat×Nat)) (fun q=>[(14,nI q.1)]) (fun q=>ndL p D.length T F q.2)
  (fun q=>q.1<=p.length/\q.2.length<=2048+q.1*6145/\fi p F T t (p.length-q.1) q.1 q.2=R) (fun q=>p.length-q.1) (0,G0) rfl (fun _=>rfl) ?_ ?_ ?_ ?_
 ·exact⟨Nat.zero_le _,by simp only;omega,hR⟩
 ·exact⟨VLe.refl _,trivial⟩
 ·exact⟨rfl,rfl,rfl,SubP.op rfl trivial⟩
 ·rintro⟨i,G⟩ ⟨h1,h2,h3⟩
  simp only at h1 h2 h3 |-
  rcases Nat.lt_or_ge i p.length with hi|hi
  ·obtain⟨sl,g1,g2⟩:=cY ha hv (Nat.zero_le i) (by omega:i<0+t.size)
   have hoo:=qn p hp hI i (hn i hi);rw[show p.length-i=(p.length-(i+1))+1 by omega] at h3;simp only[fi] at h3
   cases ho:bU p i with
   |false=>
    rw[ho] at hoo h3;rw[if_neg (by decide)] at h3;have hlen:=eP (F:=F) (sc:=T.getD i z0) (G:=G) hp g1 g2;have hnd:=oE p hp hw hI hn D.length T hT hTl F hso.2 i _ _ sl G g1 g2 (by omega);generalize eQ p F (T.getD i z0) (t.kid 0 i) i G=G2 at*
    have k2:okH 8 (ndL p D.length T F G)=true:=(by unfold ndL dgB;generalize List.flatMap dgC _=cg;cases cg<;>rfl)
    repeat'(first|exact y0|refine y1 ?_|refine y2 ?_ ?_|(refine y8 ?_ ?_<;>intro h<;>try exact y6)|(refine wC ?_;first|(refine wF 116 ?_;refine CallG.mv [0] 0 hoo rfl rfl ⟨VLe.refl _,VLe.refl _,trivial⟩ rfl rfl (fun φ w b=>BlAt.view 1 rfl) rfl ⟨⟨rfl,_,rfl,rfl,fun h=>h⟩,trivial⟩ rfl rfl rfl rfl ?_)|(refine wF 118 ?_;refine CallG.mo [0,1,2,3,4,5,6,7] hnd rfl k2 rfl rfl rfl ⟨VLe.refl _,VLe.refl _,trivial⟩ ⟨⟨rfl,_,rfl,rfl,fun h=>h⟩,⟨rfl,_,rfl,rfl,fun h=>h⟩,⟨rfl,_,rfl,rfl,fun h=>h⟩,FitP.op rfl rfl trivial⟩ rfl rfl (wr:=[(0,some (anB p 3 D.length 8 G2.length)),(1,some (scB T)),(5,some (a_ F)),(6,none),(8,dgB 8 G2)]) (by show [_,_,_,_,_]=_;rw[ah];rfl) ?_))|refine y3 ?_|refine y7 ?_ ?_|refine y4 ?_|(refine y9 ?_ ?_<;>intro h)|exact y5|fail)
    all_goals try omega
    refine LoopR.move (i+1,G2) ⟨hi,by simp only;omega,h3⟩ (by simp only;omega) [0,1,2,3,4,5,8,9] rfl ?_ ?_ ?_
    ·repeat' (first|exact VLe.refl _|exact VLe.any _|exact True.intro|refine⟨?_,?_⟩)
    ·exact⟨rfl,rfl,rfl,MemP.op rfl trivial⟩
    ·exact (by unfold ndL dgB;generalize List.flatMap dgC _=cg;cases cg<;>rfl)
   |true=>
    rw[ho] at hoo h3;rw[if_pos rfl] at h3;have hlen:=eP (F:=F) (sc:=T.getD i z0) (G:=G++[(i,4)]) hp g1 g2;have hnd:=oE p hp hw hI hn D.length T hT hTl F hso.2 i _ _ sl (G++[(i,4)]) g1 g2 (by simp only[List.length_append,List.length_singleton];omega);simp only[List.length_append,List.length_singleton] at hlen;generalize eQ p F (T.getD i z0) (t.kid 0 i) i (G++[(i,4)])=G2 at*;simp only[ndL,List.length_append,List.length_singleton] at hnd
    have k2:okH 8 [(0,some (anB p 3 D.length 6 (G.length+1))),(1,some (scB T)),(5,some (a_ F)),(6,dgB 6 (G++[(i,4)]))]=true:=by
     unfold dgB;generalize List.flatMap dgC _=cg;cases cg<;>rfl
    repeat'(first|exact y0|refine y1 ?_|refine y2 ?_ ?_|(refine y8 ?_ ?_<;>intro h<;>try exact y6)|(refine wC ?_;first|(refine wF 116 ?_;refine CallG.mv [0] 0 hoo rfl rfl ⟨VLe.refl _,VLe.refl _,trivial⟩ rfl rfl (fun φ w b=>BlAt.view 1 rfl) rfl ⟨⟨rfl,_,rfl,rfl,fun h=>h⟩,trivial⟩ rfl rfl rfl rfl ?_)|(refine wF 117 ?_;refine CallG.mo [0,1,2,3,4,5,6,7] (bB p D.length G i 4 (by omega)) rfl (aT rfl rfl rfl) rfl rfl rfl ⟨VLe.refl _,VLe.refl _,VLe.refl _,trivial⟩ ⟨⟨rfl,_,rfl,rfl,fun h=>h⟩,FitP.op rfl rfl trivial⟩ rfl rfl (wr:=[(0,some (anB p 3 D.length 8 (G.length+1))),(6,none),(8,dgB 8 (G++[(i,4)]))]) (by show [_,_,_]=_;rw[ah];rfl) ?_)|(refine wF 118 ?_;refine CallG.mo [0,1,2,3,4,5,8,9] hnd rfl k2 rfl rfl rfl ⟨VLe.refl _,VLe.refl _,trivial⟩ ⟨⟨rfl,_,rfl,rfl,fun h=>h⟩,⟨rfl,_,rfl,rfl,fun h=>h⟩,⟨rfl,_,rfl,rfl,fun h=>h⟩,FitP.op rfl rfl trivial⟩ rfl rfl (wr:=[(0,some (anB p 3 D.length 10 G2.length)),(1,some (scB T)),(5,some (a_ F)),(8,none),(10,dgB 10 G2)]) (by show [_,_,_,_,_]=_;rw[ah];rfl) ?_))|refine y3 ?_|refine y7 ?_ ?_|refine y4 ?_|(refine y9 ?_ ?_<;>intro h)|exact y5|fail)
    all_goals try omega
    refine LoopR.move (i+1,G2) ⟨hi,by simp only;omega,h3⟩ (by simp only;omega) [0,1,2,3,4,5,10,11] rfl ?_ ?_ ?_
    ·repeat' (first|exact VLe.refl _|exact VLe.any _|exact True.intro|refine⟨?_,?_⟩)
    ·exact⟨rfl,rfl,rfl,MemP.op rfl trivial⟩
    ·exact (by unfold ndL dgB;generalize List.flatMap dgC _=cg;cases cg<;>rfl)
  ·have he:i=p.length:=by omega
   subst he;rw[Nat.sub_self] at h3;simp only[fi] at h3;subst h3;have hl:=di G
   rcases Nat.eq_zero_or_pos G.length with hz|hz
   ·obtain rfl:=List.eq_nil_of_length_eq_zero hz
    show Ex _ _ _ _ _ [(0,some (anB p 3 D.length 6 0)),(1,some (scB T)),(5,some (a_ F)),(6,none)] _
    repeat'(first|exact y0|refine y1 ?_|refine y2 ?_ ?_|(refine y8 ?_ ?_<;>intro h<;>try exact y6)|refine RegX.atCall (CallG.me [6,7] xV rfl rfl ⟨VLe.refl _,VLe.refl _,trivial⟩ trivial rfl rfl rfl ?_)|refine y3 ?_|refine y7 ?_ ?_|refine y4 ?_|(refine y9 ?_ ?_<;>intro h)|exact y5|fail)
    all_goals try omega
    have h0:=Dx;rw[h0];exact⟨.inl rfl,_,[6,7],VLe.refl _,EndOK.by rfl trivial rfl rfl rfl rfl⟩
   ·have hsp:=xT G (by omega) hz
    rw[show ndL p D.length T F G=[(0,some (anB p 3 D.length 6 G.length)),(1,some (scB T)),(5,some (a_ F)),(6,some (dgS 6 G))] from by unfold ndL;rw[ja hz]]
    repeat'(first|exact y0|refine y1 ?_|refine y2 ?_ ?_|(refine y8 ?_ ?_<;>intro h<;>try exact y6)|refine RegX.atCall (CallG.me [6,7] hsp rfl rfl ⟨VLe.refl _,VLe.refl _,trivial⟩ ⟨⟨rfl,_,rfl,rfl,fun h=>h⟩,trivial⟩ rfl rfl rfl ?_)|refine y3 ?_|refine y7 ?_ ?_|refine y4 ?_|(refine y9 ?_ ?_<;>intro h)|exact y5|fail)
    all_goals try omega
    rw[ja (by omega:0<(dj G).length),hl];exact⟨.inl rfl,_,[6,7],VLe.refl _,EndOK.by rfl ⟨rfl,trivial⟩ rfl rfl rfl rfl⟩
end Go.Proofs.YtegjgpldfgjoiaaGreatDoor
namespace Go.Proofs.YtegjgpldfgjoiaaGreatDoor
namespace Ab
open Go
theorem SC.thaw {P:Program} {f:FuncId} {args:List V} {v:V} {n':Nat} {L':Hp} (get:Nat->List S) (sz:Nat) {N:Nat} {c:Option Nat} {bl:Bl} (h:SC P f (.s (.frz get sz N)::args) 0 [] v n' L')
 (hro:bl.ro=false) (hk:bl.kind=none) (hg:∀ k,k<N->(get k).length=sz) (hc:∀ k j x,k<N->(get k)[j]? =some x->bl.cells[k*sz+j]? =some x/\aY x=true)
 (ha:args.all (okV 0)=true) (hv:∀ (φ ψ:Ph) (x:Value),φ.f=ψ.f->Vr φ v x->Vr ψ v x) (hb:∀ (i:Nat) (b1:Bl),lk L' i=some b1->∀ (φ ψ:Ph) (w:World) (b:Nat×Nat),φ.f=ψ.f->BlAt φ w b b1->BlAt ψ w b b1)
 {L3:Hp} (h0:lk L3 0=some bl) (h3:∀ i,lk L3 (i+1)=(lk L' i).map (cE fun j=>j+1)):
 SC P f (.s (.slc (some (0,0)) N c)::args) 1 [(0,some bl)] (bv (fun j=>j+1) v) (n'+1) L3:=by
 intro φ xs w hx hgd hf;obtain⟨b0,hb0,hat⟩:=hgd.hr 0 bl rfl;obtain⟨φ1,e1,hle,hz,hg1,hsl⟩:=kD hgd get sz (i:=0) (N:=N) rfl hro hk hg hc
 have hz0:φ.z b0.1=none:=by
  cases e:φ.z b0.1 with
  |none=>rfl
  |some l=>exact absurd ⟨0,bl,b0,rfl,hb0,rfl,hro⟩ (hgd.fz b0.1 l e).2
 have hlt:=hat.lt
 match xs,hx with
 |[],hx=>exact hx.elim
 |x0::xs,⟨hx0,hx⟩=>
 have hx1:All2 (Vr (aj 0 φ1)) (.s (.frz get sz N)::args) (x0::xs):=by
  refine⟨Vr.cut (hsl _ x0 rfl hx0) rfl,?_⟩
  have key:∀ (l:List V) (ys:List Value),l.all (okV 0)=true->All2 (Vr φ) l ys->All2 (Vr (aj 0 φ1)) l ys:=by
   intro l
   induction l with
   |nil=>intro ys _ hy;cases ys with
    |nil=>trivial
    |cons _ _=>exact hy.elim
   |cons a t ih=>intro ys ho hy;cases ys with
    |nil=>exact hy.elim
    |cons y ys=>
     rw[List.all_cons,Bool.and_eq_true] at ho;exact⟨Vr.cut (Vr.mono hle hy.1) ho.1,ih ys ho.2 hy.2⟩
  exact key args xs ha hx
 have hg2:Good (aj 0 φ1) [] w:=⟨fun i b hi=>(by cases hi),fun i j b b' _ _ hi=>(by cases hi),fun b l hb=>⟨(hg1.fz b l hb).1,fun hw=>by obtain⟨i,b',c',hi,_⟩:=hw;cases hi⟩,hg1.gz⟩
 refine (h (aj 0 φ1) (x0::xs) w hx1 hg2 (fun i _=>if_neg (t:=φ1 i) (Nat.not_lt_zero i))).mono ?_;rintro e w' ⟨φ',x,rfl,hvx,hg',hn,st,_,_⟩
 let φ3:Ph:=⟨fun i=>match i with|0=>φ 0|i+1=>φ' i,fun y=>if y=b0.1 then none else φ'.z y⟩
 have z3:∀ y l,φ3.z y=some l->y≠b0.1/\φ'.z y=some l:=by
  intro y l hy;by_cases e:y=b0.1
  ·simp only[φ3,if_pos e] at hy;cases hy
  ·simp only[φ3,if_neg e] at hy;exact⟨e,hy⟩
 have zle:∀ y l,φ.z y=some l->φ3.z y=some l:=by
  intro y l hy
  have hne:y≠b0.1:=fun e=>by subst e;rw[hz0] at hy;cases hy
  simp only[φ3,if_neg hne];exact st.zle y l (hle.z y l hy)
 have fle:∀ i b,φ i=some b->φ3 i=some b:=by
  intro i b hi
  cases i with
  |zero=>exact hi
  |succ i=>rw[hf (i+1) (by omega)] at hi;cases hi
 have new:∀ (j:Nat) (b1:Bl) (d:Nat×Nat),lk L' j=some b1->φ' j=some d-> ¬d.1<w.heap.size:=by
  intro j b1 d hj hd hl;obtain⟨k,b2,c2,hk2,_⟩:=st.fresh j b1 d hj hd hl;cases hk2
 have l3:∀ j b1,lk L3 (j+1)=some b1->∃ b2,lk L' j=some b2/\b1=cE (fun j=>j+1) b2:=by
  intro j b1 hj;rw[h3] at hj
  cases e:lk L' j with
  |none=>rw[e] at hj;cases hj
  |some b2=>rw[e] at hj;exact⟨b2,rfl,by cases hj;rfl⟩
 have keep:w'.heap[b0.1]? =w.heap[b0.1]? :=st.keep b0.1 hlt fun hw=>by obtain⟨i,b',c',hi,_⟩:=hw;cases hi
 have wr:∀ y,Wr φ3 L3 y->y=b0.1\/Wr φ' L' y:=by
  rintro y ⟨i,b1,d,hi,hd,rfl,hr⟩
  cases i with
  |zero=>
   have hd:φ 0=some d:=hd;rw[hb0] at hd;cases hd;exact .inl rfl
  |succ i=>
   obtain⟨b2,q1,rfl⟩:=l3 i b1 hi;exact .inr ⟨i,b2,d,q1,hd,rfl,by rw[be] at hr;exact hr⟩
 refine⟨φ3,x,rfl,mw.2 (hv φ' _ x rfl hvx),⟨?_,?_,?_,?_⟩,?_,⟨st.os,st.tape,st.output,st.size,?_,?_,zle,?_⟩,by omega,?_⟩
 ·intro i b1 hi
  cases i with
  |zero=>
   rw[h0] at hi;cases hi;exact⟨b0,hb0,hat.mono ⟨fle,zle⟩ keep⟩
  |succ i=>
   obtain⟨b2,q1,rfl⟩:=l3 i b1 hi;obtain⟨d,q2,q3⟩:=hg'.hr i b2 q1;exact⟨d,q2,gG.2 (hb i b2 q1 φ' _ w' d rfl q3)⟩
 ·intro i j b1 b2 d1 d2 hi hj hd1 hd2 he
  cases i with
  |zero=>
   cases j with
   |zero=>exact .inl rfl
   |succ j=>
    exfalso;obtain⟨b3,q1,_⟩:=l3 j b2 hj;have hd1:φ 0=some d1:=hd1;rw[hb0] at hd1;cases hd1;exact new j b3 d2 q1 hd2 (he▸hlt)
  |succ i=>
   obtain⟨b3,q1,rfl⟩:=l3 i b1 hi
   cases j with
   |zero=>
    exfalso;have hd2:φ 0=some d2:=hd2;rw[hb0] at hd2;cases hd2;exact new i b3 d1 q1 hd1 (he▸hlt)
   |succ j=>
    obtain⟨b4,q2,rfl⟩:=l3 j b2 hj
    rcases hg'.inj i j b3 b4 d1 d2 q1 q2 hd1 hd2 he with q|⟨q,r⟩
    ·exact .inl (by rw[q])
    ·exact .inr ⟨by rw[be];exact q,by rw[be];exact r⟩
 ·intro y l hy
  obtain⟨q1,q2⟩:=z3 y l hy;refine⟨(hg'.fz y l q2).1,fun hw=>?_⟩
  rcases wr y hw with q|q
  ·exact q1 q
  ·exact (hg'.fz y l q2).2 q
 ·exact hgd.gz.mono zle
 ·intro i hi
  cases i with
  |zero=>omega
  |succ i=>exact hn i (by omega)
 ·intro y hy _
  exact st.keep y hy fun hw=>by obtain⟨i,b',c',hi,_⟩:=hw;cases hi
 ·intro j b1 d hj hd hl
  cases j with
  |zero=>
   rw[h0] at hj;cases hj;exact⟨0,bl,d,rfl,hd,rfl,id,.inl rfl⟩
  |succ j=>
   exfalso;obtain⟨b3,q1,_⟩:=l3 j b1 hj;exact new j b3 d q1 hd hl
 ·intro y l hy
  obtain⟨q1,q2⟩:=z3 y l hy
  rcases st.zfr y l q2 with q|q|q
  ·rcases hz y l q with q|q
   ·exact .inl q
   ·exact .inr (.inr q)
  ·exact .inr (.inl q)
  ·obtain⟨i,b',c',hi,_⟩:=q;cases hi
 ·intro i hi
  cases i with
  |zero=>rfl
  |succ i=>omega
end Ab
end Go.Proofs.YtegjgpldfgjoiaaGreatDoor
namespace Go.Proofs.YtegjgpldfgjoiaaGreatDoor
open Go Ab
set_option maxRecDepth 100000
set_option maxHeartbeats 2000000
theorem Ei (a:List Nd) (hb:a.length<=1000000000000):FC Tryz.prog 34 [ae a,ae a] 0 [] (bV true) 0 []:=by
 unfold ae;refine FC.walk (by kernel_rfl) Tryz.func34 rfl rfl ?_
 repeat'(first|exact y0|refine y1 ?_|refine y2 ?_ ?_|(refine y8 ?_ ?_<;>intro h<;>try exact y6)|refine Fin.bool (.inl rfl) rfl ?_|refine y3 ?_|refine y7 ?_ ?_|refine y4 ?_|(refine y9 ?_ ?_<;>intro h)|exact y5|fail)
 refine Ex.inv (σ:=Nat) (fun j=>[(5,nI j)]) (fun _=>[]) (fun j=>j<=a.length) (fun j=>a.length-j) 0 rfl (fun _=>rfl) (Nat.zero_le _) ⟨VLe.refl _,trivial⟩ trivial ?_;intro j hj;by_cases hlt:j<a.length
 ·
  repeat'(first|exact y0|refine y1 ?_|refine y2 ?_ ?_|(refine y8 ?_ ?_<;>intro h<;>try exact y6)|refine y3 ?_|refine y7 ?_ ?_|refine y4 ?_|(refine y9 ?_ ?_<;>intro h)|exact y5|fail)
  refine RegX.atCmp (CmpG.go rfl rfl ⟨⟨by kernel_rfl,by kernel_rfl⟩,trivial⟩ (BrG.any (fun h=>?_) (fun h=>?_)))
  ·exfalso;simp at h
  repeat'(first|exact y0|refine y1 ?_|refine y2 ?_ ?_|(refine y8 ?_ ?_<;>intro h<;>try exact y6)|refine y3 ?_|refine y7 ?_ ?_|refine y4 ?_|(refine y9 ?_ ?_<;>intro h)|exact y5|fail)
  all_goals try first
   |exact aa (by omega) (by omega)
  refine LoopR.same (j+1) (by omega) (by omega) rfl ⟨VLe.refl _,trivial⟩ trivial rfl rfl (by decide)
 ·
  repeat'(first|exact y0|refine y1 ?_|refine y2 ?_ ?_|(refine y8 ?_ ?_<;>intro h<;>try exact y6)|exact Fin.bool (.inl rfl) rfl rfl|refine y3 ?_|refine y7 ?_ ?_|refine y4 ?_|(refine y9 ?_ ?_<;>intro h)|exact y5|fail)
end Go.Proofs.YtegjgpldfgjoiaaGreatDoor
namespace Go.Proofs.YtegjgpldfgjoiaaGreatDoor
namespace Ab
open Go
section
variable {P:Program} {ops:Array Oper} {d:Bool} {acc:List Row} {os:List Oper} {env:List V} {n:Nat} {L:Hp} {R:Post}
theorem eG {w:World} {code:BoundsCode} {kk:IntKind} {h y:Nat} (hh:h<=y):(Instr.sliceBound (.int kk (h:Int)) y code).run P w=.ok h w:=by
 simp only[Instr.sliceBound,asIntOf,Sem.run_bind,Sem.run_pure,Result.andThen_ok];rw[if_pos (by omega)];simp
theorem RegX.sl3 {dst:Option Tmp} {t e:TypeId} {x yh ym:Operand} {t':TypeId} {pos:String} {af:Array Edge} {gd:Option (Nat×Bool)} {i g m sz:Nat} {kh km:IntKind} {zh zm:Int} (h:Nat)
 (hx:ev env x=.s (.row i g m)) (hm0:0<m) (hyh:ev env yh=.s (.int kh zh)) (hym:ev env ym=.s (.int km zm)) (hzh:zh=(h:Int)) (hzm:zm=(m:Int)) (hle:h<=m) (ht:P.underlying t=some (.slice e)) (hsz:aF P e=some sz)
 (hw:aI ops env ⟨dst,.slice t x none (some yh) (some ym),t',pos,af,gd⟩=some true)
 (k:RegX P ops d (av d ⟨dst,.slice t x none (some yh) (some ym),t',pos,af,gd⟩ [] [] acc) os (aB env dst (.s (.slc (some (i,0)) h (some m)))) n L R):RegX P ops d acc (⟨dst,.slice t x none (some yh) (some ym),t',pos,af,gd⟩::os) env n L R:=by
 subst hzh;subst hzm;refine RegX.op (foot:=[]) (wr:=[]) hw (OpL.light fun φ a w hop' _=>?_) (Nat.le_refl _) k;have g1:=hop' x (by simp[Op.operands]);have g2:=hop' yh (by simp[Op.operands]);have g3:=hop' ym (by simp[Op.operands]);rw[hx] at g1;rw[hyh] at g2;rw[hym] at g3
 rcases g1 with ⟨h0,_⟩|⟨_,b,c,hb,hg,hv,hc⟩
 ·omega
 have e2:a.eval yh=.int kh (h:Int):=g2;have e3:a.eval ym=.int km (m:Int):=g3;refine⟨.slice (some ⟨b.1,b.2,none⟩) h m,?_,b,m,hb,by rw[Nat.zero_add],hle,.inr rfl⟩
 have hsb:(Instr.sliceBounds true m c none (some (.int kh (h:Int))) (some (.int km (m:Int)))).run P w=.ok (0,h,m) w:=by
  simp only[Instr.sliceBounds,Sem.run_bind,eG hc,Result.andThen_ok,eG hle,Sem.run_pure]
 simp only[execOp,hv,e2,e3,Option.map_none,Option.map_some,Instr.sliceAt,Instr.slice,Sem.run_bind,run_underlying ht,Result.andThen_ok,hsb,ao hsz,Sem.run_pure,Nat.sub_zero];rw[if_neg (by omega)];simp[aA]
theorem RegX.sl2 {dst:Option Tmp} {t e:TypeId} {x yh:Operand} {t':TypeId} {pos:String} {af:Array Edge} {gd:Option (Nat×Bool)} {i m K sz:Nat} {kh:IntKind} {zh:Int} (h:Nat)
 (hx:ev env x=.s (.slc (some (i,0)) m (some K))) (hyh:ev env yh=.s (.int kh zh)) (hzh:zh=(h:Int)) (h0:0<K) (hle:h<=K) (ht:P.underlying t=some (.slice e)) (hsz:aF P e=some sz)
 (hw:aI ops env ⟨dst,.slice t x none (some yh) none,t',pos,af,gd⟩=some true)
 (k:RegX P ops d (av d ⟨dst,.slice t x none (some yh) none,t',pos,af,gd⟩ [] [] acc) os (aB env dst (.s (.slc (some (i,0)) h (some K)))) n L R):RegX P ops d acc (⟨dst,.slice t x none (some yh) none,t',pos,af,gd⟩::os) env n L R:=by
 subst hzh;refine RegX.op (foot:=[]) (wr:=[]) hw (OpL.light fun φ a w hop' _=>?_) (Nat.le_refl _) k;have g1:=hop' x (by simp[Op.operands]);have g2:=hop' yh (by simp[Op.operands]);rw[hx] at g1;rw[hyh] at g2;obtain⟨b,k',hb,e1,hmk,hc⟩:=g1
 obtain rfl:K=k':=by
  rcases hc with hc|hc
  ·cases hc
  ·exact Option.some.inj hc
 have e2:a.eval yh=.int kh (h:Int):=g2;refine⟨.slice (some ⟨b.1,b.2,none⟩) h K,?_,b,K,hb,by rw[Nat.zero_add],hle,.inr rfl⟩
 have hsb:(Instr.sliceBounds true m K none (some (.int kh (h:Int))) none).run P w=.ok (0,h,K) w:=by
  simp[Instr.sliceBounds,eG hle]
 simp only[execOp,e1,e2,Option.map_none,Option.map_some,Instr.sliceAt,Instr.slice,Sem.run_bind,run_underlying ht,Result.andThen_ok,hsb,ao hsz,Sem.run_pure,Nat.sub_zero];rw[if_neg (by omega)];simp[aA]
theorem RegX.cap1 {dst:Option Tmp} {x:Operand} {tx:TypeId} {t:TypeId} {pos:String} {af:Array Edge} {gd:Option (Nat×Bool)} {i o m K:Nat} (hx:ev env x=.s (.slc (some (i,o)) m (some K))) (hty:bd P tx=true)
 (hw:aI ops env ⟨dst,.call ⟨.builtin .cap,#[x],#[tx]⟩,t,pos,af,gd⟩=some true) (k:RegX P ops d (av d ⟨dst,.call ⟨.builtin .cap,#[x],#[tx]⟩,t,pos,af,gd⟩ [] [] acc) os (aB env dst (.s (.int .i64 (K:Int)))) n L R):
 RegX P ops d acc (⟨dst,.call ⟨.builtin .cap,#[x],#[tx]⟩,t,pos,af,gd⟩::os) env n L R:=by
 refine RegX.op (foot:=[]) (wr:=[]) hw (OpL.light fun φ a w hop' _=>?_) (Nat.le_refl _) k;have g1:=hop' x (by simp[Op.operands,Call.operands]);rw[hx] at g1;obtain⟨b,k',_,e1,_,hc⟩:=g1
 obtain rfl:K=k':=by
  rcases hc with hc|hc
  ·cases hc
  ·exact Option.some.inj hc
 refine⟨.int .i64 (K:Int),?_,rfl⟩;unfold bd at hty;split at hty
 ·rename_i e hu
  simp only[execOp,resolve,Sem.run_bind,Sem.run_pure,Result.andThen_ok,invoke,builtin,List.map_toArray,List.map_cons,List.map_nil,e1];simp[Builtin.cap_,run_underlying hu,goInt]
 ·cases hty
end
theorem BlAt.gh0 {φ:Ph} {w:World} {b:Nat×Nat} {bl:Bl} (h:BlAt φ w b bl):BlAt φ w b {bl with gh:=none}:=by
 obtain⟨pre,xs,rest,fr,h1,hp,h2,h3,h4,h5⟩:=h;exact⟨pre,xs,rest,fr,h1,hp,h2,h3,h4,(fun g z e=>by cases e),h5.2⟩
theorem SC.thawB {P:Program} {f:FuncId} {args:List V} {t:Bool} (get:Nat->List S) (sz:Nat) {N:Nat} {c:Option Nat} {bl:Bl} (h:SC P f (.s (.frz get sz N)::args) 0 [] (.s (.bool t)) 0 [])
 (hro:bl.ro=false) (hk:bl.kind=none) (hg:∀ k,k<N->(get k).length=sz) (hc:∀ k j x,k<N->(get k)[j]? =some x->bl.cells[k*sz+j]? =some x/\aY x=true)
 (ha:args.all (okV 0)=true):SC P f (.s (.slc (some (0,0)) N c)::args) 1 [(0,some bl)] (.s (.bool t)) 1 [(0,some bl)]:=
 SC.thaw get sz h hro hk hg hc ha (fun φ ψ x e k=>k) (fun i b1 h=>by cases h) rfl (fun i=>by
  show lk [(0,some bl)] (i+1)=_
  rw[ak,if_neg (by omega)];rfl)
end Ab
end Go.Proofs.YtegjgpldfgjoiaaGreatDoor
namespace Go.Proofs.YtegjgpldfgjoiaaGreatDoor
open Go Ab
set_option maxRecDepth 100000
set_option maxHeartbeats 2000000
def mkC:List S:=[.int .i64 77,.int .u64 0,.str [],.int .i64 0]
def spB (p:List Nd):Bl:={cells:=p.flatMap ndC++(mkC++mkC++mkC),ty:=49,more:=true,sym:=true,flat:=true}
theorem xS {p:List Nd} {k j:Nat} {x:S} (hk:k<p.length) (hx:(ndC (p.getD k dN))[j]? =some x):(spB p).cells[k*4+j]? =some x/\aY x=true:=by
 have h:=dE ndC 4 dN (fun _=>rfl) hk hx;refine⟨?_,?_⟩
 ·show (p.flatMap ndC++_)[k*4+j]? =_
  rw[List.getElem?_append_left (by obtain⟨h1,_⟩:=List.getElem?_eq_some_iff.1 h;exact h1)];exact h
 ·rcases j with _|_|_|_|j
  ·cases hx;rfl
  ·cases hx;rfl
  ·cases hx;rfl
  ·cases hx;rfl
  ·simp[ndC] at hx
theorem B6 (p:List Nd) (h0:0<p.length) (hb:p.length<=2000000000):FC Tryz.prog 30 [ae p,.agg mkC] 0 [] (.s (.slc (some (0,0)) p.length (some (p.length+3)))) 2 [(0,some {spB p with gh:=some (1,4)})]:=by
 unfold ae;refine FC.walk (by kernel_rfl) Tryz.func30 rfl rfl ?_
 have hsz:(Tryz.prog.types[49]).size=4:=by kernel_rfl
 have hby:(Tryz.prog.types[49]).bytes=40:=by kernel_rfl
 have hnp:(p.flatMap ndC).all bD=true:=fm {cells:=[],ty:=0,flat:=true} p
 obtain⟨c,cs,hc⟩:∃ c cs,p.flatMap ndC=c::cs:=by
  cases h:p.flatMap ndC with
  |nil=>have h2:=bf p;rw[h] at h2;simp at h2;omega
  |cons c cs=>exact⟨c,cs,rfl⟩
 repeat'(first|refine Ex.set 5 (.s (.row 2 3 p.length)) (VLe.s (SLe.slarow h0)) rfl (Ex.flat 2 rfl rfl hnp rfl ?_)|exact y0|refine y1 ?_|refine y2 ?_ ?_|(refine y8 ?_ ?_<;>intro h<;>try exact y6)|refine RegX.apr (i:=2) (g:=3) (m:=p.length) (w:=4) (cs:=p.flatMap ndC) (foot:=[4]) (k:=3) (add:=mkC++mkC++mkC) rfl ?_ (by rw[bf]) rfl rfl rfl rfl rfl rfl rfl hsz (by decide) rfl ⟨by decide,rfl⟩ (by decide) (by simp[mkC]) rfl (by rw[hby];omega) (by omega) rfl ?_|refine RegX.app [.app p.length (p.flatMap ndC)] rfl rfl ?_ rfl rfl rfl ?_|refine RegX.sl3 p.length rfl (by omega) rfl rfl (by push_cast;omega) (by push_cast;omega) (by omega) rfl rfl rfl ?_|refine y3 ?_|refine y7 ?_ ?_|refine y4 ?_|(refine y9 ?_ ?_<;>intro h)|exact y5|fail)
 all_goals try first
  |(rw[an];exact (List.nil_append _).symm)
  |(rw[an];exact fm _ _)
  |(rw[hby];omega)
  |(rw[hsz];simp only[hc];rfl)
 exact⟨.inl rfl,_,[5,6],VLe.refl _,EndOK.by rfl ⟨by show opB _ _ _ _=some _;unfold spB cE;simp only[hc];rfl,trivial⟩ rfl rfl rfl rfl⟩
theorem B4 (p:List Nd) (h0:0<p.length) (hb:p.length<=2000000000):FC Tryz.prog 30 [ae p,.agg mkC] 0 [] (.s (.slc (some (0,0)) p.length (some (p.length+3)))) 2 [(0,some (spB p))]:=by
 refine (B6 p h0 hb).post fun i bl' hi=>?_
 rw[ak] at hi;split at hi
 ·rename_i e;subst e;cases hi
  exact⟨_,rfl,rfl,fun φ w b h=>h.gh0⟩
 ·cases hi
theorem GO (p:List Nd) (hb:p.length<=2000000000):FC Tryz.prog 34 [.s (.slc (some (0,0)) p.length (some (p.length+3))),ae p] 1 [(0,some (spB p))] (bV true) 1 [(0,some (spB p))]:=by
 have h:=Ei p (by omega);exact⟨h.1,SC.thawB (fun k=>ndC (p.getD k dN)) 4 h.2 rfl rfl (fun _ _=>rfl) (fun k j x hk hx=>xS hk hx) rfl⟩
theorem Gi {p:List Nd} {i:Nat} (h1:p.length<=i) (h2:i<p.length+3):gi true 4 (spB p) (i*4)=some (.agg mkC):=by
 obtain⟨r,rfl,hr⟩:∃ r,i=p.length+r/\r<3:=⟨i-p.length,by omega,by omega⟩
 have hl:=bf p
 have e1:(spB p).cells.drop ((p.length+r)*4)=(mkC++mkC++mkC).drop (r*4):=by
  show (p.flatMap ndC++_).drop _=_;rw[List.drop_append,List.drop_eq_nil_of_le (by omega),List.nil_append,hl,show (p.length+r)*4-p.length*4=r*4 by omega]
 have e2:Nat.ble ((p.length+r)*4+4) (spB p).cells.length=true:=by
  rw[Nat.ble_eq];show _<=(p.flatMap ndC++(mkC++mkC++mkC)).length;rw[List.length_append,hl,show (mkC++mkC++mkC).length=12 from rfl];omega
 unfold gi;rw[show (spB p).kind=none from rfl];simp only;rw[e2,e1]
 match r,hr with
 |0,_=>rfl
 |1,_=>rfl
 |2,_=>rfl
theorem EF (p:List Nd) (hb:p.length<=2000000000):FC Tryz.prog 31 [.s (.slc (some (0,0)) p.length (some (p.length+3))),ae p,.agg mkC] 1 [(0,some (spB p))] (bV true) 1 [(0,some (spB p))]:=by
 have heq:=GO p hb;unfold ae at heq |-;refine FC.walk (by kernel_rfl) Tryz.func31 rfl rfl ?_
 repeat'(first|exact y0|refine y1 ?_|refine y2 ?_ ?_|(refine y8 ?_ ?_<;>intro h<;>try exact y6)|(refine wC ?_;first|(refine wF 34 ?_;refine CallG.mo [0] heq rfl rfl (by rfl) rfl rfl ⟨VLe.refl _,VLe.refl _,trivial⟩ ⟨⟨rfl,_,rfl,rfl,fun h=>h⟩,trivial⟩ rfl rfl (wr:=[(0,some (spB p))]) (by rfl) ?_))|refine RegX.cap1 rfl rfl rfl ?_|refine RegX.sl2 (p.length+3) rfl rfl (by push_cast;rfl) (by omega) (by omega) rfl rfl rfl ?_|refine y3 ?_|refine y7 ?_ ?_|refine y4 ?_|(refine y9 ?_ ?_<;>intro h)|exact y5|fail)
 have hsz:(Tryz.prog.types[49]).size=4:=by kernel_rfl
 refine Ex.inv (σ:=Nat) (fun i=>[(8,nI i)]) (fun _=>[(0,some (spB p)),(1,some {cells:=mkC,ty:=49})]) (fun i=>p.length<=i/\i<=p.length+3) (fun i=>p.length+3-i) p.length rfl (fun _=>rfl) ⟨Nat.le_refl _,by omega⟩ ⟨VLe.refl _,trivial⟩ ⟨rfl,rfl,trivial⟩ ?_;rintro i ⟨hi1,hi2⟩
 rcases Nat.lt_or_ge i (p.length+3) with hlt|hge
 ·have hld:gi true 4 (spB p) (i*4)=some (.agg mkC):=Gi hi1 hlt
  repeat'(first|exact y0|refine y1 ?_|refine y2 ?_ ?_|(refine y8 ?_ ?_<;>intro h<;>try exact y6)|refine RegX.ldS [.val (.agg mkC)] rfl rfl (by rw[hsz,aV,aX,Nat.zero_add];exact hld) rfl ?_|refine y3 ?_|refine y7 ?_ ?_|refine y4 ?_|(refine y9 ?_ ?_<;>intro h)|exact y5|fail)
  refine RegX.atCmp (CmpG.go rfl rfl ⟨⟨by kernel_rfl,by kernel_rfl⟩,trivial⟩ (BrG.any (fun h=>?_) (fun h=>?_)))
  ·exfalso;revert h;decide
  repeat'(first|exact y0|refine y1 ?_|refine y2 ?_ ?_|(refine y8 ?_ ?_<;>intro h<;>try exact y6)|refine y3 ?_|refine y7 ?_ ?_|refine y4 ?_|(refine y9 ?_ ?_<;>intro h)|exact y5|fail)
  all_goals try first
   |exact aa (by omega) (by omega)
  refine LoopR.same (i+1) ⟨by omega,by omega⟩ (by omega) rfl ⟨VLe.of_eq (congrArg nI (by push_cast;omega)),trivial⟩ ⟨rfl,rfl,trivial⟩ rfl rfl (by decide)
 ·obtain rfl:i=p.length+3:=by omega
  repeat'(first|exact y0|refine y1 ?_|refine y2 ?_ ?_|(refine y8 ?_ ?_<;>intro h<;>try exact y6)|refine y3 ?_|refine y7 ?_ ?_|refine y4 ?_|(refine y9 ?_ ?_<;>intro h)|exact y5|fail)
  all_goals exact⟨.inl rfl,_,[],VLe.refl _,EndOK.by rfl ⟨rfl,trivial⟩ rfl rfl rfl rfl⟩
set_option maxRecDepth 100000
set_option maxHeartbeats 2000000
theorem mi {a b:Ph}:∀ {cs:List S} {xs:List Value},(∀ s∈cs,∀ v,Sr a s v->Sr b s v)->All2 (Sr a) cs xs->All2 (Sr b) cs xs
 |[],[],_,_=>trivial
 |[],_::_,_,h=>h.elim
 |_::_,[],_,h=>h.elim
 |s::cs,x::xs,k,h=>⟨k s (List.mem_cons_self ..) x h.1,mi (fun s hs=>k s (List.mem_cons_of_mem _ hs)) h.2⟩
theorem FP {R:List (Nat×Nat)} {s:S} (h:s∈R.flatMap dgC) (a b:Ph) (v:Value) (k:Sr a s v):Sr b s v:=by
 obtain⟨x,_,hx⟩:=List.mem_flatMap.1 h;simp only[dgC,List.mem_cons,List.mem_nil_iff,or_false] at hx
 rcases hx with rfl|rfl<;>exact k
theorem Dl {R:List (Nat×Nat)} {i:Nat} {b1:Bl} (h:lk [(0,dgB 0 R)] i=some b1) (φ ψ:Ph) (w:World) (b:Nat×Nat) (e:φ.f=ψ.f) (k:BlAt φ w b b1):BlAt ψ w b b1:=by
 rw[ak] at h;split at h
 ·cases hR:R.flatMap dgC with
  |nil=>rw[dgB,hR] at h;cases h
  |cons c cs=>
   rw[dgB,hR] at h;cases h;obtain⟨pre,xs,rest,fr,p1,p2,p3,p4,p5,p6⟩:=k;refine⟨pre,xs,rest,fr,p1,p2,mi (fun s hs v k=>FP (R:=R) (by rw[hR];exact hs) _ _ v k) p3,p4,p5,⟨fun g z hg=>?_,p6.2⟩⟩;obtain⟨q,q1,q2⟩:=p6.1 g z hg;exact⟨q,by rw[<-e];exact q1,q2⟩
 ·cases h
theorem Cg {φ ψ:Ph} {x:Value} {m:Nat} (h:φ.f=ψ.f) (k:Vr φ (.s (.row 0 1 m)) x):Vr ψ (.s (.row 0 1 m)) x:=by
 obtain⟨f,z⟩:=φ;obtain⟨f',z'⟩:=ψ;cases h;exact k
theorem Dp {p:List Nd} {G:Dgs} (h:FC Tryz.prog 65 [ae p] 0 [] (.s (.row 0 1 G.length)) 2 [(0,dgB 0 G)]) (c:Option Nat) (bl:Bl) (hro:bl.ro=false) (hk:bl.kind=none)
 (hc:∀ k j x,k<p.length->(ndC (p.getD k dN))[j]? =some x->bl.cells[k*4+j]? =some x/\aY x=true):
 FC Tryz.prog 65 [.s (.slc (some (0,0)) p.length c)] 1 [(0,some bl)] (.s (.row 1 2 G.length)) 3 [(0,some bl),(1,dgB 1 G)]:=by
 refine⟨h.1,SC.thaw (fun k=>ndC (p.getD k dN)) 4 h.2 hro hk (fun _ _=>rfl) hc rfl (fun φ ψ x e k=>Cg e k) (fun i b1 hl φ ψ w b e k=>Dl hl φ ψ w b e k) rfl (fun i=>?_)⟩
 cases i with
 |zero=>show dgB 1 G=(dgB 0 G).map _;cases hR:G.flatMap dgC<;>(rw[dgB,dgB,hR];rfl)
 |succ i=>
  show lk [(0,some bl),(1,dgB 1 G)] (i+1+1)=_;rw[ak,ak,ak,if_neg (by omega),if_neg (by omega),if_neg (by omega)];rfl
theorem wh (p:List Nd) (hw:wfN p) (hI:wfI p) (hv:bz p=true):∃ G:Dgs,G.length<=1000000000/\FC Tryz.prog 65 [.s (.slc (some (0,0)) p.length (some (p.length+3)))] 1 [(0,some (spB p))] (.s (.row 1 2 G.length)) 3 [(0,some (spB p)),(1,dgB 1 G)]/\
 (C6 G->PrO p/\∃ t:Fo,t.At p 0/\t.V (List.replicate t.cnt (false,68))/\t.size=p.length/\EOK p (aH t)/\FC Tryz.prog 68 [ae p] 0 [] (.s (.frz (fun k=>[.int .i64 (((aH t).getD k 0:Nat):Int)]) 1 (aH t).length)) 0 []):=by
 obtain⟨hp,t,ha,hv',hd,hs⟩:=dQ hv;have hck:=rO p hw hI hv hp t ha hv' hs;have hG:=qb hp ha hv' hs;refine⟨_,hG,Dp hck _ _ rfl rfl fun k j x hk hx=>xS hk hx,fun h6=>⟨⟨hp,hw,hI,fun j hj=>tJ (Bg h6) j hj,fun j hj=>?_⟩,t,ha,hv',hs,l4 ha hv' hs,?_⟩⟩
 ·obtain⟨sl,h1,h2⟩:=cY ha hv' (Nat.zero_le _) (by omega:j<0+t.size)
  exact lx h1 h2
 ·rcases Nat.eq_zero_or_pos p.length with e|e
  ·obtain rfl:=List.eq_nil_of_length_eq_zero e
   cases t with
   |nil=>exact rD
   |cons x k n=>simp only[Fo.size,List.length_nil] at hs;omega
  ·exact tu p hp e t ha hv' hs
theorem oH {p:List Nd} {k j:Nat} {x:S} (hk:k<p.length) (hx:(ndC (p.getD k dN))[j]? =some x):(p.flatMap ndC)[k*4+j]? =some x/\aY x=true:=by
 refine⟨dE ndC 4 dN (fun _=>rfl) hk hx,?_⟩
 rcases j with _|_|_|_|j
 ·cases hx;rfl
 ·cases hx;rfl
 ·cases hx;rfl
 ·cases hx;rfl
 ·simp[ndC] at hx
theorem A7 (p:List Nd) (hp:p.length<=2000000000):FC Tryz.prog 67 [.s (.slc (some (0,0)) p.length (some (p.length+3)))] 1 [(0,some (spB p))] (ae p) 1 [(0,some (spB p))]:=by
 have hsz:(Tryz.prog.types[49]).size=4:=by kernel_rfl
 have hby:(Tryz.prog.types[49]).bytes=40:=by kernel_rfl
 refine FC.walk (by kernel_rfl) Tryz.func67 rfl rfl ?_
 rcases Nat.eq_zero_or_pos p.length with h0|h0
 ·obtain rfl:=List.eq_nil_of_length_eq_zero h0
  refine Ex.set 0 (.s .emq) (VLe.s (fun φ x h=>(by obtain⟨b,k,_,h2,_⟩:=h;exact⟨_,k,h2⟩))) rfl ?_
  repeat'(first|exact y0|refine y1 ?_|refine y2 ?_ ?_|(refine y8 ?_ ?_<;>intro h<;>try exact y6)|refine RegX.atCmp (CmpG.nn false trivial rfl (.inl ⟨rfl,rfl⟩) rfl rfl ?_)|refine y3 ?_|refine y7 ?_ ?_|refine y4 ?_|(refine y9 ?_ ?_<;>intro h)|exact y5|fail)
  refine RegX.opA [.app 0 []] rfl rfl ⟨rfl,rfl,rfl,rfl,rfl,rfl,(fun h=>nomatch h),by rw[Nat.zero_mul];decide,by decide⟩ ?_
  repeat'(first|exact y0|refine y1 ?_|refine y2 ?_ ?_|(refine y8 ?_ ?_<;>intro h<;>try exact y6)|refine Ex.set 2 (ae []) (VLe.s (fun φ x h=>SLe.emqfrz φ x (SLe.slaemq φ x h))) rfl ?_|refine y3 ?_|refine y7 ?_ ?_|refine y4 ?_|(refine y9 ?_ ?_<;>intro h)|exact y5|fail)
  exact⟨.inl rfl,_,[],VLe.refl _,EndOK.by rfl ⟨rfl,trivial⟩ rfl rfl rfl rfl⟩
 ·have htk:List.take (p.length*4) (spB p).cells=p.flatMap ndC:=by
   show List.take _ (p.flatMap ndC++_)=_;rw[<-bf p];exact List.take_left
  repeat'(first|exact y0|refine y1 ?_|refine y2 ?_ ?_|(refine y8 ?_ ?_<;>intro h<;>try exact y6)|refine RegX.app [.app p.length (p.flatMap ndC)] rfl rfl ?_ rfl rfl rfl ?_|refine Ex.fz 2 (fun k=>ndC (p.getD k dN)) 4 rfl rfl rfl rfl (fun _ _=>rfl) (fun k j x hk hx=>oH hk hx) rfl rfl ?_|refine y3 ?_|refine y7 ?_ ?_|refine y4 ?_|(refine y9 ?_ ?_<;>intro h)|exact y5|fail)
  all_goals try first
   |(rw[hsz];show 0+p.length*4<=(p.flatMap ndC++_).length;rw[List.length_append,bf];omega)
   |(rw[hsz,List.drop_zero,htk];rfl)
   |(rw[hsz,List.drop_zero,htk];exact fm _ _)
   |(rw[hby];omega)
  exact⟨.inl rfl,_,[],VLe.refl _,EndOK.by rfl ⟨rfl,trivial⟩ rfl rfl rfl rfl⟩
end Go.Proofs.YtegjgpldfgjoiaaGreatDoor
