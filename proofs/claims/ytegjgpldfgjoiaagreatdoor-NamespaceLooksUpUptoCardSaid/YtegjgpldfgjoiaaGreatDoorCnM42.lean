import Derived.Test.YtegjgpldfgjoiaaGreatDoorCnM32
import Derived.Test.YtegjgpldfgjoiaaGreatDoorCnM41
set_option linter.all false
namespace Go.Proofs.YtegjgpldfgjoiaaGreatDoor
open Go Ab
set_option maxRecDepth 100000
set_option maxHeartbeats 40000000
section
variable {O:List Ro} {T:List Rt} {K:List Rk} {nx nh:Int}
section
variable {P:Program} {b:Nat} {y:Code} {env:List V} {n:Nat} {L:Hp} {R:Post}
theorem Ex.cutRg (id N n':Nat) (X:List (Nat×V)) (H:Hp) {E:List V} {ops:Array Oper} {d:Bool} (hE:fY (ov X 0 N) [] some=some E) (h:Ex P b (.region id ops d) env n L (CutR b N n' X H)) (k:Ex P b y E n' H R):Ex P b (.region id ops d) env n L (Then P b y R):=Ex.cut N n' X H hE h k
end
theorem BY (a:Nd) (j:Nat) (x:S) (h:(ndC a)[j]? =some x):bE x=true:=by
 rcases j with _|_|_|_|j
 ·cases h;rfl
 ·cases h;rfl
 ·cases h;rfl
 ·cases h;rfl
 ·simp[ndC] at h
abbrev Ec (O:List Ro) (T:List Rt) (K:List Rk) (nx nh:Int):Hp:=[(0,some (qX 7 9 11 O.length T.length K.length nx nh)),(1,none),(3,none),(5,none),(7,some (oG 7 O)),(9,tR 9 T),(11,kR 11 K)]
def Eg (p:List Nd) (num:Int) (Sc:List Pth):List Nat->List Ro->Int->List Ro×Int×Int
 |[],O,nx=>(O,nx,0)
 |i::r,O,nx=>if (cW p num O nx i (Sc.getD i z0)).2.2=0 then Eg p num Sc r (cW p num O nx i (Sc.getD i z0)).1 (cW p num O nx i (Sc.getD i z0)).2.1 else cW p num O nx i (Sc.getD i z0)
def Bo (p:List Nd) (G:Nat->List Rk->List Rk×Int):List Nat->List Rk->List Rk×Int
 |[],K=>(K,0)
 |i::r,K=>if (p.getD i dN).op=16\/(p.getD i dN).op=17 then (if (G i K).2=0 then Bo p G r (G i K).1 else G i K) else Bo p G r K
abbrev lrH (O:List Ro) (T:List Rt) (K:List Rk) (nx nh:Int) (T':List Rt) (O':List Ro) (nx':Int) (K':List Rk):Hp:=[(0,some (Bg O.length T.length K.length nx nh)),(1,some (oR O)),(3,tR 3 T),(5,kR 5 K),(7,some (qX 8 10 12 O'.length T'.length K'.length nx' (nh+1))),(8,some (oG 8 O')),(10,tR 10 T'),(12,kR 12 K')]
theorem vZ:eV 7 (Bh O T K nx nh)=true:=by
 unfold Bh tR kR;generalize T.flatMap qW=c1;generalize K.flatMap q9=c2
 cases c1<;>cases c2<;>rfl
theorem GF:eV 13 (Ec O T K nx nh)=true:=by
 unfold Ec tR kR;generalize T.flatMap qW=c1;generalize K.flatMap q9=c2
 cases c1<;>cases c2<;>rfl
abbrev Es (z e:Int):V:=.tup [.s (.int .i64 z),.s (.int .i64 e)]
section
variable {P:Program} {fn:Func} {env:List V} {O:List Ro} {T:List Rt} {K:List Rk} {nx nh z z' ee ee':Int} {e:Exit} {M:Hp} {m:Nat}
theorem Fin.zm (hx:e=.ret\/e=.normal) (h0:lk M 0=some (Bg O.length T.length K.length nx nh)) (h1:lk M 1=some (oR O)) (h3:lk M 3=tR 3 T) (h5:lk M 5=kR 5 K) (hr:fU P fn env M=some (Es z' ee')) (hz:z'=z) (he:ee'=ee):Fin P fn 7 (Es z ee) 13 (Ec O T K nx nh) e env m M:=by
 subst hz;subst he;refine⟨hx,_,[1,2,3,4,5,6],VLe.refl _,EndOK.move hr ⟨h0,h1,MemP.op h3 (MemP.op h5 trivial)⟩ rfl GF rfl ?_ ?_⟩
 all_goals
  unfold Ec tR kR;generalize T.flatMap qW=c1;generalize K.flatMap q9=c2
  cases c1<;>cases c2<;>rfl
theorem Fin.zn (hx:e=.ret\/e=.normal) (h0:lk M 0=some (qX 8 10 12 O.length T.length K.length nx nh)) (h1:lk M 8=some (oG 8 O)) (h3:lk M 10=tR 10 T) (h5:lk M 12=kR 12 K) (hr:fU P fn env M=some (Es z' ee')) (hz:z'=z) (he:ee'=ee):Fin P fn 7 (Es z ee) 13 (Ec O T K nx nh) e env m M:=by
 subst hz;subst he;exact⟨hx,_,[8,9,10,11,12,13],VLe.refl _,EndOK.by hr ⟨h0,h1,MemP.op h3 (MemP.op h5 trivial)⟩ rfl GF rfl rfl⟩
end
theorem rD {T':List Rt} {O':List Ro} {nx':Int} {K':List Rk} {tbl:List Nat} {e:List V} (he:e.all (fp tbl.length)=true) (h1:∀ c1 c2 c3 c4:Option Bl,True) (h:∀ c1 c2 c3 c4,mL 7 tbl [] [(0,some (Bg O.length T.length K.length nx nh)),(1,some (oR O)),(3,eI 145 4 2 c1),(5,eI 143 6 4 c2),(7,some (qX 8 10 12 O'.length T'.length K'.length nx' (nh+1))),(8,some (oG 8 O')),(10,eI 145 11 2 c3),(12,eI 143 13 4 c4)]=true):mL 7 tbl e (lrH O T K nx nh T' O' nx' K')=true:=by
 have h:=h (T.flatMap qW) (K.flatMap q9) (T'.flatMap qW) (K'.flatMap q9);simp only[mL,Z07] at h |-;exact⟨⟨⟨⟨he,h.1.1.1.2⟩,h.1.1.2⟩,h.1.2⟩,h.2⟩
theorem qt (p:List Nd) (num:Int) (O:List Ro) (nx:Int) (i:Nat) (sc:Pth):O.length<=(cW p num O nx i sc).1.length/\(O.length<=1024->(cW p num O nx i sc).1.length<=1024)/\nx<=(cW p num O nx i sc).2.1/\(cW p num O nx i sc).2.1<=nx+1:=by
 unfold cW;split
 ·exact⟨Z02 _,id,Z2l _,by simp only;omega⟩
 ·split
  ·split<;>exact⟨Z02 _,id,Z2l _,by simp only;omega⟩
  ·split
   ·exact⟨Z02 _,id,Z2l _,by simp only;omega⟩
   ·split
    ·exact⟨Z02 _,id,Z2l _,by simp only;omega⟩
    ·split
     ·exact⟨Z02 _,id,Z2l _,by simp only;omega⟩
     ·simp only[Z03,Z0n]
      omega
theorem HX (p:List Nd) (hp:p.length<=2048) (Sc:List Pth) (hS:Sc.length=p.length) (hsc:FC Tryz.prog 84 [al p] 0 [] (.s (rz Sc)) 0 []) (hacc:FC Tryz.prog 82 [al p] 0 [] (bV true) 0 [])
 (O:List Ro) (T:List Rt) (K:List Rk) (nx nh:Int) (hO:O.length<=1024) (h0:0<O.length) (hT:T.length<=10) (hK:K.length<=50000) (hnx:0<=nx) (hnx1:nx<=900000) (hnh:0<=nh) (hnh1:nh<=1000)
 (hd:∀ i,i<p.length->∀ O' nx',O'.length<=1024->0<O'.length->0<=nx'->nx'<=1000000->FC Tryz.prog 85 [.s (.ptr (some (0,0))),al p,nI i,gw (Sc.getD i z0),nI nh] 7 (rsV O' (T++[(nh,p)]).length K.length nx' (nh+1)) (nI (cW p nh O' nx' i (Sc.getD i z0)).2.2) 9 (rsW (cW p nh O' nx' i (Sc.getD i z0)).1 (T++[(nh,p)]).length K.length (cW p nh O' nx' i (Sc.getD i z0)).2.1 (nh+1)))
 (D:List Ro×Int×Int) (hD:Eg p nh Sc (List.range p.length) O nx=D) (G:Nat->List Rk->List Rk×Int) (hG:∀ i K',(G i K').1.length<=K'.length+1)
 (hr:D.2.2=0->∀ i,i<p.length->(p.getD i dN).op=16\/(p.getD i dN).op=17->∀ K':List Rk,K'.length<=100000->FC Tryz.prog 86 [.s (.ptr (some (0,0))),al p,nI i,gw (Sc.getD i z0),nI nh] 7 (Bh D.1 (T++[(nh,p)]) K' D.2.1 (nh+1)) (nI (G i K').2) 9 (EL D.1 (T++[(nh,p)]) (G i K').1 D.2.1 (nh+1)))
 (E:List Rk×Int) (hE:Bo p G (List.range p.length) K=E) (v:V) (L':Hp)
 (hA:D.2.2≠0->v=Es 0 D.2.2/\L'=Ec O T K nx nh) (hB:D.2.2=0->E.2≠0->v=Es 0 E.2/\L'=Ec O T K nx nh)
 (hC:D.2.2=0->E.2=0->v=Es nh 0/\L'=Ec D.1 (T++[(nh,p)]) E.1 D.2.1 (nh+1)):
 FC Tryz.prog 45 [.s (.ptr (some (0,0))),al p] 7 (Bh O T K nx nh) v 13 L':=by
 have hcl:=FO O T K nx nh aa aa aa h0
 have hz2:(Tryz.prog.types[145]).size=2:=by kernel_rfl
 have hb2:(Tryz.prog.types[145]).bytes=32:=by kernel_rfl
 have hz4:(Tryz.prog.types[49]).size=4:=by kernel_rfl
 have hb4:(Tryz.prog.types[49]).bytes=40:=by kernel_rfl
 refine wW Tryz.func45 ?_
 repeat'(first|refine Ex.cutRg 5 106 14 [(0,.s (.ptr (some (0,0)))),(1,al p),(6,.s (.ptr (some (7,0))))] (rsC O T K nx nh) rfl (Hold.k ?_) (Hold.k ?_)|exact y0|refine y1 ?_|refine y2 ?_ ?_|refine y4 λh=>?_|refine wX 82 (bo hacc ?_)|refine y3 ?_|exact y5|fail)
 ·refine⟨?_⟩
  cases T<;>cases K
  all_goals
   repeat'(first|exact y0|refine y1 ?_|refine y2 ?_ ?_|refine y4 λh=>?_|(refine wX 83 ?_;refine CallG.mo [0,1,2,3,4,5,6] hcl rfl rfl rfl rfl rfl aV (by first|exact⟨⟨rfl,_,rfl,rfl,λh=>h⟩,⟨rfl,_,rfl,rfl,λh=>h⟩,trivial⟩|exact⟨⟨rfl,_,rfl,rfl,λh=>h⟩,⟨rfl,_,rfl,rfl,λh=>h⟩,⟨rfl,_,rfl,rfl,λh=>h⟩,trivial⟩|exact⟨⟨rfl,_,rfl,rfl,λh=>h⟩,⟨rfl,_,rfl,rfl,λh=>h⟩,⟨rfl,_,rfl,rfl,λh=>h⟩,⟨rfl,_,rfl,rfl,λh=>h⟩,trivial⟩) rfl rfl rfl ?_)|refine y3 ?_|exact y5|fail)
   exact CutR.at [0,1,2,3,4,5,6,7,8,9,10,11,12,13] rfl rfl ⟨VLe.refl _,VLe.refl _,VLe.refl _,trivial⟩ ⟨rfl,rfl,by first|exact⟨rfl,rfl,trivial⟩|exact⟨rfl,rfl,rfl,rfl,trivial⟩|exact⟨rfl,rfl,rfl,rfl,rfl,rfl,trivial⟩⟩ rfl
 refine⟨?_⟩
 repeat'(first|exact y0|refine y1 ?_|refine y2 ?_ ?_|refine y4 λh=>?_|refine wX 84 (pu hsc ?_)|refine RegX.cpF ndC dN p rfl rfl rfl rfl rfl rfl rfl rfl hz4 (λ_=>rfl) BY (by rw[hb4];omega) aa rfl ?_|refine RegX.apr (w:=2) rfl rfl (qV T) rfl rfl rfl rfl rfl rfl rfl hz2 ac rfl ⟨Z02 _,rfl⟩ ac an rfl (by rw[hb2];omega) aa rfl ?_|refine y3 ?_|exact y5|fail)
 refine Ex.canon [0,1,2,3,4,5,6,7,8,9,17,18,12,13] 106 [(0,.s (.ptr (some (0,0)))),(1,al p),(6,.s (.ptr (some (7,0)))),(7,nI nh),(8,.s (rz Sc)),(9,nI 0)] (lrH O T K nx nh (T++[(nh,p)]) O nx K) rfl rfl ⟨VLe.refl _,VLe.refl _,VLe.refl _,VLe.refl _,VLe.refl _,VLe.refl _,trivial⟩ ⟨rfl,rfl,MemP.op rfl (MemP.op rfl ⟨?_,rfl,MemP.op ?_ (MemP.op rfl trivial)⟩)⟩ ?_ ?_
 ·rw[Z03];rfl
 ·rw[Z0r];rfl
 ·exact rD rfl (λ_ _ _ _=>trivial) (λc1 c2 c3 c4=>by cases c1<;>cases c2<;>cases c3<;>cases c4<;>rfl)
 obtain⟨t0,tt,hTT⟩:∃ t0 tt,T++[(nh,p)]=t0::tt:=by cases T<;>exact⟨_,_,rfl⟩
 rw[hTT] at hd hr hC |-;refine Ex.inv (σ:=Nat×List Ro×Int) (λq=>[(9,nI q.1)]) (λq=>lrH O T K nx nh (t0::tt) q.2.1 q.2.2 K) (λq=>q.1<=p.length/\Eg p nh Sc ((List.range p.length).drop q.1) q.2.1 q.2.2=D/\(q.2.1.length<=1024/\0<q.2.1.length)/\0<=q.2.2/\q.2.2<=900000+q.1) (λq=>p.length-q.1) (0,O,nx) rfl (λ_=>rfl) ⟨Z08 _,hD,⟨hO,h0⟩,hnx,by simp only;omega⟩ aV ⟨rfl,rfl,SubP.op rfl (SubP.op rfl ⟨rfl,rfl,SubP.op rfl (SubP.op rfl trivial)⟩)⟩ ?_;clear hD;rintro⟨i,O1,nx1⟩ ⟨i1,i2,⟨i3,i4⟩,i5,i6⟩;simp only at i1 i2 i3 i4 i5 i6 |-;by_cases hi:i<p.length
 ·have hdr:(List.range p.length).drop i=i::(List.range p.length).drop (i+1):=by
   rw[Z0k (by simpa using hi)];simp
  have hde:=hd i hi O1 nx1 i3 i4 i5 aa;rw[hdr,Eg] at i2;have hln:=qt p nh O1 nx1 i (Sc.getD i z0);generalize cW p nh O1 nx1 i (Sc.getD i z0)=Q at*;obtain⟨O2,nx2,e⟩:=Q;simp only at i2 hde hln;by_cases he:e=0
  ·subst he
   rw[if_pos rfl] at i2
   repeat'(first|exact y0|refine y1 ?_|refine y2 ?_ ?_|refine y4 λh=>?_|refine wX 85 (cf [7,8,9,10,11,12,13] hde ?_)|refine y3 ?_|exact y5|fail)
   all_goals try (show i<Sc.length;omega)
   refine LoopR.move (i+1,O2,nx2) ⟨hi,i2,⟨hln.2.1 i3,by simp only;omega⟩,by simp only;omega,by simp only;push_cast;omega⟩ (by simp only;omega) [0,1,2,3,4,5,6,7,14,15,10,11,12,13] rfl ?_ ?_ ?_
   ·repeat' (first|exact VLe.refl _|exact VLe.any _|exact Z0o|exact VLe.of_eq (congrArg nI (by push_cast;rfl))|refine⟨?_,?_⟩)
   ·exact⟨rfl,rfl,MemP.op rfl (MemP.op rfl ⟨rfl,rfl,MemP.op rfl (MemP.op rfl trivial)⟩)⟩
   ·exact rD rfl (λ_ _ _ _=>trivial) (λc1 c2 c3 c4=>by cases c1<;>cases c2<;>cases c3<;>cases c4<;>rfl)
  ·rw[if_neg he] at i2
   subst i2;obtain⟨rfl,rfl⟩:=hA he
   repeat'(first|exact y0|refine y1 ?_|refine y2 ?_ ?_|refine y4 λh=>?_|refine wX 85 (cf [7,8,9,10,11,12,13] hde ?_)|refine y3 ?_|exact y5|fail)
   all_goals first
    |(show i<Sc.length;omega)
    |exact Fin.zm (.inl rfl) rfl rfl rfl rfl rfl rfl rfl
 ·have hdr:(List.range p.length).drop i=[]:=Z10 (by simp;omega)
  rw[hdr,Eg] at i2;subst i2;have hr:=hr rfl;have hB:=hB rfl;have hC:=hC rfl;simp only at hr hB hC;clear hA hdr
  repeat'(first|exact y0|refine y1 ?_|refine y2 ?_ ?_|refine y4 λh=>?_|refine y3 ?_|exact y5|fail)
  refine Ex.inv (σ:=Nat×List Rk) (λq=>[(11,nI q.1)]) (λq=>lrH O T K nx nh (t0::tt) O1 nx1 q.2) (λq=>q.1<=p.length/\Bo p G ((List.range p.length).drop q.1) q.2=E/\q.2.length<=50000+q.1) (λq=>p.length-q.1) (0,K) rfl (λ_=>rfl) ⟨Z08 _,hE,hK⟩ aV ⟨rfl,rfl,SubP.op rfl (SubP.op rfl ⟨rfl,rfl,SubP.op rfl (SubP.op rfl trivial)⟩)⟩ ?_;clear hE;rintro⟨j,K1⟩ ⟨j1,j2,j3⟩;simp only at j1 j2 j3 |-;by_cases hj:j<p.length
  ·have hdr:(List.range p.length).drop j=j::(List.range p.length).drop (j+1):=by
    rw[Z0k (by simpa using hj)];simp
   rw[hdr,Bo] at j2;by_cases ho:(p.getD j dN).op=16\/(p.getD j dN).op=17
   ·have href:=hr j hj ho K1 aa
    have hgl:=hG j K1;rw[if_pos ho] at j2;generalize G j K1=Q at*;obtain⟨K2,e⟩:=Q;simp only at href hgl j2;by_cases he:e=0
    ·subst he
     rw[if_pos rfl] at j2
     repeat'(first|exact y0|refine y1 ?_|refine y2 ?_ ?_|refine y4 λh=>?_|(refine wX 86 ?_;refine iq [7,8,9,10,11,12,13] href ?_ (wr:=[(7,some (qX 8 10 14 O1.length (t0::tt).length K2.length nx1 (nh+1))),(8,some (oG 8 O1)),(10,tR 10 (t0::tt)),(12,none),(14,kR 14 K2)]) (k2:=vZ))|refine y3 ?_|exact y5|fail)
     all_goals try (show j<Sc.length;omega)
     all_goals
      refine LoopR.move (j+1,K2) ⟨hj,j2,by simp only;omega⟩ (by simp only;omega) [0,1,2,3,4,5,6,7,8,9,10,11,14,15] rfl ?_ ?_ ?_
      ·repeat' (first|exact VLe.refl _|exact VLe.any _|exact Z0o|exact VLe.of_eq (congrArg nI (by push_cast;rfl))|refine⟨?_,?_⟩)
      ·exact⟨rfl,rfl,MemP.op rfl (MemP.op rfl ⟨rfl,rfl,rfl,MemP.op rfl trivial⟩)⟩
      ·exact rD rfl (λ_ _ _ _=>trivial) (λc1 c2 c3 c4=>by cases c1<;>cases c2<;>cases c3<;>cases c4<;>rfl)
    ·rw[if_neg he] at j2
     subst j2;obtain⟨rfl,rfl⟩:=hB he
     repeat'(first|exact y0|refine y1 ?_|refine y2 ?_ ?_|refine y4 λh=>?_|(refine wX 86 ?_;refine iq [7,8,9,10,11,12,13] href ?_ (wr:=[(7,some (qX 8 10 14 O1.length (t0::tt).length K2.length nx1 (nh+1))),(8,some (oG 8 O1)),(10,tR 10 (t0::tt)),(12,none),(14,kR 14 K2)]) (k2:=vZ))|refine y3 ?_|exact y5|fail)
     all_goals first
      |(show j<Sc.length;omega)
      |exact Fin.zm (.inl rfl) rfl rfl rfl rfl rfl rfl rfl
   ·rw[if_neg ho] at j2
    repeat'(first|exact y0|refine y1 ?_|refine y2 ?_ ?_|refine y4 λh=>?_|refine y3 ?_|exact y5|fail)
    refine LoopR.move (j+1,K1) ⟨hj,j2,by simp only;omega⟩ (by simp only;omega) [0,1,2,3,4,5,6,7,8,9,10,11,12,13] rfl ?_ ?_ ?_
    ·repeat' (first|exact VLe.refl _|exact VLe.any _|exact Z0o|exact VLe.of_eq (congrArg nI (by push_cast;rfl))|refine⟨?_,?_⟩)
    ·exact⟨rfl,rfl,MemP.op rfl (MemP.op rfl ⟨rfl,rfl,rfl,MemP.op rfl trivial⟩)⟩
    ·exact rD rfl (λ_ _ _ _=>trivial) (λc1 c2 c3 c4=>by cases c1<;>cases c2<;>cases c3<;>cases c4<;>rfl)
  ·have hdr:(List.range p.length).drop j=[]:=Z10 (by simp;omega)
   rw[hdr,Bo] at j2;subst j2;obtain⟨rfl,rfl⟩:=hC rfl
   repeat'(first|exact y0|refine y1 ?_|refine y2 ?_ ?_|refine y4 λh=>?_|refine y3 ?_|exact y5|fail)
   all_goals exact Fin.zn (.inl rfl) rfl rfl rfl rfl rfl rfl rfl
end
end Go.Proofs.YtegjgpldfgjoiaaGreatDoor
