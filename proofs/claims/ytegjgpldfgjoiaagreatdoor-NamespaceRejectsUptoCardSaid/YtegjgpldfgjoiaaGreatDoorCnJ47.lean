import Derived.Test.YtegjgpldfgjoiaaGreatDoorCnJ44
import Derived.Test.YtegjgpldfgjoiaaGreatDoorCnJ43
set_option linter.all false
set_option maxHeartbeats 40000000
set_option maxRecDepth 100000
namespace Go.Proofs.YtegjgpldfgjoiaaGreatDoor
open Go Ab
section
variable {O:List Ro} {T:List Rt} {K:List Rk} {nx nh:Int}
section
variable {P:Program} {b:Nat} {y:Code} {env:List V} {n:Nat} {L:Hp} {R:Post}
theorem Ex.cutRg (id N n':Nat) (X:List (Nat×V)) (H:Hp) {E:List V} {ops:Array Oper} {d:Bool} (hE:gE (pT X 0 N) [] some=some E) (h:Ex P b (.region id ops d) env n L (xC b N n' X H)) (k:Ex P b y E n' H R):Ex P b (.region id ops d) env n L (Then P b y R):=Ex.cut N n' X H hE h k
end
theorem DW (a:Nd) (j:Nat) (x:S) (h:(ndC a)[j]? =some x):bL x=true:=by
 rcases j with _|_|_|_|j
 ·cases h;rfl
 ·cases h;rfl
 ·cases h;rfl
 ·cases h;rfl
 ·simp[ndC] at h
abbrev Gr (O:List Ro) (T:List Rt) (K:List Rk) (nx nh:Int):Hp:=[(0,some (pC 7 9 11 O.length T.length K.length nx nh)),(1,none),(3,none),(5,none),(7,some (oG 7 O)),(9,tR 9 T),(11,kR 11 K)]
def Gz (p:List Nd) (num:Int) (Sc:List Pth):List Nat->List Ro->Int->List Ro×Int×Int
 |[],O,nx=>(O,nx,0)
 |i::r,O,nx=>if (dq p num O nx i (Sc.getD i z0)).2.2=0 then Gz p num Sc r (dq p num O nx i (Sc.getD i z0)).1 (dq p num O nx i (Sc.getD i z0)).2.1 else dq p num O nx i (Sc.getD i z0)
def xV (p:List Nd) (G:Nat->List Rk->List Rk×Int):List Nat->List Rk->List Rk×Int
 |[],K=>(K,0)
 |i::r,K=>if (p.getD i dN).op=16\/(p.getD i dN).op=17 then (if (G i K).2=0 then xV p G r (G i K).1 else G i K) else xV p G r K
abbrev lrH (O:List Ro) (T:List Rt) (K:List Rk) (nx nh:Int) (T':List Rt) (O':List Ro) (nx':Int) (K':List Rk):Hp:=[(0,some (Dh O.length T.length K.length nx nh)),(1,some (oR O)),(3,tR 3 T),(5,kR 5 K),(7,some (pC 8 10 12 O'.length T'.length K'.length nx' (nh+1))),(8,some (oG 8 O')),(10,tR 10 T'),(12,kR 12 K')]
theorem yi:fg 7 (Di O T K nx nh)=true:=by
 unfold Di tR kR;generalize T.flatMap rG=c1;generalize K.flatMap kH=c2
 cases c1<;>cases c2<;>rfl
theorem IX:fg 13 (Gr O T K nx nh)=true:=by
 unfold Gr tR kR;generalize T.flatMap rG=c1;generalize K.flatMap kH=c2
 cases c1<;>cases c2<;>rfl
abbrev GL (z e:Int):V:=.tup [.s (.int .i64 z),.s (.int .i64 e)]
section
variable {P:Program} {fn:Func} {env:List V} {O:List Ro} {T:List Rt} {K:List Rk} {nx nh z z' ee ee':Int} {e:Exit} {M:Hp} {m:Nat}
theorem Fin.zm (hx:e=.ret\/e=.normal) (h0:lk M 0=some (Dh O.length T.length K.length nx nh)) (h1:lk M 1=some (oR O)) (h3:lk M 3=tR 3 T) (h5:lk M 5=kR 5 K) (hr:gC P fn env M=some (GL z' ee')) (hz:z'=z) (he:ee'=ee):Fin P fn 7 (GL z ee) 13 (Gr O T K nx nh) e env m M:=by
 subst hz;subst he;refine⟨hx,_,[1,2,3,4,5,6],ah _,uI hr ⟨h0,h1,bh h3 (bh h5 trivial)⟩ rfl IX rfl ?_ ?_⟩
 all_goals
  unfold Gr tR kR;generalize T.flatMap rG=c1;generalize K.flatMap kH=c2
  cases c1<;>cases c2<;>rfl
theorem Fin.zn (hx:e=.ret\/e=.normal) (h0:lk M 0=some (pC 8 10 12 O.length T.length K.length nx nh)) (h1:lk M 8=some (oG 8 O)) (h3:lk M 10=tR 10 T) (h5:lk M 12=kR 12 K) (hr:gC P fn env M=some (GL z' ee')) (hz:z'=z) (he:ee'=ee):Fin P fn 7 (GL z ee) 13 (Gr O T K nx nh) e env m M:=by
 subst hz;subst he;exact⟨hx,_,[8,9,10,11,12,13],ah _,fY hr ⟨h0,h1,bh h3 (bh h5 trivial)⟩ rfl IX rfl rfl⟩
end
theorem tz {T':List Rt} {O':List Ro} {nx':Int} {K':List Rk} {tbl:List Nat} {e:List V} (he:e.all (fI tbl.length)=true) (h1:∀ c1 c2 c3 c4:Option Bl,True) (h:∀ c1 c2 c3 c4,ou 7 tbl [] [(0,some (Dh O.length T.length K.length nx nh)),(1,some (oR O)),(3,fq 145 4 2 c1),(5,fq 143 6 4 c2),(7,some (pC 8 10 12 O'.length T'.length K'.length nx' (nh+1))),(8,some (oG 8 O')),(10,fq 145 11 2 c3),(12,fq 143 13 4 c4)]=true):ou 7 tbl e (lrH O T K nx nh T' O' nx' K')=true:=by
 grind [ou]
theorem sh (p:List Nd) (num:Int) (O:List Ro) (nx:Int) (i:Nat) (sc:Pth):O.length<=(dq p num O nx i sc).1.length/\(O.length<=1024->(dq p num O nx i sc).1.length<=1024)/\nx<=(dq p num O nx i sc).2.1/\(dq p num O nx i sc).2.1<=nx+1:=by
 grind [dq]
theorem Ke (p:List Nd) (hp:p.length<=2048) (Sc:List Pth) (hS:Sc.length=p.length) (hsc:FQ 84 [al p] 0 [] (.s (tu Sc)) 0 []) (hacc:FQ 82 [al p] 0 [] (bV true) 0 [])
 (O:List Ro) (T:List Rt) (K:List Rk) (nx nh:Int) (hO:O.length<=1024) (h0:0<O.length) (hT:T.length<=10) (hK:K.length<=50000) (hnx:0<=nx) (hnx1:nx<=900000) (hnh:0<=nh) (hnh1:nh<=1000)
 (hd:∀ i,i<p.length->∀ O' nx',O'.length<=1024->0<O'.length->0<=nx'->nx'<=1000000->FQ 85 [.s (.ptr (some (0,0))),al p,nI i,hY (Sc.getD i z0),nI nh] 7 (rsV O' (T++[(nh,p)]).length K.length nx' (nh+1)) (nI (dq p nh O' nx' i (Sc.getD i z0)).2.2) 9 (rsW (dq p nh O' nx' i (Sc.getD i z0)).1 (T++[(nh,p)]).length K.length (dq p nh O' nx' i (Sc.getD i z0)).2.1 (nh+1)))
 (D:List Ro×Int×Int) (hD:Gz p nh Sc (List.range p.length) O nx=D) (G:Nat->List Rk->List Rk×Int) (hG:∀ i K',(G i K').1.length<=K'.length+1)
 (hr:D.2.2=0->∀ i,i<p.length->(p.getD i dN).op=16\/(p.getD i dN).op=17->∀ K':List Rk,K'.length<=100000->FQ 86 [.s (.ptr (some (0,0))),al p,nI i,hY (Sc.getD i z0),nI nh] 7 (Di D.1 (T++[(nh,p)]) K' D.2.1 (nh+1)) (nI (G i K').2) 9 (G_ D.1 (T++[(nh,p)]) (G i K').1 D.2.1 (nh+1)))
 (E:List Rk×Int) (hE:xV p G (List.range p.length) K=E) (v:V) (L':Hp)
 (hA:D.2.2≠0->v=GL 0 D.2.2/\L'=Gr O T K nx nh) (hB:D.2.2=0->E.2≠0->v=GL 0 E.2/\L'=Gr O T K nx nh)
 (hC:D.2.2=0->E.2=0->v=GL nh 0/\L'=Gr D.1 (T++[(nh,p)]) E.1 D.2.1 (nh+1)):
 FQ 45 [.s (.ptr (some (0,0))),al p] 7 (Di O T K nx nh) v 13 L':=by
 have hcl:=H9 O T K nx nh aa aa aa h0;have hz2:(Tryz.prog.types[145]).size=2:=aK;have hb2:(Tryz.prog.types[145]).bytes=32:=aK;have hz4:(Tryz.prog.types[49]).size=4:=aK;have hb4:(Tryz.prog.types[49]).bytes=40:=aK;refine wW Tryz.func45 ?_
 repeat'(first|refine Ex.cutRg 5 106 14 [(0,.s (.ptr (some (0,0)))),(1,al p),(6,.s (.ptr (some (7,0))))] (rsC O T K nx nh) rfl (Hold.k ?_) (Hold.k ?_)|refine y1 ?_|refine y2 ?_ ?_|refine y4 λh=>?_|refine bG hacc ?_|refine y3 ?_|exact y5|fail)
 ·refine⟨?_⟩
  cases T<;>cases K
  all_goals
   repeat'(first|refine yA ?_|refine y2 ?_ ?_|(refine wX ?_;refine kF [0,1,2,3,4,5,6] hcl rfl rfl rfl rfl rfl aP (by first|exact⟨⟨rfl,_,rfl,rfl,λh=>h⟩,⟨rfl,_,rfl,rfl,λh=>h⟩,trivial⟩|exact⟨⟨rfl,_,rfl,rfl,λh=>h⟩,⟨rfl,_,rfl,rfl,λh=>h⟩,⟨rfl,_,rfl,rfl,λh=>h⟩,trivial⟩|exact⟨⟨rfl,_,rfl,rfl,λh=>h⟩,⟨rfl,_,rfl,rfl,λh=>h⟩,⟨rfl,_,rfl,rfl,λh=>h⟩,⟨rfl,_,rfl,rfl,λh=>h⟩,trivial⟩) rfl rfl rfl ?_)|exact y5|fail)
   exact fH [0,1,2,3,4,5,6,7,8,9,10,11,12,13] rfl rfl ⟨ah _,ah _,ah _,trivial⟩ ⟨rfl,rfl,by first|exact⟨rfl,rfl,trivial⟩|exact⟨rfl,rfl,rfl,rfl,trivial⟩|exact⟨rfl,rfl,rfl,rfl,rfl,rfl,trivial⟩⟩ rfl
 refine⟨?_⟩
 repeat'(first|refine y1 ?_|refine y2 ?_ ?_|refine an hsc ?_|refine RegX.cpF ndC dN p rfl rfl rfl rfl rfl rfl rfl rfl hz4 (λ_=>rfl) DW (by rw[hb4];omega) aa rfl ?_|refine gZ (w:=2) rfl rfl (sY T) rfl rfl rfl rfl rfl rfl rfl hz2 ac rfl ⟨Z02 _,rfl⟩ ac aq rfl (by rw[hb2];omega) aa rfl ?_|refine y3 ?_|exact y5|fail)
 refine my [0,1,2,3,4,5,6,7,8,9,17,18,12,13] 106 [(0,.s (.ptr (some (0,0)))),(1,al p),(6,.s (.ptr (some (7,0)))),(7,nI nh),(8,.s (tu Sc)),(9,nI 0)] (lrH O T K nx nh (T++[(nh,p)]) O nx K) rfl rfl ⟨ah _,ah _,ah _,ah _,ah _,ah _,trivial⟩ ⟨rfl,rfl,bh rfl (bh rfl ⟨?_,rfl,bh ?_ (bh rfl trivial)⟩)⟩ ?_ ?_
 ·rw[Z03];rfl
 ·rw[Z0r];rfl
 ·exact tz rfl (λ_ _ _ _=>trivial) (λc1 c2 c3 c4=>by cases c1<;>cases c2<;>cases c3<;>cases c4<;>rfl)
 obtain⟨t0,tt,hTT⟩:∃ t0 tt,T++[(nh,p)]=t0::tt:=by cases T<;>exact⟨_,_,rfl⟩
 rw[hTT] at hd hr hC |-;refine cy (σ:=Nat×List Ro×Int) (λq=>[(9,nI q.1)]) (λq=>lrH O T K nx nh (t0::tt) q.2.1 q.2.2 K) (λq=>q.1<=p.length/\Gz p nh Sc ((List.range p.length).drop q.1) q.2.1 q.2.2=D/\(q.2.1.length<=1024/\0<q.2.1.length)/\0<=q.2.2/\q.2.2<=900000+q.1) (λq=>p.length-q.1) (0,O,nx) rfl (λ_=>rfl) ⟨Z08 _,hD,⟨hO,h0⟩,hnx,ae⟩ aP ⟨rfl,rfl,fF rfl (fF rfl ⟨rfl,rfl,fF rfl (fF rfl trivial)⟩)⟩ ?_;clear hD;rintro⟨i,O1,nx1⟩ ⟨i1,i2,⟨i3,i4⟩,i5,i6⟩;simp only at i1 i2 i3 i4 i5 i6 |-;by_cases hi:i<p.length
 ·have hdr:(List.range p.length).drop i=i::(List.range p.length).drop (i+1):=by
   rw[Z0k ae];simp
  have hde:=hd i hi O1 nx1 i3 i4 i5 aa;rw[hdr,Gz] at i2;have hln:=sh p nh O1 nx1 i (Sc.getD i z0);generalize dq p nh O1 nx1 i (Sc.getD i z0)=Q at*;obtain⟨O2,nx2,e⟩:=Q;simp only at i2 hde hln;by_cases he:e=0
  ·subst he
   rw[if_pos rfl] at i2
   repeat'(first|refine yA ?_|refine y2 ?_ ?_|refine y4 λh=>?_|refine wX (bD [7,8,9,10,11,12,13] hde ?_)|exact y5|fail)
   refine fX (i+1,O2,nx2) ⟨hi,i2,⟨hln.2.1 i3,ae⟩,ae,ae⟩ ae [0,1,2,3,4,5,6,7,14,15,10,11,12,13] rfl ?_ ?_ ?_
   ·repeat'(first|exact ah _|exact dd _|exact Z0o|refine⟨?_,?_⟩)
   ·exact⟨rfl,rfl,bh rfl (bh rfl ⟨rfl,rfl,bh rfl (bh rfl trivial)⟩)⟩
   ·exact tz rfl (λ_ _ _ _=>trivial) (λc1 c2 c3 c4=>by cases c1<;>cases c2<;>cases c3<;>cases c4<;>rfl)
  ·rw[if_neg he] at i2
   subst i2;obtain⟨rfl,rfl⟩:=hA he
   repeat'(first|refine yA ?_|refine y2 ?_ ?_|refine y4 λh=>?_|refine wX (bD [7,8,9,10,11,12,13] hde ?_)|exact y5|fail)
   all_goals exact Fin.zm (.inl rfl) rfl rfl rfl rfl rfl rfl rfl
 ·have hdr:(List.range p.length).drop i=[]:=Z10 ae
  rw[hdr,Gz] at i2;subst i2;have hr:=hr rfl;have hB:=hB rfl;have hC:=hC rfl;simp only at hr hB hC;clear hA hdr
  repeat'(first|refine yA ?_|refine y2 ?_ ?_|refine y4 λh=>?_|exact y5|fail)
  refine cy (σ:=Nat×List Rk) (λq=>[(11,nI q.1)]) (λq=>lrH O T K nx nh (t0::tt) O1 nx1 q.2) (λq=>q.1<=p.length/\xV p G ((List.range p.length).drop q.1) q.2=E/\q.2.length<=50000+q.1) (λq=>p.length-q.1) (0,K) rfl (λ_=>rfl) ⟨Z08 _,hE,hK⟩ aP ⟨rfl,rfl,fF rfl (fF rfl ⟨rfl,rfl,fF rfl (fF rfl trivial)⟩)⟩ ?_;clear hE;rintro⟨j,K1⟩ ⟨j1,j2,j3⟩;simp only at j1 j2 j3 |-;by_cases hj:j<p.length
  ·have hdr:(List.range p.length).drop j=j::(List.range p.length).drop (j+1):=by
    rw[Z0k ae];simp
   rw[hdr,xV] at j2;by_cases ho:(p.getD j dN).op=16\/(p.getD j dN).op=17
   ·have href:=hr j hj ho K1 aa
    have hgl:=hG j K1;rw[if_pos ho] at j2;generalize G j K1=Q at*;obtain⟨K2,e⟩:=Q;simp only at href hgl j2;by_cases he:e=0
    ·subst he
     rw[if_pos rfl] at j2
     repeat'(first|refine yA ?_|refine y2 ?_ ?_|refine y4 λh=>?_|(refine wX ?_;refine jX [7,8,9,10,11,12,13] href ?_ (wr:=[(7,some (pC 8 10 14 O1.length (t0::tt).length K2.length nx1 (nh+1))),(8,some (oG 8 O1)),(10,tR 10 (t0::tt)),(12,none),(14,kR 14 K2)]) (k2:=yi))|exact y5|fail)
     all_goals
      refine fX (j+1,K2) ⟨hj,j2,ae⟩ ae [0,1,2,3,4,5,6,7,8,9,10,11,14,15] rfl ?_ ?_ ?_
      ·repeat'(first|exact ah _|exact dd _|exact Z0o|refine⟨?_,?_⟩)
      ·exact⟨rfl,rfl,bh rfl (bh rfl ⟨rfl,rfl,rfl,bh rfl trivial⟩)⟩
      ·exact tz rfl (λ_ _ _ _=>trivial) (λc1 c2 c3 c4=>by cases c1<;>cases c2<;>cases c3<;>cases c4<;>rfl)
    ·rw[if_neg he] at j2
     subst j2;obtain⟨rfl,rfl⟩:=hB he
     repeat'(first|refine yA ?_|refine y2 ?_ ?_|refine y4 λh=>?_|(refine wX ?_;refine jX [7,8,9,10,11,12,13] href ?_ (wr:=[(7,some (pC 8 10 14 O1.length (t0::tt).length K2.length nx1 (nh+1))),(8,some (oG 8 O1)),(10,tR 10 (t0::tt)),(12,none),(14,kR 14 K2)]) (k2:=yi))|exact y5|fail)
     all_goals exact Fin.zm (.inl rfl) rfl rfl rfl rfl rfl rfl rfl
   ·rw[if_neg ho] at j2
    repeat'(first|refine yA ?_|refine y2 ?_ ?_|refine y4 λh=>?_|exact y5|fail)
    refine fX (j+1,K1) ⟨hj,j2,ae⟩ ae [0,1,2,3,4,5,6,7,8,9,10,11,12,13] rfl ?_ ?_ ?_
    ·repeat'(first|exact ah _|exact dd _|exact Z0o|refine⟨?_,?_⟩)
    ·exact⟨rfl,rfl,bh rfl (bh rfl ⟨rfl,rfl,rfl,bh rfl trivial⟩)⟩
    ·exact tz rfl (λ_ _ _ _=>trivial) (λc1 c2 c3 c4=>by cases c1<;>cases c2<;>cases c3<;>cases c4<;>rfl)
  ·have hdr:(List.range p.length).drop j=[]:=Z10 ae
   rw[hdr,xV] at j2;subst j2;obtain⟨rfl,rfl⟩:=hC rfl
   repeat'(first|refine yA ?_|refine y2 ?_ ?_|refine y4 λh=>?_|exact y5|fail)
   all_goals exact Fin.zn (.inl rfl) rfl rfl rfl rfl rfl rfl rfl
end
def stE (x:Ent):Ent:=cV x.path x.op x.par x.tab x.node
def ay (s:Nat):List Ent->List Ro
 |[]=>[]
 |x::t=>((s:Int),stE x)::ay (s+1) t
theorem bO:∀ (E:List Ent) (s:Nat),(ay s E).length=E.length
 |[],_=>rfl
 |x::t,s=>by rw[ay,Z04,bO t,Z04]
theorem vO:∀ (E F:List Ent) (s:Nat),ay s (E++F)=ay s E++ay (s+E.length) F
 |[],F,s=>rfl
 |x::t,F,s=>by
  rw[Z25,ay,ay,vO t F,Z25,Z04,show s+1+t.length=s+(t.length+1) by omega]
theorem pQ:∀ (E:List Ent) (s j:Nat) (y:Ent),(∀ x,E[j]? =some x->stE y=stE x)->ay s (E.set j y)=ay s E
 |[],_,_,_,_=>rfl
 |x::t,s,0,y,h=>by rw[Z3k,ay,ay,h x rfl]
 |x::t,s,j+1,y,h=>by rw[Z2j,ay,ay,pQ t (s+1) j y (λz hz=>h z ae)]
theorem uy:∀ (E:List Ent) (s:Nat) (path:By),qO path (ay s E)=match oP s E path with|some k=>(k:Int)|none=> -1
 |[],_,_=>rfl
 |x::t,s,path=>by
  rw[ay,qO,oP];show (if x.path=path then _ else _)=_;split
  ·rfl
  ·exact uy t (s+1) path
theorem MF (E:List Ent) (path:By):0<=qO path (ay 0 E)↔(oP 0 E path).isSome=true:=by
 grind [uy]
theorem iK:∀ (E:List Ent) (s:Nat) (z:Int),fu z (ay s E)=if (s:Int)<=z then (E[(z-s).toNat]?).map stE else none
 |[],s,z=>by simp[ay,fu]
 |x::t,s,z=>by
  rw[ay,fu,iK t (s+1) z];by_cases h:(s:Int)=z
  ·grind
  ·rw[if_neg h]
   by_cases h2:(s:Int)<=z
   ·rw[if_pos ae,if_pos h2]
    have:(z-s).toNat=(z-((s+1:Nat):Int)).toNat+1:=aa;rw[this,Z23]
   all_goals grind
theorem w9 (E:List Ent) (q:Pth):ma (ay 0 E) (qO (aM q) (ay 0 E))=(fD E q).2/\((fD E q).2=true->qO (aM q) (ay 0 E)=(fD E q).1):=by
 unfold ma fD;rw[uy]
 cases h:oP 0 E (aM q) with
 |none=>rw[iK];simp
 |some k=>
  obtain⟨_,hk,_⟩:=lV h;rw[Z0c] at hk;simp only;rw[iK,if_pos aq]
  have e:E[((k:Int)-((0:Nat):Int)).toNat]? =some (E.getD k eZ):=by
   grind
  rw[e];generalize E.getD k eZ=X at*;show (decide (X.op=10)||decide (X.op=11)||decide (X.op=12))=_/\_
  grind [DK]
theorem yb {q:Pth} (hq:bR q=true) (h:(aW q).2=false):aM q=[92]:=by
 unfold aW at h;split at h
 ·rename_i e
  have e:q.segs.length=0:=by
   grind
  obtain⟨h1,h2,h3⟩:=cT hq
  have hv:aG q=true:=by grind [bR]
  unfold aM;rw[if_pos hv,if_pos h1,Z15 e];rfl
 ·cases h
theorem DC {s:By} (h:(ai s).2=false):(ai s).1=z0:=by
 grind [fQ,eP,ai]
theorem kq {sc:Pth} {s:By} (h:(ax sc (ai s).1).2=true):(ai s).2=true:=by
 cases e:(ai s).2 with
 |true=>rfl
 |false=>
  rw[DC e] at h;unfold ax at h;rw[if_pos (.inr ac)] at h;cases h
theorem Fm (p:List Nd) (num:Int) (E:List Ent) (i:Nat) (sc:Pth) (hd:ca (p.getD i dN).op=true) (hj:(ax sc (ai (p.getD (i+1) dN).str).1).2=true) (hroot:(oP 0 E [92]).isSome=true):
 dq p num (ay 0 E) E.length i sc=(ay 0 (bt p num E i sc).1,((bt p num E i sc).1.length:Int),(bt p num E i sc).2.2.2):=by
 have hp:=kq hj;have ha:=zt hj
 have hjn:cc p (i+1) sc=ax sc (ai (p.getD (i+1) dN).str).1:=by unfold cc;rw[if_pos hp]
 have h10: ¬(p.getD i dN).op=10:=λe=>by rw[e] at hd;exact absurd hd ac
 have hdo: ¬fC (p.getD i dN).op=false:=λe=>by
  grind [fC,ca]
 have hc:=w9 E (aW (ax sc (ai (p.getD (i+1) dN).str).1).1).1;have hps:= @yb _ ha;unfold dq bt;rw[if_neg hdo,if_neg h10,hjn];unfold qr;generalize ax sc (ai (p.getD (i+1) dN).str).1=j at*;obtain⟨q,ok⟩:=j;simp only at hj ha hc hps |-;subst hj;simp only[Z3x,if_false];have hn:=MF E (aM q);by_cases g1:(oP 0 E (aM q)).isSome=true
 ·grind
 rw[if_neg (λh=>g1 (hn.1 h)),if_neg g1]
 have g2:(aW q).2=true:=by
  grind
 rw[g2];simp only[Z3x,if_false];rw[hc.1]
 cases g3:(fD E (aW q).1).2 with
 |false=>simp
 |true=>
  simp only[Z3x,if_false];rw[hc.2 g3,bO];by_cases g4:E.length<1024
  ·rw[if_neg aa,if_pos g4]
   simp only[Z0j];refine⟨?_,aq,trivial⟩;rw[vO,Z0c];rfl
  all_goals grind
section
variable {E:List Ent} {i j:Nat} {t:Fo} {a:Inf}
abbrev StR:=List Ro×Int×Int
def lg (p:List Nd) (num:Int) (t:Fo) (j:Nat) (a:Inf) (s:StR) (i:Nat):StR:=if s.2.2=0 then dq p num s.1 s.2.1 i (bF t j i a).sc else s
abbrev nL (E:List Ent) (e:Int):StR:=(ay 0 E,(E.length:Int),e)
def RootE (E:List Ent):Prop:=∃ x t,E=x::t/\x.path=[92]
theorem RootE.ix (h:RootE E):(oP 0 E [92]).isSome=true:=by
 obtain⟨x,t,rfl,h⟩:=h;rw[oP,if_pos h];rfl
theorem RootE.app {F:List Ent} (h:RootE E):RootE (E++F):=by
 obtain⟨x,t,rfl,h⟩:=h;exact⟨x,t++F,rfl,h⟩
theorem RootE.set (h:RootE E) (k:Nat) (y:Ent) (hy:y.path=(E.getD k eZ).path):RootE (E.set k y):=by
 obtain⟨x,t,rfl,h⟩:=h
 cases k with
 |zero=>exact⟨y,t,rfl,hy.trans h⟩
 |succ k=>exact⟨x,t.set k y,rfl,h⟩
theorem RootE.add {p:List Nd} {num:Int} {sc:Pth} (h:RootE E):RootE (bt p num E i sc).1:=by
 unfold bt
 repeat' split
 all_goals first
  |exact h
  |exact h.app
section
variable {p:List Nd} {num:Int}
theorem iP {x:Nd} {k n:Fo} (a:Inf) (s:StR):
 (List.range' j (Fo.cons x k n).size).foldl (lg p num (.cons x k n) j a) s=
   (List.range' (j+1+k.size) n.size).foldl (lg p num n (j+1+k.size) a) ((List.range' (j+1) k.size).foldl (lg p num k (j+1) (bq x (aw k) j a)) (lg p num (.cons x k n) j a s j)):=by
 have e:List.range' j (Fo.cons x k n).size=j::(List.range' (j+1) k.size++List.range' (j+1+k.size) n.size):=by
  simp only[Fo.size];rw[show 1+k.size+n.size=(k.size+n.size)+1 by omega,Z31,Z5z]
 rw[e,Z2s,Z4a];rw[eX (f:=lg p num (.cons x k n) j a) (g:=lg p num k (j+1) (bq x (aw k) j a)) (l:=List.range' (j+1) k.size)]
 ·refine eX λi hi s=>?_
  have:=Z20.1 hi;unfold lg;have h1: ¬i=j:=aa;have h2: ¬i<j+1+k.size:=aa;simp only[bF,if_neg h1,if_neg h2]
 ·intro i hi s
  have:=Z20.1 hi;unfold lg;have h1: ¬i=j:=aa;have h2:i<j+1+k.size:=aa;simp only[bF,if_neg h1,if_pos h2]
theorem iq {t:Fo} {j:Nat} {a:Inf} {s:StR} (h:s.2.2≠0):∀ l:List Nat,l.foldl (lg p num t j a) s=s
 |[]=>rfl
 |i::l=>by rw[Z2s,show lg p num t j a s i=s from if_neg h,iq h l]
theorem Jz {s:StR} (h:fC (p.getD i dN).op=false):lg p num t j a s i=s\/s.2.2=0/\lg p num t j a s i=(s.1,s.2.1,0):=by
 grind [lg,dq]
theorem j_ {s:StR} (h:fC (p.getD i dN).op=false):lg p num t j a s i=s:=by
 rcases Jz (t:=t) (j:=j) (a:=a) (s:=s) (num:=num) h with e|⟨e1,e2⟩
 all_goals grind
theorem jO (ha:t.At p j) (hq:t.all quiet) (a:Inf) (s:StR):(List.range' j t.size).foldl (lg p num t j a) s=s:=by
 grind [fC,quiet,tQ,Fo.all_at,j_]
theorem ld {c':Int}:∀ (ls:List Int) (t:Fo) (j:Nat) (a:Inf) (s:StR),ls.all eI=true->t.At p j->t.V (ls.map (λc=>(false,c))++[(true,c')])->
 ∃ b:Inf,b.sc=a.sc/\(am t).At p (j+ls.length+1)/\(am t).V (List.replicate (am t).cnt (false,c'))/\t.size=ls.length+1+(am t).size/\(∀ i,j+ls.length+1<=i->i<j+ls.length+1+(am t).size->bF t j i a=bF (am t) (j+ls.length+1) i b)/\
   (List.range' j t.size).foldl (lg p num t j a) s=(List.range' (j+ls.length+1) (am t).size).foldl (lg p num (am t) (j+ls.length+1) b) s
 |[],t,j,a,s,_,ha,hv=>by
  obtain⟨y,bl,n,rfl,h1,h2,h3⟩:=jY hv;have:=iE h1;subst this
  have hsc:(bq y (aw bl) j a).sc=a.sc:=by
   grind [bq]
  refine⟨_,hsc,ha.2.2.1,h3,by simp only[Fo.size,am,Z0e];omega,λi h4 h5=>?_,?_⟩
  ·grind [am,bF]
  ·rw[iP,j_ (by rw[At.get ha,h2];decide)]
   simp only[Fo.size,Z50,Z5x];rfl
 |c::ls,t,j,a,s,hl,ha,hv=>by
  simp only[Z1b,Z07] at hl;obtain⟨y,n,rfl,h1,hop⟩:=eN hl.1 hv
  have hn:n.At p (j+1):=by have:=ha.2.2.2;simpa [Fo.size] using this
  have hlb:am (.cons y .nil n)=am n:=by
   obtain⟨b,g3,_⟩:=aV ls n hl.2 h1
   cases n with
   |nil=>simp only[Fo.size] at g3;omega
   |cons a b c=>rfl
  obtain⟨b,q1,q2,q3,q4,q5,q6⟩:=ld ls n (j+1) a s hl.2 hn h1;rw[hlb];have e:j+(c::ls).length+1=j+1+ls.length+1:=ae;rw[e];refine⟨b,q1,q2,q3,by simp only[Fo.size,Z04];omega,λi h4 h5=>?_,?_⟩
  ·grind [bF,Fo.size]
  ·rw[iP,j_ (by grind [At.get,fC])]
   grind [Fo.size]
theorem GY {k:Nat} {a b c d:Int}:ay 0 (E.set k (CE (E.getD k eZ) a b c d))=ay 0 E:=pQ E 0 k _ λx hx=>by rw[Z00,hx];rfl
theorem vb (hd:ca (p.getD i dN).op=true) (hj:(ax (bF t j i a).sc (ai (p.getD (i+1) dN).str).1).2=true) (hr:RootE E):lg p num t j a (nL E 0) i=nL (bt p num E i (bF t j i a).sc).1 (bt p num E i (bF t j i a).sc).2.2.2:=by
 unfold lg;rw[if_pos rfl];exact Fm p num E i _ hd hj hr.ix
theorem Fe (sc:Pth) (wid upd:Int):∀ (t:Fo) (c:Nat) (a:Inf) (E:List Ent) (us:List Int) (bits:Int),a.sc=sc->t.At p c->t.V (List.replicate t.cnt (false,70))->RootE E->(∀ i,c<=i->i<c+t.size->ca (p.getD i dN).op=true->(ax (bF t c i a).sc (ai (p.getD (i+1) dN).str).1).2=true)->
 (List.range' c t.size).foldl (lg p num t c a) (nL E 0)=nL (dI p num sc wid upd t c E us bits).1 (dI p num sc wid upd t c E us bits).2.2.2/\RootE (dI p num sc wid upd t c E us bits).1
 | .nil,c,a,E,us,bits,_,_,_,hr,_=>⟨rfl,hr⟩
 | .cons x k n,c,a,E,us,bits,hsc,ha,hv,hr,hJ=>by
   have hv':=hv;simp only[Fo.cnt,Z16] at hv';obtain⟨⟨h1,h2,h3⟩,h4,h5⟩:=hv';have hop:=nE h1
   have hq:k.all quiet:=fj h4 λsl hsl=>by
    obtain⟨b,hb',rfl⟩:=Z1d.1 hsl
    grind [gw,iy]
   have hJn:∀ i,c+1+k.size<=i->i<c+1+k.size+n.size->ca (p.getD i dN).op=true->(ax (bF n (c+1+k.size) i a).sc (ai (p.getD (i+1) dN).str).1).2=true:=λi g1 g2 g3=>by
    grind [Fo.size,bF]
   rw[iP,dI];have hx:p.getD c dN=x:=At.get ha
   have hc:(bF (.cons x k n) c c a).sc=sc:=by simp only[bF,if_true];exact hsc
   by_cases h19:x.op=19
   ·rw[if_pos h19,j_ (by rw[hx,h19];decide),jO ha.2.2.1 hq]
    exact Fe sc wid upd n (c+1+k.size) a E us (bits+aj p (c+1)) hsc ha.2.2.2 h5 hr hJn
   ·have h18:x.op=18:=aa
    have hd:ca (p.getD c dN).op=true:=by rw[hx,h18];decide
    rw[if_neg h19,vb hd (hJ c (Z02 _) (by simp only[Fo.size];omega) hd) hr,hc];have hr1:=hr.add (p:=p) (num:=num) (i:=c) (sc:=sc);by_cases he:(bt p num E c sc).2.2.2=0
    ·rw[if_neg (λh=>h he),he,jO ha.2.2.1 hq]
     have:=Fe sc wid upd n (c+1+k.size) a ((bt p num E c sc).1.set E.length (CE ((bt p num E c sc).1.getD E.length eZ) bits (aj p (c+2)) wid upd)) (us++[(E.length:Int)]) (bits+aj p (c+2)) hsc ha.2.2.2 h5 (hr1.set _ _ rfl) hJn;rw[show nL ((bt p num E c sc).1.set E.length (CE ((bt p num E c sc).1.getD E.length eZ) bits (aj p (c+2)) wid upd)) 0=nL (bt p num E c sc).1 0 by unfold nL;rw[GY,Z18]] at this;exact this
    all_goals grind [iq]
theorem Jn {op:Int} (h:bH 68 op=true):op≠18/\op≠19:=by
 constructor
 ·rintro rfl;revert h;decide
 ·rintro rfl;revert h;decide
theorem F3 {sc:Pth} (h:(bt p num E i sc).2.2.2=0):(bt p num E i sc).2.2.1=(cc p (i+1) sc).1:=by
 unfold bt at h |-
 repeat' split
 all_goals first
  |rfl
  |(simp_all;done)
theorem Fn:∀ (N:Nat) (t:Fo) (j:Nat) (a:Inf) (E:List Ent) (fs:List Fd),t.size<N->t.At p j->t.V (List.replicate t.cnt (false,68))->RootE E->(∀ i,j<=i->i<j+t.size->fC (p.getD i dN).op=true->(ax (bF t j i a).sc (ai (p.getD (i+1) dN).str).1).2=true)->
 (List.range' j t.size).foldl (lg p num t j a) (nL E 0)=nL (aX p num false t j a.sc E fs).1 (aX p num false t j a.sc E fs).2.2/\RootE (aX p num false t j a.sc E fs).1
 |0,_,_,_,_,_,h,_,_,_,_=>absurd h (Z1m _)
 |N+1,.nil,j,a,E,fs,_,_,_,hr,_=>⟨rfl,hr⟩
 |N+1,.cons x k n,j,a,E,fs,hN,ha,hv,hr,hJ=>by
  simp only[Fo.size] at hN;have hv':=hv;simp only[Fo.cnt,Z16] at hv';obtain⟨⟨h1,h2,h3⟩,h4,h5⟩:=hv';have hop:=l9 (.inl rfl) h1;have hx:p.getD j dN=x:=At.get ha;have hk:=ha.2.2.1
  have hJn:∀ i,j+1+k.size<=i->i<j+1+k.size+n.size->fC (p.getD i dN).op=true->(ax (bF n (j+1+k.size) i a).sc (ai (p.getD (i+1) dN).str).1).2=true:=λi g1 g2 g3=>by
   grind [Fo.size,bF]
  have hJk:∀ i,j+1<=i->i<j+1+k.size->fC (p.getD i dN).op=true->(ax (bF k (j+1) i (bq x (aw k) j a)).sc (ai (p.getD (i+1) dN).str).1).2=true:=λi g1 g2 g3=>by
   have:=hJ i aa (by simp only[Fo.size];omega) g3;simp only[bF] at this
   rwa [if_neg aa,if_pos aa] at this
  have hJj:fC x.op=true->(ax a.sc (ai (p.getD (j+1) dN).str).1).2=true:=λh=>by
   have:=hJ j (Z02 _) (by simp only[Fo.size];omega) (by rw[hx];exact h)
   simpa only [bF,if_true] using this
  have hc:(bF (.cons x k n) j j a).sc=a.sc:=by simp only[bF,if_true]
  rw[iP,aX]
  --the declaration itself
  have key:((List.range' (j+1) k.size).foldl (lg p num k (j+1) (bq x (aw k) j a)) (lg p num (.cons x k n) j a (nL E 0) j)=nL (gS p num x k j a.sc E fs λsc E fs=>aX p num true k (j+1) sc E fs).1 (gS p num x k j a.sc E fs λsc E fs=>aX p num true k (j+1) sc E fs).2.2)
   /\RootE (gS p num x k j a.sc E fs λsc E fs=>aX p num true k (j+1) sc E fs).1:=by
   have h18:x.op≠18/\x.op≠19:=Jn h1
   --the state behind the node's own step
   have plain:ca x.op=true->lg p num (.cons x k n) j a (nL E 0) j=nL (bt p num E j a.sc).1 (bt p num E j a.sc).2.2.2:=λh=>by
    have:=vb (num:=num) (t:=.cons x k n) (j:=j) (i:=j) (a:=a) (by rw[hx];exact h) (by rw[hc];exact hJj (by unfold ca at h;unfold fC;simp only[decide_eq_true_eq] at h |-;omega)) hr;rw[hc] at this;exact this
   have blk:∀ (ls:List Int) (E:List Ent),(ls.all eI)=true->k.V (ls.map (λc=>(false,c))++[(true,68)])->RootE E->
    (List.range' (j+1) k.size).foldl (lg p num k (j+1) (bq x (aw k) j a)) (nL E 0)=nL (aX p num true k (j+1) (bq x (aw k) j a).sc E fs).1 (aX p num true k (j+1) (bq x (aw k) j a).sc E fs).2.2/\RootE (aX p num true k (j+1) (bq x (aw k) j a).sc E fs).1:=λls E hl hk4 hr=>by
    obtain⟨b,q1,q2,q3,q4,q5,q6⟩:=ld (num:=num) ls k (j+1) (bq x (aw k) j a) (nL E 0) hl hk hk4;rw[q6,eK ls k hl hk4,<-q1]
    exact Fn N (am k) (j+1+ls.length+1) b E fs aa q2 q3 hr λi g1 g2 g3=>by
     grind
   have els:∀ (ls:List Int) (w u:Int),(ls.all eI)=true->k.V (ls.map (λc=>(false,c))++[(true,70)])->(bq x (aw k) j a).sc=a.sc->
    (List.range' (j+1) k.size).foldl (lg p num k (j+1) (bq x (aw k) j a)) (nL E 0)=nL (dI p num a.sc w u (am k) (j+1+ls.length+1) E [] 0).1 (dI p num a.sc w u (am k) (j+1+ls.length+1) E [] 0).2.2.2/\RootE (dI p num a.sc w u (am k) (j+1+ls.length+1) E [] 0).1:=λls w u hl hk4 hs=>by
    obtain⟨b,q1,q2,q3,q4,q5,q6⟩:=ld (num:=num) ls k (j+1) (bq x (aw k) j a) (nL E 0) hl hk hk4;rw[q6]
    exact Fe a.sc w u (am k) (j+1+ls.length+1) b E [] 0 (q1.trans hs) q2 q3 hr λi g1 g2 g3=>by
     rw[<-q5 i g1 g2];exact hJk i aa aa (by unfold ca at g3;unfold fC;simp only[decide_eq_true_eq] at g3 |-;omega)
   have hin:(x.op=10\/x.op=11\/x.op=12)->k.V (dB (av x.op x.kids).1)->(cc p (j+1) a.sc).2=true/\(bq x (aw k) j a).sc=(cc p (j+1) a.sc).1:=λh hv=>by
    have hd:fC x.op=true:=by grind [fC]
    have h1:=hJj hd
    have h2:cc p (j+1) a.sc=ax a.sc (ai (p.getD (j+1) dN).str).1:=by unfold cc;rw[if_pos (kq h1)]
    have hn:aw k=(ai (p.getD (j+1) dN).str).1:=by
     have hne:∃ sl r,dB (av x.op x.kids).1=sl::r:=by
      rcases h with e|e|e<;>rw[e]<;>exact⟨_,_,rfl⟩
     obtain⟨sl,r,e⟩:=hne;rw[e] at hv;obtain⟨y,ky,n',rfl,_⟩:=uK hv;rw[At.get hk];rfl
    grind [bq]
   have hns: ¬(x.op=10\/x.op=11\/x.op=12)->(bq x (aw k) j a).sc=a.sc:=λh=>by
    unfold bq;simp only;rw[if_neg (λe=>h e.1)]
   unfold gS;by_cases h10:x.op=10
   ·obtain⟨g1,g2⟩:=hin (.inl h10) h4
    rw[if_pos h10,if_neg ae]
    have hst:lg p num (.cons x k n) j a (nL E 0) j=nL E (if (fD E (cc p (j+1) a.sc).1).2=false then 6 else 0):=by
     have h1:=hJj (by rw[h10];decide)
     have h2:cc p (j+1) a.sc=ax a.sc (ai (p.getD (j+1) dN).str).1:=by unfold cc;rw[if_pos (kq h1)]
     unfold lg;rw[if_pos rfl,hc];unfold dq;rw[hx,if_neg (by rw[h10];decide),if_pos h10];show (if ma (ay 0 E) (qO (aM (qr p j a.sc)) (ay 0 E))=false then _ else _)=_;rw[(w9 E (qr p j a.sc)).1,h2]
     grind
    rw[hst];by_cases hcn:(fD E (cc p (j+1) a.sc).1).2=false
    ·grind [iq]
    ·rw[if_neg hcn,if_neg hcn,<-g2]
     rw[h10] at h4;exact blk [110] E rfl h4 hr
   rw[if_neg h10];by_cases h16:x.op=16
   ·rw[if_pos h16,j_ (by rw[hx,h16];decide)]
    have h4':=h4;rw[h16] at h4';exact els [110,105,105] _ _ rfl h4' (hns aa)
   rw[if_neg h16];by_cases h17:x.op=17
   ·rw[if_pos h17,j_ (by rw[hx,h17];decide)]
    have h4':=h4;rw[h17] at h4';exact els [110,110,105,105] _ _ rfl h4' (hns aa)
   rw[if_neg h17]
   have hdb:ca x.op=true:=by grind [ca]
   rw[plain hdb];have hr1:=hr.add (p:=p) (num:=num) (i:=j) (sc:=a.sc);by_cases he:(bt p num E j a.sc).2.2.2=0
   ·rw[if_neg (λh=>h he),he]
    by_cases hb:x.op=11\/x.op=12
    ·rw[if_pos hb]
     obtain⟨g1,g2⟩:=hin (.inr hb) h4
     have g3:(bt p num E j a.sc).2.2.1=(bq x (aw k) j a).sc:=by
      grind [F3]
     rw[g3]
     rcases hb with hb|hb
     ·have h4':=h4
      rw[hb] at h4';exact blk [115] _ rfl h4' hr1
     ·have h4':=h4
      rw[hb] at h4';exact blk [115,105,105] _ rfl h4' hr1
    ·rw[if_neg hb]
     have hq:k.all quiet:=fj h4 λsl hsl=>by
      obtain⟨b,hb',rfl⟩:=Z1d.1 hsl;exact iy h1 (.inl rfl) (by unfold gw;rw[decide_eq_false_iff_not];omega) b hb'
     grind [jO]
   all_goals grind [iq]
  obtain⟨e1,e2⟩:=key;rw[e1];generalize gS p num x k j a.sc E fs (λsc E fs=>aX p num true k (j+1) sc E fs)=Q at*;obtain⟨E1,fs1,e⟩:=Q;by_cases he:e=0
  ·subst he
   rw[if_pos rfl];exact Fn N n (j+1+k.size) a E1 fs1 aa ha.2.2.2 h5 e2 hJn
  all_goals grind [iq]
end
end
section
variable {p:List Nd} {num:Int}
theorem AQ (Sc:List Pth):∀ (l:List Nat) (O:List Ro) (nx:Int),Gz p num Sc l O nx=l.foldl (λ(s:StR) i=>if s.2.2=0 then dq p num s.1 s.2.1 i (Sc.getD i z0) else s) (O,nx,0)
 |[],_,_=>rfl
 |i::l,O,nx=>by
  have bad:∀ (l:List Nat) (s:StR),s.2.2≠0->l.foldl (λ(s:StR) i=>if s.2.2=0 then dq p num s.1 s.2.1 i (Sc.getD i z0) else s) s=s:=by
   intro l
   induction l with
   |nil=>grind
   |cons i l ih=>grind
  rw[Gz,Z2s];simp only[if_true];split
  ·rename_i h
   rw[AQ Sc l]
   grind
  all_goals grind
theorem Mo {t:Fo} (ha:t.At p 0) (hs:t.size=p.length) (hv:t.V (List.replicate t.cnt (false,68))) (E:List Ent) (hr:RootE E) (hJ:∀ i,i<t.size->fC (p.getD i dN).op=true->(ax (aF t i).sc (ai (p.getD (i+1) dN).str).1).2=true):
 Gz p num (rF p t) (List.range p.length) (ay 0 E) E.length=nL (aX p num false t 0 rt0 E []).1 (aX p num false t 0 rt0 E []).2.2/\RootE (aX p num false t 0 rt0 E []).1:=by
 have h:=Fn (num:=num) (t.size+1) t 0 ini E [] (Z1t _) ha hv hr λi _ h2 h3=>hJ i aa h3
 rw[AQ,<-hs,Z4g];rw[eX (g:=lg p num t 0 ini)]
 ·exact h
 all_goals grind [z_,lg]
end
theorem El (E:List Ent):∀ cs:List Pth,vY (ay 0 E) cs=(Ax E cs).map λk:Nat=>(k:Int)
 |[]=>rfl
 |c::cs=>by
  rw[vY,Ax,El E cs,uy]
  grind
theorem vW (E:List Ent) (s nm:By):dG (ay 0 E) s nm=(fw E s nm).map λk:Nat=>(k:Int):=by
 unfold dG fw;by_cases h:(ai s).2=true/\(ai nm).2=true
 ·rw[if_pos h,El]
  by_cases h2:(ai s).1.root=true
  ·grind
  ·rw[if_neg (λe=>h2 e.2.2)]
   have:aS (ai s).1 (ai nm).1=[]:=by
    grind [aS,bR]
   rw[this];rfl
 all_goals grind
theorem AI (p:List Nd) (E:List Ent) (s:By) (i:Nat) (op:Int):qg (ay 0 E) s (p.getD i dN).str op=(eY p E s i op).map λk:Nat=>(k:Int):=by
 unfold qg eY;rw[vW]
 cases h:fw E s (p.getD i dN).str with
 |none=>rfl
 |some k=>
  have e:(fu (k:Int) (ay 0 E)).getD eZ=stE (E.getD k eZ):=by
   rw[iK,if_pos aq,Z00];simp
   cases E[k]? <;>rfl
  show (if ((fu (k:Int) (ay 0 E)).getD eZ).op=op then some (k:Int) else none)=(if (E.getD k eZ).op=op then some k else none).map λk:Nat=>(k:Int)
  rw[e];show (if (E.getD k eZ).op=op then _ else _)=_
  split<;>rfl
def Gn (p:List Nd):List Nat->Int->List (Int×Int)
 |[],_=>[]
 |c::cs,b=>(if (p.getD c dN).op=18 then [(b,g_ p c)] else [])++Gn p cs (b+g_ p c)
theorem xH (F:Int->Int->Bool) (p:List Nd):∀ (cs:List Nat) (b:Int),ol F p cs b=(Gn p cs b).all λx=>F x.1 x.2
 |[],_=>rfl
 |c::cs,b=>by
  rw[ol,Gn,xH F p cs,Z1g]
  grind
def gQ (E:List Ent) (u:Int):Int×Int×Int×Int:=((E.getD u.toNat eZ).bit,(E.getD u.toNat eZ).len,(E.getD u.toNat eZ).wid,(E.getD u.toNat eZ).upd)
theorem GV {E:List Ent} {k:Nat} {y:Ent} (h:(y.bit,y.len,y.wid,y.upd)=gQ E k) (u:Int):gQ (E.set k y) u=gQ E u:=by
 grind [gQ]
theorem CS (sp ba ln idx dat:Int):∀ (us:List Int) (E:List Ent),(∀ u∈us,0<=u)->(eB sp ba ln idx dat us E).2=(if us.all (λu=>fM sp ba ln (gQ E u).1 (gQ E u).2.1 (gQ E u).2.2.1 (gQ E u).2.2.2)=true then 0 else 1)/\∀ v,gQ (eB sp ba ln idx dat us E).1 v=gQ E v
 |[],E,_=>⟨rfl,λ_=>rfl⟩
 |u::us,E,hu=>by
  have h0:=hu u (.head _);have hs:=GV (E:=E) (k:=u.toNat) (y:=uM (E.getD u.toNat eZ) sp ba ln idx dat) (by unfold gQ;simp only[Z12];rfl)
  obtain⟨g1,g2⟩:=CS sp ba ln idx dat us (E.set u.toNat (uM (E.getD u.toNat eZ) sp ba ln idx dat)) λv hv=>hu v (.tail _ hv)
  have e:eB sp ba ln idx dat (u::us) E=if fM sp ba ln (gQ E u).1 (gQ E u).2.1 (gQ E u).2.2.1 (gQ E u).2.2.2=true then eB sp ba ln idx dat us (E.set u.toNat (uM (E.getD u.toNat eZ) sp ba ln idx dat)) else (E,1):=rfl
  grind
section
variable {E E':List Ent}
def gV (op:Int):Bool:=decide (op=16\/op=17)
def Am (E:List Ent) (u:Int):Int×Int×Int:=((E.getD u.toNat eZ).op,(E.getD u.toNat eZ).tab,(E.getD u.toNat eZ).node)
def IG (p:List Nd) (cs:List Nat):List Nat:=cs.filter λc=>decide ((p.getD c dN).op=18)
def FdO (p:List Nd) (num:Int) (Kd:Nat->Fo) (E:List Ent) (d:Fd):Prop:=∃ (i blk:Nat),d.node=(i:Int)/\((p.getD i dN).op=16/\blk=i+4\/(p.getD i dN).op=17/\blk=i+5)/\d.units.map (Am E)=(IG p ((Kd blk).starts (blk+1))).map λc:Nat=>(18,num,(c:Int))
structure FdQ (p:List Nd) (C:Nat->Inf) (Kd:Nat->Fo) (E:List Ent) (d:Fd):Prop where
 at_:∃ (i blk:Nat),d.node=(i:Int)/\((p.getD i dN).op=16/\blk=i+4\/(p.getD i dN).op=17/\blk=i+5)/\d.scope=aM (C i).sc/\d.bits=jh p ((Kd blk).starts (blk+1))/\
  d.units.map (gQ E)=(Gn p ((Kd blk).starts (blk+1)) 0).map (λx=>(x.1,x.2,aj p (blk-2),aj p (blk-1)))
 un:∀ u∈d.units,0<=u/\u<E.length
structure Kp (E E':List Ent):Prop where
 len:E.length<=E'.length
 sp:∀ u:Int,0<=u->u<E.length->gQ E' u=gQ E u
 ob:∀ u:Int,0<=u->u<E.length->Am E' u=Am E u
theorem Kp.refl (E:List Ent):Kp E E:=⟨Z02 _,λ_ _ _=>rfl,λ_ _ _=>rfl⟩
theorem Kp.trans {A B C:List Ent} (h:Kp A B) (k:Kp B C):Kp A C:=⟨Z1z h.len k.len,λu h1 h2=>(k.sp u h1 (by have:=h.len;omega)).trans (h.sp u h1 h2),λu h1 h2=>(k.ob u h1 (by have:=h.len;omega)).trans (h.ob u h1 h2)⟩
theorem Kp.app (E:List Ent) (y:Ent):Kp E (E++[y]):=⟨aq,λu h1 h2=>by unfold gQ;rw[ip aa],λu h1 h2=>by unfold Am;rw[ip aa]⟩
theorem Kp.set (h:Kp E E') (k:Nat) (y:Ent) (hk:E.length<=k):Kp E (E'.set k y):=by
 have e:∀ u:Int,0<=u->u<E.length->(E'.set k y).getD u.toNat eZ=E'.getD u.toNat eZ:=λu h1 h2=>by
  grind
 refine⟨by rw[Z18];exact h.len,λu h1 h2=>?_,λu h1 h2=>?_⟩
 ·rw[<-h.sp u h1 h2];unfold gQ;rw[e u h1 h2]
 ·rw[<-h.ob u h1 h2];unfold Am;rw[e u h1 h2]
theorem FdQ.kp {p:List Nd} {C:Nat->Inf} {Kd:Nat->Fo} {d:Fd} (h:FdQ p C Kd E d) (k:Kp E E'):FdQ p C Kd E' d:=by
 obtain⟨⟨i,blk,h1,h2,h3,h4,h5⟩,h6⟩:=h;refine⟨⟨i,blk,h1,h2,h3,h4,?_⟩,λu hu=>⟨(h6 u hu).1,by grind [k.len]⟩⟩;rw[<-h5]
 exact List.map_congr_left λu hu=>k.sp u (h6 u hu).1 (h6 u hu).2
theorem FdO.kp {p:List Nd} {num:Int} {C:Nat->Inf} {Kd:Nat->Fo} {d:Fd} (h:FdO p num Kd E d) (q:FdQ p C Kd E d) (k:Kp E E'):FdO p num Kd E' d:=by
 obtain⟨i,blk,h1,h2,h3⟩:=h;refine⟨i,blk,h1,h2,?_⟩;rw[<-h3]
 exact List.map_congr_left λu hu=>k.ob u (q.un u hu).1 (q.un u hu).2
section
variable {p:List Nd} {num:Int}
theorem xj {i:Nat} {sc:Pth} (h:(bt p num E i sc).2.2.2=0):∃ a c,(bt p num E i sc).1=E++[cV a (p.getD i dN).op c num i]:=by
 unfold bt at h |-
 repeat' split
 all_goals first
  |exact⟨_,_,rfl⟩
  |(simp_all;done)
theorem F4 {i:Nat} {sc:Pth} (h:(bt p num E i sc).2.2.2=0):∃ y,(bt p num E i sc).1=E++[y]:=by
 unfold bt at h |-
 repeat' split
 all_goals first
  |exact⟨_,rfl⟩
  |(simp_all;done)
theorem Fc (sc:Pth) (wid upd:Int):∀ (t:Fo) (c:Nat) (E:List Ent) (us:List Int) (bits:Int),t.At p c->t.V (List.replicate t.cnt (false,70))->(dI p num sc wid upd t c E us bits).2.2.2=0->
 ∃ news,(dI p num sc wid upd t c E us bits).2.1=us++news/\news.map (gQ (dI p num sc wid upd t c E us bits).1)=(Gn p (t.starts c) bits).map (λx=>(x.1,x.2,wid,upd))/\(∀ u∈news,0<=u/\u<(dI p num sc wid upd t c E us bits).1.length)/\
   (dI p num sc wid upd t c E us bits).2.2.1=bits+jh p (t.starts c)/\Kp E (dI p num sc wid upd t c E us bits).1/\news.map (Am (dI p num sc wid upd t c E us bits).1)=(IG p (t.starts c)).map (λc:Nat=>(18,num,(c:Int)))/\
   ∀ k,E.length<=k->k<(dI p num sc wid upd t c E us bits).1.length->(k:Int)∈news
 | .nil,c,E,us,bits,_,_,_=>⟨[],(Z0u _).symm,rfl,λu h=>(by cases h),(Int.add_zero _).symm,Kp.refl _,rfl,λk h1 h2=>absurd h1 (Nat.not_le.2 h2)⟩
 | .cons x k n,c,E,us,bits,ha,hv,h0=>by
   have hv':=hv;simp only[Fo.cnt,Z16] at hv';obtain⟨⟨h1,h2,h3⟩,h4,h5⟩:=hv';have hop:=nE h1;have hx:p.getD c dN=x:=At.get ha;rw[dI] at h0 |-;rw[Fo.starts,Gn,jh,hx];by_cases h19:x.op=19
   ·rw[if_pos h19] at h0 |-
    have hz:g_ p c=aj p (c+1):=by unfold g_;rw[hx,if_neg aa]
    rw[if_neg (show ¬x.op=18 by omega),hz];obtain⟨news,g1,g2,g3,g4,g5,g6,g7⟩:=Fc sc wid upd n (c+1+k.size) E us (bits+aj p (c+1)) ha.2.2.2 h5 h0
    grind [IG]
   ·rw[if_neg h19] at h0 |-
    have h18:x.op=18:=aa
    have hz:g_ p c=aj p (c+2):=by unfold g_;rw[hx,if_pos h18]
    by_cases he:(bt p num E c sc).2.2.2=0
    ·rw[if_neg (λh=>h he)] at h0 |-
     rw[if_pos h18,hz];obtain⟨ya,yc,hy⟩:=xj he
     obtain⟨y,hyy⟩:∃ y,y=cV ya (p.getD c dN).op yc num c:=⟨_,rfl⟩
     rw[<-hyy] at hy;obtain⟨news,g1,g2,g3,g4,g5,g6,g7⟩:=Fc sc wid upd n (c+1+k.size) _ _ _ ha.2.2.2 h5 h0;generalize dI p num sc wid upd n (c+1+k.size) _ _ _=Q at*;rw[hy] at g5;have hk:Kp E ((E++[y]).set E.length (CE ((E++[y]).getD E.length eZ) bits (aj p (c+2)) wid upd)):=(Kp.app E y).set _ _ (Z02 _);have hl:=g5.len;rw[Z18,Z03,Z0n] at hl;refine⟨(E.length:Int)::news,ae,?_,?_,ae,hk.trans g5,?_,λk' k1 k2=>?_⟩
     ·rw[Z13,g2,Z0d]
      have e:=g5.sp (E.length:Int) aa ae;rw[e];unfold gQ;rw[Z12,jN aq,if_pos rfl];rfl
     ·grind
     ·unfold IG at g6 |-
      rw[Z2o,hx,if_pos (decide_eq_true h18),Z13,Z13,g6];have e:=g5.ob (E.length:Int) aa ae;rw[e];congr 1;unfold Am;rw[Z12,jN aq,if_pos rfl];have e2:(E++[y]).getD E.length eZ=y:=aq;rw[e2,hyy,hx,<-h18];rfl
     all_goals grind
    all_goals grind
def gF (p:List Nd) (l:List Nat):List Nat:=l.filter λi=>gV (p.getD i dN).op
theorem yK {t:Fo} {j:Nat} (ha:t.At p j) (hq:t.all λx=>gV x.op=false):gF p (List.range' j t.size)=[]:=by
 unfold gF;rw[Z4x]
 grind [Fo.all_at]
theorem qi {x:Nd} {k n:Fo} {j:Nat} (ha:(Fo.cons x k n).At p j):gF p (List.range' j (Fo.cons x k n).size)=(if gV x.op=true then [j] else [])++(gF p (List.range' (j+1) k.size)++gF p (List.range' (j+1+k.size) n.size)):=by
 have e:List.range' j (Fo.cons x k n).size=j::(List.range' (j+1) k.size++List.range' (j+1+k.size) n.size):=by
  simp only[Fo.size];rw[show 1+k.size+n.size=(k.size+n.size)+1 by omega,Z31,Z5z]
 grind [At.get,gF]
theorem vF {t:Fo}:t.all quiet->t.all λx=>gV x.op=false:=Fo.all_mono λx h=>by
 grind [quiet,gV]
theorem yR:∀ {t:Fo},t.V (List.replicate t.cnt (false,70))->t.all λx=>gV x.op=false
 | .nil,_=>trivial
 | .cons x k n,hv=>by
   have hv':=hv;simp only[Fo.cnt,Z16] at hv';obtain⟨⟨h1,h2,h3⟩,h4,h5⟩:=hv';have hop:=nE h1;refine⟨by grind [gV],vF (fj h4 λsl hsl=>?_),yR h5⟩;obtain⟨b,hb',rfl⟩:=Z1d.1 hsl
   grind [gw,iy]
theorem qF {c':Int}:∀ (ls:List Int) (t:Fo) (j:Nat),ls.all eI=true->t.At p j->t.V (ls.map (λc=>(false,c))++[(true,c')])->
 gF p (List.range' j t.size)=gF p (List.range' (j+ls.length+1) (am t).size)/\t.kid j (j+ls.length)=am t/\∀ i,j+ls.length+1<=i->i<j+ls.length+1+(am t).size->t.kid j i=(am t).kid (j+ls.length+1) i
 |[],t,j,_,ha,hv=>by
  obtain⟨y,bl,n,rfl,h1,h2,h3⟩:=jY hv;have:=iE h1;subst this;refine⟨?_,by simp only[Z0e,Z0p,Fo.kid,if_true];rfl,λi h4 h5=>?_⟩
  ·rw[qi ha,if_neg (by rw[h2];decide)]
   simp[gF,Fo.size,am]
  all_goals grind [am,Fo.kid]
 |c::ls,t,j,hl,ha,hv=>by
  simp only[Z1b,Z07] at hl;obtain⟨y,n,rfl,h1,hop⟩:=eN hl.1 hv
  have hn:n.At p (j+1):=by have:=ha.2.2.2;simpa [Fo.size] using this
  have hlb:am (.cons y .nil n)=am n:=by
   obtain⟨b,g3,_⟩:=aV ls n hl.2 h1
   cases n with
   |nil=>simp only[Fo.size] at g3;omega
   |cons a b c=>rfl
  obtain⟨q1,q2,q3⟩:=qF ls n (j+1) hl.2 hn h1;rw[hlb];have e:j+(c::ls).length=j+1+ls.length:=ae;rw[e]
  have hk:∀ i,j+1<=i->(Fo.cons y .nil n).kid j i=n.kid (j+1) i:=λi hi=>by
   grind [Fo.kid,Fo.size]
  refine⟨?_,ae,λi h4 h5=>by grind⟩;rw[qi ha,if_neg (by grind [gV])];simp only[Fo.size,Z50,Z0p,Z1e];exact q1
end
end
