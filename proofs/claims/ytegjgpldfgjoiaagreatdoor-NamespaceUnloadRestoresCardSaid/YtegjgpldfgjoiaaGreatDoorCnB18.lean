import Derived.Test.YtegjgpldfgjoiaaGreatDoorCnB17
import Derived.Test.YtegjgpldfgjoiaaGreatDoorCnB16
set_option linter.unusedSimpArgs false
set_option linter.unusedVariables false
namespace Go.Proofs.YtegjgpldfgjoiaaGreatDoor
open Go Ab
set_option maxRecDepth 100000
set_option maxHeartbeats 1000000
theorem nv {p:List Nd} {c':Int}:∀ (ls:List Int) (t:Fo) (i:Nat),(ls.all mW)=true->t.V (ls.map (fun c=>(false,c))++[(true,c')])->t.At p i->
 ∃ b bl,(Fo.cons b bl .nil).At p (i+ls.length)/\(Fo.cons b bl .nil).V [(true,c')]/\t.size=ls.length+1+bl.size
 |[],t,i,_,h,ha=>by
  obtain⟨y,bl,n,rfl,h1,h2,h3⟩:=vE h;have:=sm h1;subst this;exact⟨y,bl,ha,h,by simp only[Fo.size,List.length_nil];omega⟩
 |c::ls,t,i,hl,h,ha=>by
  simp only[List.all_cons,Bool.and_eq_true] at hl;obtain⟨y,n,rfl,h1,h2⟩:=pF hl.1 h;obtain⟨b,bl,g1,g2,g3⟩:=nv ls n (i+1) hl.2 h1 (by simpa [Fo.size] using ha.2.2.2)
  have e:i+1+ls.length=i+(c::ls).length:=by simp only[List.length_cons];omega
  rw[e] at g1;exact⟨b,bl,g1,g2,by simp only[Fo.size,List.length_cons];omega⟩
def gU (p:List Nd) (lim:Int):Nat->Nat->List (Nat×Nat)->List (Nat×Nat)
 |0,_,G=>G
 |c+1,j,G=>gU p lim c (j+1) (if (p.getD j dN).op=7/\lim<=ai p j then G++[(j,9)] else G)
theorem mf (p:List Nd) (lim:Int):∀ (c j:Nat) (G:List (Nat×Nat)),(gU p lim c j G).length<=G.length+c
 |0,_,_=>Nat.le_refl _
 |c+1,j,G=>by
  simp only[gU];have:=mf p lim c (j+1) (if (p.getD j dN).op=7/\lim<=ai p j then G++[(j,9)] else G)
  have h2:(if (p.getD j dN).op=7/\lim<=ai p j then G++[(j,9)] else G).length<=G.length+1:=by split<;>simp
  omega
def qu (p:List Nd) (bl:Fo) (i:Nat) (G:List (Nat×Nat)):List (Nat×Nat):=aM false bl (i+6) false true (gU p (ai p (i+2)) (bl.size+1) (i+5) G)
theorem GA (p:List Nd) (hp:p.length<=2048) (nD:Nat) (i:Nat) (b:Nd) (bl:Fo) (G:List (Nat×Nat)) (hend0:Ends p (i+6+bl.size) 1 i) (ha:(Fo.cons b bl .nil).At p (i+5)) (hv:(Fo.cons b bl .nil).V [(true,83)]) (hG:G.length+4*2048<=1000000000):
 FC Tryz.prog 179 [.s (.ptr (some (0,0))),nI i] 8 (stL p nD G) .any 10 (Gh p nD (qu p bl i G)):=by
 have hi5:=At.lt ha;have hsz:=At.size_le (Nat.le_of_lt hi5) ha;simp only[Fo.size] at hsz;have hend:=AB p hp i (i+6+bl.size) hend0;have hal:=mf p (ai p (i+2)) (bl.size+1) (i+5) G;have hst:=ui p hp nD (bl.size+1) b bl (i+5) false (gU p (ai p (i+2)) (bl.size+1) (i+5) G) (Nat.lt_succ_self _) ha hv (by omega);unfold qu;generalize hA:gU p (ai p (i+2)) (bl.size+1) (i+5) G=A at*;refine FC.walk (by kernel_rfl) Tryz.func179 rfl rfl ?_
 repeat'(first|refine Ex.canon [0,1,2,3,4,5,6,7,6,7] 52 [(0,.s (.ptr (some (0,0)))),(1,nI i),(4,nI (i+6+bl.size:Nat)),(5,nI (i+5:Nat))] [(0,some (anB p 3 nD 8 (G).length)),(8,dgB 8 (G))] rfl rfl ⟨VLe.refl _,VLe.refl _,VLe.refl _,VLe.of_eq (congrArg nI (by push_cast;rfl)),trivial⟩ ⟨rfl,MemP.op rfl trivial⟩ (by unfold dgB;generalize List.flatMap dgC _=cg;cases cg<;>rfl) (Ex.block ?_)|exact y0|refine y1 ?_|refine y2 ?_ ?_|(refine y8 ?_ ?_<;>intro h<;>try exact y6)|(refine wC ?_;first|(refine wF 227 ?_;refine CallG.mv [0] 0 hend rfl rfl ⟨VLe.refl _,VLe.refl _,trivial⟩ rfl rfl (fun φ w b=>BlAt.view 1 rfl) rfl ⟨⟨rfl,_,rfl,rfl,fun h=>h⟩,trivial⟩ rfl rfl rfl rfl ?_))|refine y3 ?_|refine y7 ?_ ?_|refine y4 ?_|(refine y9 ?_ ?_<;>intro h)|exact y5|fail)
 refine Ex.inv (σ:=Nat×Nat×List (Nat×Nat)) (fun q=>[(5,nI q.2.1)]) (fun q=>[(0,some (anB p 3 nD 8 (q.2.2).length)),(8,dgB 8 (q.2.2))])
  (fun q=>q.1+q.2.1=i+6+bl.size/\i+5<=q.2.1/\q.2.2.length+q.1<=G.length+(bl.size+1)/\gU p (ai p (i+2)) q.1 q.2.1 q.2.2=A) (fun q=>q.1) (bl.size+1,i+5,G) rfl (fun _=>rfl) ?_ ?_ ?_ ?_
 ·exact⟨by simp only;omega,Nat.le_refl _,Nat.le_refl _,hA⟩
 ·exact⟨VLe.refl _,trivial⟩
 ·exact⟨rfl,SubP.op rfl trivial⟩
 ·rintro⟨c,j,Gt⟩ ⟨t1,t2,t3,t4⟩
  simp only at t1 t2 t3 t4 |-
  cases c with
  |zero=>
   simp only[gU] at t4;subst t4
   repeat'(first|exact y0|refine y1 ?_|refine y2 ?_ ?_|(refine y8 ?_ ?_<;>intro h<;>try exact y6)|(refine wC ?_;first|(refine wF 229 ?_;refine CallG.mo [0,1,2,3,4,5,8,9] hst rfl (aT rfl rfl rfl) rfl rfl rfl ⟨VLe.refl _,VLe.of_eq (congrArg nI (by push_cast;rfl)),VLe.refl _,trivial⟩ ⟨⟨rfl,_,rfl,rfl,fun h=>h⟩,FitP.op rfl rfl trivial⟩ rfl rfl (wr:=[(0,some (anB p 3 nD 10 (aM false bl (i+5+1) false true Gt).length)),(8,none),(10,dgB 10 (aM false bl (i+5+1) false true Gt))]) (by show [_,_,_]=_;rw[ah];rfl) ?_))|refine y3 ?_|refine y7 ?_ ?_|refine y4 ?_|(refine y9 ?_ ?_<;>intro h)|exact y5|fail)
   all_goals try omega
   refine⟨.inr rfl,.tup [],[10,11],VLe.any _,EndOK.by rfl ?_ rfl ?_ rfl rfl⟩
   ·exact⟨rfl,MemP.op rfl trivial⟩
   ·exact aT rfl rfl rfl
  |succ c=>
   simp only[gU] at t4;by_cases hc:(p.getD j dN).op=7/\ai p (i+2)<=ai p j
   ·rw[if_pos hc] at t4
    obtain⟨hc1,hc2⟩:=hc;unfold ai at hc2
    repeat'(first|exact y0|refine y1 ?_|refine y2 ?_ ?_|(refine y8 ?_ ?_<;>intro h<;>try(first|(exact absurd hc2 (by assumption))|exact y6))|(refine wC ?_;first|(refine wF 117 ?_;refine CallG.mo [0,1,2,3,4,5,8,9] (bB p nD Gt j 9 (by omega)) rfl (aT rfl rfl rfl) rfl rfl rfl ⟨VLe.refl _,VLe.refl _,VLe.refl _,trivial⟩ ⟨⟨rfl,_,rfl,rfl,fun h=>h⟩,FitP.op rfl rfl trivial⟩ rfl rfl (wr:=[(0,some (anB p 3 nD 10 (Gt.length+1))),(8,none),(10,dgB 10 (Gt++[(j,9)]))]) (by show [_,_,_]=_;rw[ah];rfl) ?_))|refine y3 ?_|refine y7 ?_ ?_|refine y4 ?_|(refine y9 ?_ ?_<;>intro h)|exact y5|fail)
    all_goals try omega
    refine LoopR.move (c,j+1,Gt++[(j,9)]) ⟨by simp only;omega,by simp only;omega,by simp only[List.length_append,List.length_singleton];omega,t4⟩ (by simp only;omega) [0,1,2,3,4,5,6,7,10,11] rfl ?_ ?_ ?_
    ·repeat' (first|exact VLe.refl _|exact VLe.any _|exact True.intro|exact VLe.of_eq (congrArg nI (by push_cast;rfl))|refine⟨?_,?_⟩)
    ·rw[List.length_append,List.length_singleton]
     exact⟨rfl,MemP.op rfl trivial⟩
    ·(unfold dgB;generalize List.flatMap dgC _=cg;cases cg<;>rfl)
   ·rw[if_neg hc] at t4
    unfold ai at hc
    repeat'(first|exact y0|refine y1 ?_|refine y2 ?_ ?_|(refine y8 ?_ ?_<;>intro h<;>try(first|(exfalso;exact hc ⟨by assumption,by assumption⟩)|exact y6))|refine y3 ?_|refine y7 ?_ ?_|refine y4 ?_|(refine y9 ?_ ?_<;>intro h)|exact y5|fail)
    all_goals try omega
    all_goals
     refine LoopR.same (c,j+1,Gt) ⟨by simp only;omega,by simp only;omega,by simp only;omega,t4⟩ (by simp only;omega) rfl ⟨VLe.of_eq (congrArg nI (by push_cast;rfl)),trivial⟩ ⟨rfl,SubP.op rfl trivial⟩ rfl ?_ (by decide);exact aT rfl rfl rfl
set_option maxRecDepth 100000
set_option maxHeartbeats 1000000
abbrev scB (S:List Pth):Bl:={cells:=S.flatMap ptC,ty:=99,sym:=true,flat:=true}
theorem pS:∀ {T:List Pth} {i:Nat} {q:Pth},i<T.length->aU (T.flatMap ptC) (i*3) (ptC q)=(T.set i q).flatMap ptC
 |[],i,q,h=>by simp at h
 |p::T,0,q,_=>by
  simp only[List.flatMap_cons,List.set_cons_zero,Nat.zero_mul];have:=k9 (ptC q) [] (ptC p++T.flatMap ptC) (by simp[ptC])
  simpa [ptC] using this
 |p::T,i+1,q,h=>by
  simp only[List.flatMap_cons,List.set_cons_succ];have ih:=pS (T:=T) (i:=i) (q:=q) (by simpa using h)
  have e:(i+1)*3=(ptC p).length+i*3:=by simp[ptC];omega
  rw[e,<-ih]
  have h2:∀ (vs l pre:List S) (o:Nat),aU (pre++l) (pre.length+o) vs=pre++aU l o vs:=by
   intro vs
   induction vs with
   |nil=>intro l pre o;rfl
   |cons v vs ihv=>
    intro l pre o;simp only[aU];rw[List.set_append_right _ _ (by omega),Nat.add_sub_cancel_left,show pre.length+o+1=pre.length+(o+1) by omega,ihv]
  exact h2 _ _ _ _
abbrev anL (p:List Nd) (s:St):Hp:=[(0,some (anB p 3 s.D.length 6 s.G.length)),(1,some (scB s.S)),(3,dcB 3 s.D),(5,some (a_ s.F)),(6,dgB 6 s.G)]
abbrev F2 (p:List Nd) (s:St):Hp:=[(0,some (anB p 8 s.D.length 10 s.G.length)),(1,some (scB s.S)),(3,none),(6,none),(5,some (a_ s.F)),(8,dcB 8 s.D),(10,dgB 10 s.G)]
def BN (p:List Nd) (N:Nat):Prop:=∀ (x:Nd) (k:Fo) (c:Int) (i:Nat) (sc:Pth) (s:St),k.size<N->(c=68\/c=70)->(Fo.cons x k .nil).At p i->(Fo.cons x k .nil).V [(false,c)]->s.S.length=p.length->s.D.length<=i->s.G.length<=i->
 FC Tryz.prog 173 [.s (.ptr (some (0,0))),nI i,ptV sc] 8 (anL p s) (nI (i+1+k.size:Nat)) 12 (F2 p (aO false (.cons x k .nil) i sc s))
theorem FQ (p:List Nd) (hp:p.length<=2048) (hw:wfN p) (N:Nat) (ih:BN p N):BN p (N+1):=by
 intro x k c i sc s hN hc ha hv hS hD hG;have hi:=At.lt ha;have hx:=At.get ha;obtain⟨hi1,hnm⟩:=jJ hc ha hv;have hpa:=iH p hw (i+1) hi1;have hend:=AB p hp i (i+1+k.size) (At.ends1 ha)
 have hse:(Tryz.prog.types[99]).size=3:=by kernel_rfl
 have hcat:dv 0 (cj i (Tryz.prog.types[99]).size)=i*3:=by rw[hse,aV,aX,Nat.zero_add]
 have hjn:=zU sc (ew k);rw[hnm] at hjn;generalize hhd:dD x (ew k) i sc s=hd;obtain⟨inner,s1⟩:=hd
 have hfin:aO false (.cons x k .nil) i sc s=if m6 x.op then aO true k (i+1) inner s1 else s1:=by simp only[aO,hhd]
 have hlen:=mZ x (ew k) i sc s;rw[hhd] at hlen;simp only at hlen;rw[hfin];unfold dD at hhd;rw[hnm] at hhd;rw[<-hx] at hhd;have hjr:= @ie sc (aq (p.getD (i+1) dN).str).1;generalize bp sc (aq (p.getD (i+1) dN).str).1=jj at*;obtain⟨jp,jok⟩:=jj;refine FC.walk (by kernel_rfl) Tryz.func173 rfl rfl ?_
 repeat'(first|exact y0|refine y1 ?_|refine y2 ?_ ?_|(refine y8 ?_ ?_<;>intro h<;>try exact y6)|refine y3 ?_|refine y7 ?_ ?_|refine y4 ?_|(refine y9 ?_ ?_<;>intro h)|exact y5|fail)
 ·refine RegX.sto [.cells ((s.S.set i sc).flatMap ptC)] rfl rfl ⟨?_,?_⟩ rfl ?_
  ·rw[hcat];show i*3+3<=(s.S.flatMap ptC).length
   rw[bP];omega
  ·rw[hcat];exact (pS (by omega)).symm
  repeat'(first|refine Ex.cutB 0 107 14 [(0,.s (.ptr (some (0,0)))),(1,nI i),(7,.s (.ptr (some (9,0)))),(8,nI (p.getD i dN).op)] [(0,some (anB p 10 s1.D.length 12 s1.G.length)),(1,some (scB s1.S)),(5,some (a_ s1.F)),(9,some {cells:=ptC inner,ty:=99}),(10,dcB 10 s1.D),(12,dgB 12 s1.G)] rfl ?_ ?_|exact y0|refine y1 ?_|refine y2 ?_ ?_|(refine y8 ?_ ?_<;>intro h<;>try exact y6)|refine y3 ?_|refine y7 ?_ ?_|refine y4 ?_|(refine y9 ?_ ?_<;>intro h)|exact y5|fail)
  ·cases jok
   ·rw[if_pos ‹(p.getD i dN).op=10›,if_neg (by simp)] at hhd
    cases hhd
    repeat'(first|exact y0|refine y1 ?_|refine y2 ?_ ?_|(refine y8 ?_ ?_<;>intro h<;>try exact y6)|(refine wC ?_;first|(refine wF 178 ?_;refine CallG.mv [0] 0 hpa rfl rfl ⟨VLe.refl _,VLe.of_eq (congrArg nI (by push_cast;rfl)),trivial⟩ rfl rfl (fun φ w b=>BlAt.view 1 rfl) rfl ⟨⟨rfl,_,rfl,rfl,fun h=>h⟩,trivial⟩ rfl rfl rfl rfl ?_)|refine wF 95 (pu hjn ?_)|(refine wF 117 ?_;refine CallG.mo [0,1,2,3,4,5,6,7] (bB p s.D.length s.G i 2 (by omega)) rfl (aT rfl rfl rfl) rfl rfl rfl ⟨VLe.refl _,VLe.refl _,VLe.refl _,trivial⟩ ⟨⟨rfl,_,rfl,rfl,fun h=>h⟩,FitP.op rfl rfl trivial⟩ rfl rfl (wr:=[(0,some (anB p 3 s.D.length 11 (s.G.length+1))),(6,none),(11,dgB 11 (s.G++[(i,2)]))]) (by show [_,_,_]=_;rw[ah];rfl) ?_))|refine y3 ?_|refine y7 ?_ ?_|refine y4 ?_|(refine y9 ?_ ?_<;>intro h)|exact y5|fail)
    all_goals try omega
    rw[show (St.rep (s.sc i sc) i 2).G.length=s.G.length+1 from by simp[St.rep,St.sc]];refine CutR.at [0,1,2,3,4,5,6,7,8,9,3,4,11,12] rfl rfl ⟨VLe.refl _,VLe.refl _,VLe.refl _,VLe.refl _,trivial⟩ ⟨rfl,rfl,rfl,rfl,MemP.op rfl (MemP.op rfl trivial)⟩ ?_
    (unfold dcB dgB;generalize List.flatMap dcC _=cd;generalize List.flatMap dgC _=cg;cases cd<;>cases cg<;>rfl)
   ·rw[if_pos ‹(p.getD i dN).op=10›,if_pos rfl] at hhd
    cases hhd
    repeat'(first|exact y0|refine y1 ?_|refine y2 ?_ ?_|(refine y8 ?_ ?_<;>intro h<;>try exact y6)|(refine wC ?_;first|(refine wF 178 ?_;refine CallG.mv [0] 0 hpa rfl rfl ⟨VLe.refl _,VLe.of_eq (congrArg nI (by push_cast;rfl)),trivial⟩ rfl rfl (fun φ w b=>BlAt.view 1 rfl) rfl ⟨⟨rfl,_,rfl,rfl,fun h=>h⟩,trivial⟩ rfl rfl rfl rfl ?_)|refine wF 95 (pu hjn ?_))|refine y3 ?_|refine y7 ?_ ?_|refine y4 ?_|(refine y9 ?_ ?_<;>intro h)|exact y5|fail)
    all_goals try omega
    refine CutR.at [0,1,2,3,4,5,6,7,8,9,3,4,6,7] rfl rfl ⟨VLe.refl _,VLe.refl _,VLe.refl _,VLe.refl _,trivial⟩ ⟨rfl,rfl,rfl,rfl,MemP.op rfl (MemP.op rfl trivial)⟩ ?_
    (unfold dcB dgB;generalize List.flatMap dcC _=cd;generalize List.flatMap dgC _=cg;cases cd<;>cases cg<;>rfl)
  ·rw[if_neg (by omega),if_pos (by omega)] at hhd
   cases hhd;refine CutR.at [0,1,2,3,4,5,6,7,8,9,3,4,6,7] rfl rfl ⟨VLe.refl _,VLe.refl _,VLe.refl _,VLe.refl _,trivial⟩ ⟨rfl,rfl,rfl,rfl,MemP.op rfl (MemP.op rfl trivial)⟩ ?_
   (unfold dcB dgB;generalize List.flatMap dcC _=cd;generalize List.flatMap dgC _=cg;cases cd<;>cases cg<;>rfl)
  ·rw[if_neg (by omega),if_pos (by omega)] at hhd
   cases hhd;refine CutR.at [0,1,2,3,4,5,6,7,8,9,3,4,6,7] rfl rfl ⟨VLe.refl _,VLe.refl _,VLe.refl _,VLe.refl _,trivial⟩ ⟨rfl,rfl,rfl,rfl,MemP.op rfl (MemP.op rfl trivial)⟩ ?_
   (unfold dcB dgB;generalize List.flatMap dcC _=cd;generalize List.flatMap dgC _=cg;cases cd<;>cases cg<;>rfl)
  ·rw[if_neg (by omega),if_pos (by omega)] at hhd
   cases hhd;refine CutR.at [0,1,2,3,4,5,6,7,8,9,3,4,6,7] rfl rfl ⟨VLe.refl _,VLe.refl _,VLe.refl _,VLe.refl _,trivial⟩ ⟨rfl,rfl,rfl,rfl,MemP.op rfl (MemP.op rfl trivial)⟩ ?_
   (unfold dcB dgB;generalize List.flatMap dcC _=cd;generalize List.flatMap dgC _=cg;cases cd<;>cases cg<;>rfl)
  ·cases jok
   ·rw[if_neg (by omega),if_neg (by omega),if_neg (by simp)] at hhd
    cases hhd
    repeat'(first|exact y0|refine y1 ?_|refine y2 ?_ ?_|(refine y8 ?_ ?_<;>intro h<;>try exact y6)|(refine wC ?_;first|(refine wF 178 ?_;refine CallG.mv [0] 0 hpa rfl rfl ⟨VLe.refl _,VLe.of_eq (congrArg nI (by push_cast;rfl)),trivial⟩ rfl rfl (fun φ w b=>BlAt.view 1 rfl) rfl ⟨⟨rfl,_,rfl,rfl,fun h=>h⟩,trivial⟩ rfl rfl rfl rfl ?_)|refine wF 95 (pu hjn ?_)|(refine wF 117 ?_;refine CallG.mo [0,1,2,3,4,5,6,7] (bB p s.D.length s.G i 2 (by omega)) rfl (aT rfl rfl rfl) rfl rfl rfl ⟨VLe.refl _,VLe.refl _,VLe.refl _,trivial⟩ ⟨⟨rfl,_,rfl,rfl,fun h=>h⟩,FitP.op rfl rfl trivial⟩ rfl rfl (wr:=[(0,some (anB p 3 s.D.length 11 (s.G.length+1))),(6,none),(11,dgB 11 (s.G++[(i,2)]))]) (by show [_,_,_]=_;rw[ah];rfl) ?_))|refine y3 ?_|refine y7 ?_ ?_|refine y4 ?_|(refine y9 ?_ ?_<;>intro h)|exact y5|fail)
    all_goals try omega
    rw[show (St.rep (s.sc i sc) i 2).G.length=s.G.length+1 from by simp[St.rep,St.sc]];refine CutR.at [0,1,2,3,4,5,6,7,8,9,3,4,11,12] rfl rfl ⟨VLe.refl _,VLe.refl _,VLe.refl _,VLe.refl _,trivial⟩ ⟨rfl,rfl,rfl,rfl,MemP.op rfl (MemP.op rfl trivial)⟩ ?_
    (unfold dcB dgB;generalize List.flatMap dcC _=cd;generalize List.flatMap dgC _=cg;cases cd<;>cases cg<;>rfl)
   ·rw[if_neg (by omega),if_neg (by omega),if_pos rfl] at hhd
    have hf:=lV jp (hjr rfl)
    repeat'(first|exact y0|refine y1 ?_|refine y2 ?_ ?_|(refine y8 ?_ ?_<;>intro h<;>try exact y6)|(refine wC ?_;first|(refine wF 178 ?_;refine CallG.mv [0] 0 hpa rfl rfl ⟨VLe.refl _,VLe.of_eq (congrArg nI (by push_cast;rfl)),trivial⟩ rfl rfl (fun φ w b=>BlAt.view 1 rfl) rfl ⟨⟨rfl,_,rfl,rfl,fun h=>h⟩,trivial⟩ rfl rfl rfl rfl ?_)|refine wF 95 (pu hjn ?_)|refine wF 50 (pu hf ?_)|(refine wF 226 ?_;refine CallG.mo [0,1,2,3,4,5,6,7] (wU p s.D s.F s.G i (aL jp) hi (by omega) (by omega)) rfl (aT (t:=[(5,some (a_ s.F)),(6,dgB 6 s.G)]) rfl rfl (aT rfl rfl rfl)) rfl rfl rfl ⟨VLe.refl _,VLe.refl _,VLe.refl _,trivial⟩ ⟨⟨rfl,_,rfl,rfl,fun h=>h⟩,FitP.op rfl rfl ⟨⟨rfl,_,rfl,rfl,fun h=>h⟩,FitP.op rfl rfl trivial⟩⟩ rfl rfl (wr:=[(0,some (anB p 11 (s.D.length+1) 13 (l7 s.F s.G (aL jp) i).length)),(3,none),(6,none),(5,some (a_ (rK s.F (aL jp) i))),(11,dcB 11 (s.D++[⟨aL jp,(p.getD i dN).op,i⟩])),(13,dgB 13 (l7 s.F s.G (aL jp) i))]) (by show [_,_,_,_,_,_]=_;rw[ah,ah];rfl) ?_))|refine y3 ?_|refine y7 ?_ ?_|refine y4 ?_|(refine y9 ?_ ?_<;>intro h)|exact y5|fail)
    all_goals try omega
    all_goals
     first
      |rw[if_pos (by omega)] at hhd
      |rw[if_neg (by omega)] at hhd
     cases hhd;rw[show (St.dec (s.sc i sc) i (aL jp) (p.getD i dN).op).D.length=s.D.length+1 from by simp[St.dec,St.sc]];refine CutR.at [0,1,2,3,4,5,6,7,8,9,11,12,13,14] rfl rfl ⟨VLe.refl _,VLe.refl _,VLe.refl _,VLe.refl _,trivial⟩ ⟨rfl,rfl,rfl,rfl,MemP.op rfl (MemP.op rfl trivial)⟩ ?_
     (unfold dcB dgB;generalize List.flatMap dcC _=cd;generalize List.flatMap dgC _=cg;cases cd<;>cases cg<;>rfl)
  ·have hbl:m6 x.op=decide ((p.getD i dN).op=10\/(p.getD i dN).op=11\/(p.getD i dN).op=12\/(p.getD i dN).op=16\/(p.getD i dN).op=17):=by rw[hx];rfl
   cases hb:m6 x.op
   ·rw[hb] at hbl
    have hbl:=of_decide_eq_false hbl.symm;simp only[Bool.false_eq_true,if_false]
    repeat'(first|refine Ex.cutS 21 107 14 [(0,.s (.ptr (some (0,0)))),(1,nI i),(7,.s (.ptr (some (9,0)))),(13,nI (i+1+k.size:Nat)),(83,bV false)] [(0,some (anB p 10 s1.D.length 12 s1.G.length)),(1,some (scB s1.S)),(5,some (a_ s1.F)),(9,some {cells:=ptC inner,ty:=99}),(10,dcB 10 s1.D),(12,dgB 12 s1.G)] rfl ?_ ?_|exact y0|refine y1 ?_|refine y2 ?_ ?_|(refine y8 ?_ ?_<;>intro h<;>try exact y6)|(refine wC ?_;first|(refine wF 227 ?_;refine CallG.mv [0] 0 hend rfl rfl ⟨VLe.refl _,VLe.refl _,trivial⟩ rfl rfl (fun φ w b=>BlAt.view 1 rfl) rfl ⟨⟨rfl,_,rfl,rfl,fun h=>h⟩,trivial⟩ rfl rfl rfl rfl ?_))|refine y3 ?_|refine y7 ?_ ?_|refine y4 ?_|(refine y9 ?_ ?_<;>intro h)|exact y5|fail)
    all_goals try omega
    ·refine CutR.at [0,1,2,3,4,5,6,7,8,9,10,11,12,13] rfl rfl ⟨VLe.refl _,VLe.refl _,VLe.refl _,VLe.refl _,VLe.refl _,trivial⟩ ⟨rfl,rfl,rfl,rfl,MemP.op rfl (MemP.op rfl trivial)⟩ ?_
     (unfold dcB dgB;generalize List.flatMap dcC _=cd;generalize List.flatMap dgC _=cg;cases cd<;>cases cg<;>rfl)
    ·refine⟨.inl rfl,_,[10,11,12,13],VLe.refl _,EndOK.by rfl ?_ rfl ?_ rfl rfl⟩
     ·exact⟨rfl,rfl,rfl,MemP.op rfl (MemP.op rfl trivial)⟩
     ·(unfold F2 dcB dgB;generalize List.flatMap dcC _=cd;generalize List.flatMap dgC _=cg;cases cd<;>cases cg<;>rfl)
   ·rw[hb] at hbl
    have hbl:=of_decide_eq_true hbl.symm;simp only[if_true];obtain⟨m,c',bl,hm4,hc',hblV,hblA,hks,hkc,hst,hdec⟩:=AM ha hv hb;have hcs:=bX k (i+1);have hchn:=At.chain ha.2.2.1
    have hkid:(p.getD i dN).kids=((k.starts (i+1)).length:Nat):=by rw[hx,hcs];exact ha.2.1
    rw[hkc] at hcs;generalize k.starts (i+1)=cs at*;have hsz:=At.size_le (Nat.le_of_lt (At.lt ha)) ha;simp only[Fo.size] at hsz;have hch:=ef p hp i (i+1+k.size) hi cs hkid hchn (by omega)
    have hk1:(cs.length:Int)-1=(m:Nat):=by omega
    repeat'(first|refine Ex.cutS 21 107 14 [(0,.s (.ptr (some (0,0)))),(1,nI i),(7,.s (.ptr (some (9,0)))),(13,nI (i+1+k.size:Nat)),(83,bV true)] [(0,some (anB p 10 s1.D.length 12 s1.G.length)),(1,some (scB s1.S)),(5,some (a_ s1.F)),(9,some {cells:=ptC inner,ty:=99}),(10,dcB 10 s1.D),(12,dgB 12 s1.G)] rfl ?_ ?_|exact y0|refine y1 ?_|refine y2 ?_ ?_|(refine y8 ?_ ?_<;>intro h<;>try exact y6)|(refine wC ?_;first|(refine wF 227 ?_;refine CallG.mv [0] 0 hend rfl rfl ⟨VLe.refl _,VLe.refl _,trivial⟩ rfl rfl (fun φ w b=>BlAt.view 1 rfl) rfl ⟨⟨rfl,_,rfl,rfl,fun h=>h⟩,trivial⟩ rfl rfl rfl rfl ?_)|(refine wF 228 ?_;refine CallG.mv [0] 0 hch rfl rfl ⟨VLe.refl _,VLe.refl _,trivial⟩ rfl rfl (fun φ w b=>BlAt.view 1 rfl) rfl ⟨⟨rfl,_,rfl,rfl,fun h=>h⟩,trivial⟩ rfl rfl rfl rfl ?_))|refine y3 ?_|refine y7 ?_ ?_|refine y4 ?_|(refine y9 ?_ ?_<;>intro h)|exact y5|fail)
    all_goals try omega
    all_goals try (refine CutR.at [0,1,2,3,4,5,6,7,8,9,10,11,12,13] rfl rfl ⟨VLe.refl _,VLe.refl _,VLe.refl _,VLe.refl _,VLe.refl _,trivial⟩ ⟨rfl,rfl,rfl,rfl,MemP.op rfl (MemP.op rfl trivial)⟩ ?_;(unfold dcB dgB;generalize List.flatMap dcC _=cd;generalize List.flatMap dgC _=cg;cases cd<;>cases cg<;>rfl))
    refine RegX.chunkN 4 rfl rfl ?_ (RegX.eqv 95 (congrArg nI hk1) rfl ?_)
    all_goals
     repeat'(first|exact y0|refine y1 ?_|refine y2 ?_ ?_|(refine y8 ?_ ?_<;>intro h<;>try exact y6)|refine y3 ?_|refine y7 ?_ ?_|refine y4 ?_|(refine y9 ?_ ?_<;>intro h)|exact y5|fail)
    all_goals try omega
    refine Ex.inv (σ:=Fo×Nat×St) (fun q=>[(15,nI q.2.1)]) (fun q=>[(0,some (anB p 10 q.2.2.D.length 12 q.2.2.G.length)),(1,some (scB q.2.2.S)),(5,some (a_ q.2.2.F)),(9,some {cells:=ptC inner,ty:=99}),(10,dcB 10 q.2.2.D),(12,dgB 12 q.2.2.G)])
     (fun q=>q.1.At p q.2.1/\q.1.V (List.replicate q.1.cnt (false,c'))/\(i+2<=q.2.1/\q.2.1+q.1.size=i+1+k.size)/\q.2.2.S.length=p.length/\q.2.2.D.length<=q.2.1/\q.2.2.G.length<=q.2.1/\aO false q.1 q.2.1 inner q.2.2=aO true k (i+1) inner s1) (fun q=>q.1.size) (bl,i+1+m+1,s1) rfl (fun _=>rfl) ?_ ?_ ?_ ?_
    ·refine⟨hblA,hblV,⟨by simp only;omega,by simp only;omega⟩,by simp only;omega,by simp only;omega,by simp only;omega,(hdec inner s1).symm⟩
    ·exact⟨VLe.of_eq (congrArg nI (by rw[hst];push_cast;rfl)),trivial⟩
    ·exact⟨rfl,rfl,rfl,rfl,SubP.op rfl (SubP.op rfl trivial)⟩
    ·rintro⟨t,j,st⟩ ⟨t1,t2,⟨t0,t3⟩,t4,t5,t6,t7⟩
     simp only at t0 t1 t2 t3 t4 t5 t6 t7 |-
     cases t with
     |nil=>
      simp only[Fo.size,Nat.add_zero] at t3;subst t3;simp only[aO] at t7;rw[<-t7]
      repeat'(first|exact y0|refine y1 ?_|refine y2 ?_ ?_|(refine y8 ?_ ?_<;>intro h<;>try exact y6)|refine y3 ?_|refine y7 ?_ ?_|refine y4 ?_|(refine y9 ?_ ?_<;>intro h)|exact y5|fail)
      refine⟨.inl rfl,_,[10,11,12,13],VLe.refl _,EndOK.by rfl ?_ rfl ?_ rfl rfl⟩
      ·exact⟨rfl,rfl,rfl,MemP.op rfl (MemP.op rfl trivial)⟩
      ·(unfold F2 dcB dgB;generalize List.flatMap dcC _=cd;generalize List.flatMap dgC _=cg;cases cd<;>cases cg<;>rfl)
     |cons x' k' n'=>
      simp only[Fo.size] at t3
      have hr:aO false (.cons x' k' n') j inner st=aO false n' (j+1+k'.size) inner (aO false (.cons x' k' .nil) j inner st):=by simp only[aO]
      rw[hr] at t7;have hl:=bh false (.cons x' k' .nil) j inner st;simp only[Fo.size,Nat.add_zero] at hl;have hrec:=ih x' k' c' j inner st (by omega) hc' ⟨t1.1,t1.2.1,t1.2.2.1,trivial⟩ ⟨t2.1,t2.2.1,trivial⟩ t4 t5 t6;generalize aO false (.cons x' k' .nil) j inner st=st' at*
      have k2:okH 8 (anL p st)=true:=by (unfold anL dcB dgB;generalize List.flatMap dcC _=cd;generalize List.flatMap dgC _=cg;cases cd<;>cases cg<;>rfl)
      repeat'(first|exact y0|refine y1 ?_|refine y2 ?_ ?_|(refine y8 ?_ ?_<;>intro h<;>try exact y6)|(refine wC ?_;first|(refine wF 173 ?_;refine CallG.mo [0,1,2,10,11,5,12,13] hrec rfl k2 rfl rfl rfl ⟨VLe.refl _,VLe.refl _,VLe.refl _,trivial⟩ ⟨⟨rfl,_,rfl,rfl,fun h=>h⟩,⟨rfl,_,rfl,rfl,fun h=>h⟩,FitP.op rfl rfl ⟨⟨rfl,_,rfl,rfl,fun h=>h⟩,FitP.op rfl rfl trivial⟩⟩ rfl rfl (wr:=[(0,some (anB p 14 st'.D.length 16 st'.G.length)),(1,some (scB st'.S)),(10,none),(12,none),(5,some (a_ st'.F)),(14,dcB 14 st'.D),(16,dgB 16 st'.G)]) (by show [_,_,_,_,_,_,_]=_;rw[ah,ah];rfl) ?_))|refine y3 ?_|refine y7 ?_ ?_|refine y4 ?_|(refine y9 ?_ ?_<;>intro h)|exact y5|fail)
      all_goals try omega
      refine LoopR.move (n',j+1+k'.size,st') ⟨t1.2.2.2,t2.2.2,⟨by simp only;omega,by simp only;omega⟩,by simp only;omega,by simp only;omega,by simp only;omega,t7⟩ (by simp only[Fo.size];omega) [0,1,2,3,4,5,6,7,8,9,14,15,16,17] rfl ?_ ?_ ?_
      ·repeat' (first|exact VLe.refl _|exact VLe.any _|exact True.intro|refine⟨?_,?_⟩)
      ·exact⟨rfl,rfl,rfl,rfl,MemP.op rfl (MemP.op rfl trivial)⟩
      ·(unfold dcB dgB;generalize List.flatMap dcC _=cd;generalize List.flatMap dgC _=cg;cases cd<;>cases cg<;>rfl)
theorem rI (p:List Nd) (hp:p.length<=2048) (hw:wfN p):∀ N,BN p N
 |0=>fun x k c i sc s h=>absurd h (Nat.not_lt_zero _)
 |N+1=>FQ p hp hw N (rI p hp hw N)
set_option maxRecDepth 100000
set_option maxHeartbeats 1000000
theorem li (p:List Nd) (F:List (By×Nat)) (op:Int):∀ cs:List Pth,dt p F op cs= -1\/∃ i:Nat,dt p F op cs=(i:Int)/\(p.getD i dN).op=op/\∃ k,(k,i)∈F
 |[]=> .inl rfl
 |c::t=>by
  simp only[dt];split
  ·rename_i i hi
   split
   ·exact .inr ⟨i,rfl,‹_›,_,oN hi⟩
   ·exact .inl rfl
  ·exact li p F op t
theorem eT {T:List Pth} {i:Nat} (h:i<T.length):gi true 3 (scB T) (i*3)=some (ptV (T.getD i z0)):=by
 unfold gi
 have hle:i*3+3<=(T.flatMap ptC).length:=by rw[bP];omega
 have e:((T.flatMap ptC).drop (i*3)).take 3=ptC (T.getD i z0):=by
  apply List.ext_getElem?;intro j;rw[List.getElem?_take,List.getElem?_drop];split
  ·rename_i hj
   cases hx:(ptC (T.getD i z0))[j]? with
   |none=>exfalso;rw[List.getElem?_eq_none_iff] at hx;simp[ptC] at hx;omega
   |some x=>exact (iG h hx).1
  ·rename_i hj
   rw[List.getElem?_eq_none];simp[ptC];omega
 have hb:Nat.ble (i*3+3) (scB T).cells.length=true:=Nat.ble_eq_true_of_le hle;show (match Nat.ble (i*3+3) (scB T).cells.length with|true=>some (V.agg (((scB T).cells.drop (i*3)).take 3))|false=>none)=_;rw[hb];show some (V.agg (((T.flatMap ptC).drop (i*3)).take 3))=_;rw[e]
theorem jT {φ:Ph} {w:World} {b:Nat×Nat} {p:List Nd} {nD g nG:Nat} (h:BlAt φ w b (anB p 3 nD g nG)):
 BlAt φ w b {cells:=[.frz (fun k=>ndC (p.getD k dN)) 4 p.length,.unk,.unk,.map (some 5)],ty:=186,more:=true,ro:=true}:=
 BlAt.cells (bl:=DM 4 (anB p 3 nD g nG)) ⟨SLe.refl _,fun _ _ h=>h.cell rfl,fun _ _ h=>h.cell rfl,SLe.refl _,trivial⟩ (BlAt.view 4 rfl h)
def cW (p:List Nd) (len w:Int):Fo->Nat->Int->List (Nat×Nat)->List (Nat×Nat)
 | .nil,_,_,G=>G
 | .cons x k n,i,bit,G=>
   if bU p i then G
   else if x.op=19 then cW p len w n (i+1+k.size) (bit+ai p (i+1)) G
   else cW p len w n (i+1+k.size) (bit+ai p (i+2)) (if len<((bit+ai p (i+2)-1).tdiv (8*w)+1)*w then G++[(i,7)] else G)
theorem gZ (p:List Nd) (len w:Int):∀ (t:Fo) (i:Nat) (bit:Int) (G:List (Nat×Nat)),(cW p len w t i bit G).length<=G.length+t.size
 | .nil,_,_,_=>Nat.le_refl _
 | .cons x k n,i,bit,G=>by
   simp only[cW,Fo.size];split
   ·omega
   ·split
    ·have:=gZ p len w n (i+1+k.size) (bit+ai p (i+1)) G;omega
    ·have:=gZ p len w n (i+1+k.size) (bit+ai p (i+2)) (if len<((bit+ai p (i+2)-1).tdiv (8*w)+1)*w then G++[(i,7)] else G)
     have h2:(if len<((bit+ai p (i+2)-1).tdiv (8*w)+1)*w then G++[(i,7)] else G).length<=G.length+1:=by split<;>simp
     omega
def gv (p:List Nd) (F:List (By×Nat)) (sc:Pth) (bl:Fo) (i:Nat) (G:List (Nat×Nat)):List (Nat×Nat):=
 if dt p F 15 (bK sc (aq (p.getD (i+1) dN).str).1)<0 then G++[(i,6)]
 else if bU p (dt p F 15 (bK sc (aq (p.getD (i+1) dN).str).1)).toNat||bU p i then G
 else cW p (ai p ((dt p F 15 (bK sc (aq (p.getD (i+1) dN).str).1)).toNat+4)) (ai p (i+2)) bl (i+5) 0 G
abbrev ndL (p:List Nd) (nD:Nat) (T:List Pth) (F:List (By×Nat)) (G:List (Nat×Nat)):Hp:=[(0,some (anB p 3 nD 6 G.length)),(1,some (scB T)),(5,some (a_ F)),(6,dgB 6 G)]
abbrev dw (p:List Nd) (nD:Nat) (T:List Pth) (F:List (By×Nat)) (G:List (Nat×Nat)):Hp:=[(0,some (anB p 3 nD 8 G.length)),(1,some (scB T)),(5,some (a_ F)),(6,none),(8,dgB 8 G)]
theorem BZ {a b:Int} (h:0<=a) (hb:0<b):0<=a.tdiv b/\a.tdiv b<=a:=by
 rw[Int.tdiv_eq_ediv_of_nonneg h];exact⟨Int.ediv_nonneg h (Int.le_of_lt hb),Int.ediv_le_self _ h⟩
theorem Fa {q w:Int} (h:w=1\/w=2\/w=4\/w=8) (hq:0<=q):0<=q*w/\q*w<=8*q:=by
 rcases h with rfl|rfl|rfl|rfl<;>omega
theorem Da (p:List Nd) (hp:p.length<=2048) (hw:wfN p) (hI:wfI p) (hn:∀ j,j<p.length->gY p j) (nD:Nat) (T:List Pth) (hT:T.length=p.length) (hTl:∀ q∈T,q.segs.length<=1000000) (F:List (By×Nat)) (hF:∀ x∈F,x.2<p.length)
 (i:Nat) (hop:(p.getD i dN).op=16) (b:Nd) (bl:Fo) (G:List (Nat×Nat)) (ha:(Fo.cons b bl .nil).At p (i+4)) (hv:(Fo.cons b bl .nil).V [(true,70)]) (hG:G.length+4*2048<=1000000000):
 FC Tryz.prog 176 [.s (.ptr (some (0,0))),nI i] 8 (ndL p nD T F G) .any 10 (dw p nD T F (gv p F (T.getD i z0) bl i G)):=by
 have hi4:=At.lt ha;have hsz:=At.size_le (Nat.le_of_lt hi4) ha;simp only[Fo.size] at hsz;have hpa:=iH p hw (i+1) (by omega);have hTg:(T.getD i z0).segs.length<=1000000:=hTl _ (by rw[List.getD_eq_getElem?_getD,List.getElem?_eq_getElem (by omega)];exact List.getElem_mem _);have hrs:=jq p hp F hF (T.getD i z0) (aq (p.getD (i+1) dN).str).1 hTg 15;have hri:=qn p hp hI i (hn i (by omega))
 have hse:(Tryz.prog.types[99]).size=3:=by kernel_rfl
 have hcat:dv 0 (cj i (Tryz.prog.types[99]).size)=i*3:=by rw[hse,aV,aX,Nat.zero_add]
 unfold gv;have hcase:=li p F 15 (bK (T.getD i z0) (aq (p.getD (i+1) dN).str).1);generalize dt p F 15 (bK (T.getD i z0) (aq (p.getD (i+1) dN).str).1)=reg at*;refine FC.walk (by kernel_rfl) Tryz.func176 rfl rfl ?_
 rcases hcase with rfl|⟨rg,rfl,hrop,key,hmem⟩
 ·rw[if_pos (by decide)]
  repeat'(first|exact y0|refine y1 ?_|refine y2 ?_ ?_|(refine y8 ?_ ?_<;>intro h<;>try exact y6)|(refine wC ?_;first|(refine wF 178 ?_;refine CallG.mv [0] 0 hpa rfl rfl ⟨VLe.refl _,VLe.of_eq (congrArg nI (by push_cast;rfl)),trivial⟩ rfl rfl (fun φ w b=>BlAt.view 1 rfl) rfl ⟨⟨rfl,_,rfl,rfl,fun h=>h⟩,trivial⟩ rfl rfl rfl rfl ?_)|(refine wF 177 ?_;refine CallG.mv [0,5] 0 hrs rfl rfl ⟨VLe.refl _,VLe.refl _,VLe.refl _,VLe.refl _,trivial⟩ rfl rfl (fun φ w b=>jT) rfl ⟨⟨rfl,_,rfl,rfl,fun h=>h⟩,⟨rfl,_,rfl,rfl,fun _=>rfl⟩,trivial⟩ rfl rfl rfl rfl ?_)|(refine wF 117 ?_;refine CallG.mo [0,1,2,3,4,5,6,7] (bB p nD G i 6 (by omega)) rfl (aT rfl rfl rfl) rfl rfl rfl ⟨VLe.refl _,VLe.refl _,VLe.refl _,trivial⟩ ⟨⟨rfl,_,rfl,rfl,fun h=>h⟩,FitP.op rfl rfl trivial⟩ rfl rfl (wr:=[(0,some (anB p 3 nD 8 (G.length+1))),(6,none),(8,dgB 8 (G++[(i,6)]))]) (by show [_,_,_]=_;rw[ah];rfl) ?_))|refine RegX.ldS [.val (ptV (T.getD i z0))] rfl rfl ?_ rfl ?_|refine y3 ?_|refine y7 ?_ ?_|refine y4 ?_|(refine y9 ?_ ?_<;>intro h)|exact y5|fail)
  ·rw[hcat,hse];exact eT (by omega)
  ·unfold dw
   rw[List.length_append,List.length_singleton];refine⟨.inl rfl,.tup [],[8,9],VLe.any _,EndOK.by rfl ?_ rfl ?_ rfl rfl⟩
   ·exact⟨rfl,rfl,rfl,MemP.op rfl trivial⟩
   ·(unfold dgB;generalize List.flatMap dgC _=cg;cases cg<;>rfl)
 ·have hrl:rg<p.length:=hF _ hmem
  have hrn:=hn rg hrl;have hr4:=hrn.2.1 (.inr (.inl hrop));have hrr:=qn p hp hI rg hrn;rw[if_neg (by omega),Int.toNat_natCast];cases hb1:bU p rg
  ·cases hb2:bU p i
   ·rw[hb1] at hrr
    rw[hb2] at hri;simp only[Bool.or_self,Bool.false_eq_true,if_false]
    have hw4:ai p (i+2)=1\/ai p (i+2)=2\/ai p (i+2)=4\/ai p (i+2)=8:=by
     unfold bU at hb2;simp only[hop] at hb2;simp only[show ¬((16:Int)=12) by decide,show ¬((16:Int)=14) by decide,show ¬((16:Int)=20) by decide,show ¬((16:Int)=15) by decide,if_false,if_true] at hb2;unfold pD at hb2;split at hb2
     ·assumption
     ·cases hb2
    have hcs:=bX bl (i+5)
    have hkid:(p.getD (i+4) dN).kids=((bl.starts (i+5)).length:Nat):=by rw[At.get ha,hcs];exact ha.2.1
    have hcc:=Fo.cnt_le bl;have hch:=ef p hp (i+4) (i+4+1+bl.size) hi4 (bl.starts (i+5)) hkid (At.chain ha.2.2.1) (by omega);have hbA:=ha.2.2.1;have hbV:=hv.2.1;generalize hcsd:bl.starts (i+5)=cs at hcs hkid hch
    repeat'(first|refine Ex.canonB 0 [0,1,2,3,4,5,6,7,6,7] 113 [(0,.s (.ptr (some (0,0)))),(5,nU (ai p (rg+4))),(6,nU (ai p (i+2))),(7,nU 0),(58,.s (mY cs)),(59,nI cs.length),(60,nI 0)] [(0,some (anB p 3 nD 8 (G).length)),(1,some (scB T)),(5,some (a_ F)),(8,dgB 8 (G))] rfl rfl ?_ ?_ ?_ ?_|exact y0|refine y1 ?_|refine y2 ?_ ?_|(refine y8 ?_ ?_<;>intro h<;>try exact y6)|(refine wC ?_;first|(refine wF 178 ?_;refine CallG.mv [0] 0 hpa rfl rfl ⟨VLe.refl _,VLe.of_eq (congrArg nI (by push_cast;rfl)),trivial⟩ rfl rfl (fun φ w b=>BlAt.view 1 rfl) rfl ⟨⟨rfl,_,rfl,rfl,fun h=>h⟩,trivial⟩ rfl rfl rfl rfl ?_)|(refine wF 177 ?_;refine CallG.mv [0,5] 0 hrs rfl rfl ⟨VLe.refl _,VLe.refl _,VLe.refl _,VLe.refl _,trivial⟩ rfl rfl (fun φ w b=>jT) rfl ⟨⟨rfl,_,rfl,rfl,fun h=>h⟩,⟨rfl,_,rfl,rfl,fun _=>rfl⟩,trivial⟩ rfl rfl rfl rfl ?_)|(refine wF 116 ?_;refine CallG.mv [0] 0 hrr rfl rfl ⟨VLe.refl _,VLe.refl _,trivial⟩ rfl rfl (fun φ w b=>BlAt.view 1 rfl) rfl ⟨⟨rfl,_,rfl,rfl,fun h=>h⟩,trivial⟩ rfl rfl rfl rfl ?_)|(refine wF 116 ?_;refine CallG.mv [0] 0 hri rfl rfl ⟨VLe.refl _,VLe.refl _,trivial⟩ rfl rfl (fun φ w b=>BlAt.view 1 rfl) rfl ⟨⟨rfl,_,rfl,rfl,fun h=>h⟩,trivial⟩ rfl rfl rfl rfl ?_)|(refine wF 228 ?_;refine CallG.mv [0] 0 hch rfl rfl ⟨VLe.refl _,VLe.of_eq (congrArg nI (by push_cast;rfl)),trivial⟩ rfl rfl (fun φ w b=>BlAt.view 1 rfl) rfl ⟨⟨rfl,_,rfl,rfl,fun h=>h⟩,trivial⟩ rfl rfl rfl rfl ?_))|refine RegX.ldS [.val (ptV (T.getD i z0))] rfl rfl ?_ rfl ?_|refine y3 ?_|refine y7 ?_ ?_|refine y4 ?_|(refine y9 ?_ ?_<;>intro h)|exact y5|fail)
    all_goals try first
     |omega
     |(rw[hcat,hse];exact eT (by omega))
    rotate_left 1
    ·exact⟨VLe.refl _,VLe.refl _,VLe.refl _,VLe.refl _,VLe.refl _,VLe.refl _,VLe.refl _,trivial⟩
    ·exact⟨rfl,rfl,rfl,MemP.op rfl trivial⟩
    ·(unfold dgB;generalize List.flatMap dgC _=cg;cases cg<;>rfl)
    generalize hU:cW p (ai p (rg+4)) (ai p (i+2)) bl (i+5) 0 G=U at*;generalize ai p (i+2)=w at*;generalize ai p (rg+4)=len at*
    refine Ex.inv (σ:=Fo×Nat×Nat×Int×List (Nat×Nat)) (fun q=>[(7,nU q.2.2.2.1),(60,nI q.2.2.1)]) (fun q=>[(0,some (anB p 3 nD 8 (q.2.2.2.2).length)),(1,some (scB T)),(5,some (a_ F)),(8,dgB 8 (q.2.2.2.2))])
     (fun q=>q.1.At p q.2.1/\q.1.V (List.replicate q.1.cnt (false,70))/\(i+5<=q.2.1/\q.2.1+q.1.size=i+5+bl.size)/\q.2.2.1+q.1.cnt=cs.length/\cs.drop q.2.2.1=q.1.starts q.2.1/\(0<=q.2.2.2.1/\q.2.2.2.1<=q.2.2.1*8388608)/\q.2.2.2.2.length+q.1.size<=1000000000/\cW p len w q.1 q.2.1 q.2.2.2.1 q.2.2.2.2=U) (fun q=>q.1.size) (bl,i+5,0,0,G) rfl (fun _=>rfl) ?_ ?_ ?_ ?_
    ·exact⟨hbA,hbV,⟨Nat.le_refl _,rfl⟩,by simp only;omega,by simp only[List.drop_zero,hcsd],⟨Int.le_refl _,by simp⟩,by simp only;omega,hU⟩
    ·exact⟨VLe.refl _,VLe.refl _,trivial⟩
    ·exact⟨rfl,rfl,rfl,SubP.op rfl trivial⟩
    ·rintro⟨t,cur,idx,bit,Gt⟩ ⟨t1,t2,⟨t0,t3⟩,t4,t5,⟨b1,b2⟩,t6,t7⟩
     simp only at t0 t1 t2 t3 t4 t5 b1 b2 t6 t7 |-
     cases t with
     |nil=>
      simp only[Fo.cnt,Nat.add_zero] at t4;simp only[cW] at t7;rw[<-t7]
      repeat'(first|exact y0|refine y1 ?_|refine y2 ?_ ?_|(refine y8 ?_ ?_<;>intro h<;>try exact y6)|refine y3 ?_|refine y7 ?_ ?_|refine y4 ?_|(refine y9 ?_ ?_<;>intro h)|exact y5|fail)
      all_goals try omega
      refine⟨.inr rfl,.tup [],[8,9],VLe.any _,EndOK.by rfl ?_ rfl ?_ rfl rfl⟩
      ·exact⟨rfl,rfl,rfl,MemP.op rfl trivial⟩
      ·(unfold dw dgB;generalize List.flatMap dgC _=cg;cases cg<;>rfl)
     |cons x ks n=>
      simp only[Fo.size] at t3 t6;simp only[Fo.cnt] at t4
      have hcur:cs.getD idx 0=cur:=by
       have:(cs.drop idx)[0]? =some cur:=by rw[t5];rfl
       rw[List.getElem?_drop,Nat.add_zero] at this;rw[List.getD_eq_getElem?_getD,this];rfl
      have hnext:cs.drop (idx+1)=n.starts (cur+1+ks.size):=by
       rw[<-List.drop_drop,t5];rfl
      have hcl:=At.lt t1;have hcx:=At.get t1;have hcn:=hn cur hcl;have hco:=qn p hp hI cur hcn
      have hxop:x.op=18\/x.op=19:=by
       have h:=t2.1.1;unfold dI at h;simp[cO] at h;exact h
      simp only[cW] at t7
      have h8:0<=8*w/\8*w<18446744073709551616/\8*w≠0:=by omega
      repeat'(first|exact y0|refine y1 ?_|refine y2 ?_ ?_|(refine y8 ?_ ?_<;>intro h<;>try exact y6)|refine y3 ?_|refine y7 ?_ ?_|refine y4 ?_|(refine y9 ?_ ?_<;>intro h)|exact y5|fail)
      all_goals try omega
      rw[hcur];cases hoc:bU p cur
      ·rw[hoc] at hco t7
       simp only[Bool.false_eq_true,if_false] at t7
       rcases hxop with hx|hx
       ·have h18:(p.getD cur dN).op=18:=by rw[hcx];exact hx
        rw[if_neg (by omega)] at t7
        have hb:1<=ai p (cur+2)/\ai p (cur+2)<=256:=by
         have h0:0<=ai p (cur+2):=cH hI (cur+2);unfold bU at hoc
         repeat (first|rw[if_pos (by omega)] at hoc|rw[if_neg (by omega)] at hoc)
         simp only[Bool.or_eq_false_iff,decide_eq_false_iff_not] at hoc;omega
        have hn2:cur+2<p.length:=hcn.2.2.2.1 (.inr (.inl h18));have A1:=ac (z:=bit+ai p (cur+2)) (by omega) (by omega);have A2:=ac (z:=bit+ai p (cur+2)-1) (by omega) (by omega);have A3:=ac (z:=8*w) h8.1 h8.2.1;have hQ:=BZ (a:=bit+ai p (cur+2)-1) (b:=8*w) (by omega) (by omega);have hM:=Fa (q:=(bit+ai p (cur+2)-1).tdiv (8*w)+1) hw4 (by omega);have A4:=ac (z:=(bit+ai p (cur+2)-1).tdiv (8*w)) hQ.1 (by omega);have A5:=ac (z:=(bit+ai p (cur+2)-1).tdiv (8*w)+1) (by omega) (by omega);have A6:=ac (z:=((bit+ai p (cur+2)-1).tdiv (8*w)+1)*w) hM.1 (by omega);by_cases hlt:len<((bit+ai p (cur+2)-1).tdiv (8*w)+1)*w
        ·rw[if_pos hlt] at t7
         repeat'(first|exact y0|refine y1 ?_|refine y2 ?_ ?_|(refine y8 ?_ ?_<;>intro h<;>try(first|(exact absurd hlt (by assumption))|exact y6))|(refine wC ?_;first|(refine wF 116 ?_;refine CallG.mv [0] 0 hco rfl rfl ⟨VLe.refl _,VLe.refl _,trivial⟩ rfl rfl (fun φ w b=>BlAt.view 1 rfl) rfl ⟨⟨rfl,_,rfl,rfl,fun h=>h⟩,trivial⟩ rfl rfl rfl rfl ?_)|(refine wF 117 ?_;refine CallG.mo [0,1,2,3,4,5,8,9] (bB p nD Gt cur 7 (by omega)) rfl (aT rfl rfl rfl) rfl rfl rfl ⟨VLe.refl _,VLe.refl _,VLe.refl _,trivial⟩ ⟨⟨rfl,_,rfl,rfl,fun h=>h⟩,FitP.op rfl rfl trivial⟩ rfl rfl (wr:=[(0,some (anB p 3 nD 10 (Gt.length+1))),(8,none),(10,dgB 10 (Gt++[(cur,7)]))]) (by show [_,_,_]=_;rw[ah];rfl) ?_))|refine y3 ?_|refine y7 ?_ ?_|refine y4 ?_|(refine y9 ?_ ?_<;>intro h)|exact y5|fail)
         all_goals try first
          |omega
          |exact hn2
          |exact A1
          |exact A2
          |exact A3
          |exact A4
          |exact A5
          |exact A6
          |exact h8.2.2
         refine LoopR.move (n,cur+1+ks.size,idx+1,bit+ai p (cur+2),Gt++[(cur,7)]) ⟨t1.2.2.2,t2.2.2,⟨by simp only;omega,by simp only;omega⟩,by simp only;omega,hnext,⟨by simp only;omega,by simp only;push_cast;omega⟩,by simp only[List.length_append,List.length_singleton];omega,t7⟩ (by simp only[Fo.size];omega) [0,1,2,3,4,5,6,7,10,11] rfl ?_ ?_ ?_
         ·repeat' (first|exact VLe.refl _|exact VLe.any _|exact True.intro|refine⟨?_,?_⟩)
         ·rw[List.length_append,List.length_singleton]
          exact⟨rfl,rfl,rfl,MemP.op rfl trivial⟩
         ·(unfold dgB;generalize List.flatMap dgC _=cg;cases cg<;>rfl)
        ·rw[if_neg hlt] at t7
         repeat'(first|exact y0|refine y1 ?_|refine y2 ?_ ?_|(refine y8 ?_ ?_<;>intro h<;>try(first|(exact absurd (by assumption) hlt)|exact y6))|(refine wC ?_;first|(refine wF 116 ?_;refine CallG.mv [0] 0 hco rfl rfl ⟨VLe.refl _,VLe.refl _,trivial⟩ rfl rfl (fun φ w b=>BlAt.view 1 rfl) rfl ⟨⟨rfl,_,rfl,rfl,fun h=>h⟩,trivial⟩ rfl rfl rfl rfl ?_))|refine y3 ?_|refine y7 ?_ ?_|refine y4 ?_|(refine y9 ?_ ?_<;>intro h)|exact y5|fail)
         all_goals try first
          |omega
          |exact hn2
          |exact A1
          |exact A2
          |exact A3
          |exact A4
          |exact A5
          |exact A6
          |exact h8.2.2
         refine LoopR.same (n,cur+1+ks.size,idx+1,bit+ai p (cur+2),Gt) ⟨t1.2.2.2,t2.2.2,⟨by simp only;omega,by simp only;omega⟩,by simp only;omega,hnext,⟨by simp only;omega,by simp only;push_cast;omega⟩,by simp only;omega,t7⟩ (by simp only[Fo.size];omega) rfl ⟨VLe.refl _,VLe.refl _,trivial⟩ ⟨rfl,rfl,rfl,SubP.op rfl trivial⟩ rfl ?_ (by decide)
         (unfold dgB;generalize List.flatMap dgC _=cg;cases cg<;>rfl)
       ·have h19:(p.getD cur dN).op=19:=by rw[hcx];exact hx
        rw[if_pos hx] at t7;have h0:0<=ai p (cur+1):=cH hI (cur+1)
        have hb:ai p (cur+1)<=8388608:=by
         unfold bU at hoc
         repeat (first|rw[if_pos (by omega)] at hoc|rw[if_neg (by omega)] at hoc)
         simp only[decide_eq_false_iff_not] at hoc;omega
        have hn1:cur+1<p.length:=hcn.2.2.2.2.1 (.inl h19);have A1:=ac (z:=bit+ai p (cur+1)) (by omega) (by omega)
        repeat'(first|exact y0|refine y1 ?_|refine y2 ?_ ?_|(refine y8 ?_ ?_<;>intro h<;>try exact y6)|(refine wC ?_;first|(refine wF 116 ?_;refine CallG.mv [0] 0 hco rfl rfl ⟨VLe.refl _,VLe.refl _,trivial⟩ rfl rfl (fun φ w b=>BlAt.view 1 rfl) rfl ⟨⟨rfl,_,rfl,rfl,fun h=>h⟩,trivial⟩ rfl rfl rfl rfl ?_))|refine y3 ?_|refine y7 ?_ ?_|refine y4 ?_|(refine y9 ?_ ?_<;>intro h)|exact y5|fail)
        all_goals try first
         |omega
         |exact hn1
         |exact A1
        refine LoopR.same (n,cur+1+ks.size,idx+1,bit+ai p (cur+1),Gt) ⟨t1.2.2.2,t2.2.2,⟨by simp only;omega,by simp only;omega⟩,by simp only;omega,hnext,⟨by simp only;omega,by simp only;push_cast;omega⟩,by simp only;omega,t7⟩ (by simp only[Fo.size];omega) rfl ⟨VLe.refl _,VLe.refl _,trivial⟩ ⟨rfl,rfl,rfl,SubP.op rfl trivial⟩ rfl ?_ (by decide)
        (unfold dgB;generalize List.flatMap dgC _=cg;cases cg<;>rfl)
      ·rw[hoc] at hco t7
       simp only[if_true] at t7;rw[<-t7]
       repeat'(first|exact y0|refine y1 ?_|refine y2 ?_ ?_|(refine y8 ?_ ?_<;>intro h<;>try exact y6)|(refine wC ?_;first|(refine wF 116 ?_;refine CallG.mv [0] 0 hco rfl rfl ⟨VLe.refl _,VLe.refl _,trivial⟩ rfl rfl (fun φ w b=>BlAt.view 1 rfl) rfl ⟨⟨rfl,_,rfl,rfl,fun h=>h⟩,trivial⟩ rfl rfl rfl rfl ?_))|refine y3 ?_|refine y7 ?_ ?_|refine y4 ?_|(refine y9 ?_ ?_<;>intro h)|exact y5|fail)
       all_goals try omega
       refine⟨.inl rfl,.tup [],[8,9],VLe.any _,EndOK.by rfl ?_ rfl ?_ rfl rfl⟩
       ·exact⟨rfl,rfl,rfl,MemP.op rfl trivial⟩
       ·(unfold dw dgB;generalize List.flatMap dgC _=cg;cases cg<;>rfl)
   ·rw[hb1] at hrr
    rw[hb2] at hri;simp only[Bool.or_true,if_true]
    repeat'(first|exact y0|refine y1 ?_|refine y2 ?_ ?_|(refine y8 ?_ ?_<;>intro h<;>try exact y6)|(refine wC ?_;first|(refine wF 178 ?_;refine CallG.mv [0] 0 hpa rfl rfl ⟨VLe.refl _,VLe.of_eq (congrArg nI (by push_cast;rfl)),trivial⟩ rfl rfl (fun φ w b=>BlAt.view 1 rfl) rfl ⟨⟨rfl,_,rfl,rfl,fun h=>h⟩,trivial⟩ rfl rfl rfl rfl ?_)|(refine wF 177 ?_;refine CallG.mv [0,5] 0 hrs rfl rfl ⟨VLe.refl _,VLe.refl _,VLe.refl _,VLe.refl _,trivial⟩ rfl rfl (fun φ w b=>jT) rfl ⟨⟨rfl,_,rfl,rfl,fun h=>h⟩,⟨rfl,_,rfl,rfl,fun _=>rfl⟩,trivial⟩ rfl rfl rfl rfl ?_)|(refine wF 116 ?_;refine CallG.mv [0] 0 hrr rfl rfl ⟨VLe.refl _,VLe.refl _,trivial⟩ rfl rfl (fun φ w b=>BlAt.view 1 rfl) rfl ⟨⟨rfl,_,rfl,rfl,fun h=>h⟩,trivial⟩ rfl rfl rfl rfl ?_)|(refine wF 116 ?_;refine CallG.mv [0] 0 hri rfl rfl ⟨VLe.refl _,VLe.refl _,trivial⟩ rfl rfl (fun φ w b=>BlAt.view 1 rfl) rfl ⟨⟨rfl,_,rfl,rfl,fun h=>h⟩,trivial⟩ rfl rfl rfl rfl ?_))|refine RegX.ldS [.val (ptV (T.getD i z0))] rfl rfl ?_ rfl ?_|refine y3 ?_|refine y7 ?_ ?_|refine y4 ?_|(refine y9 ?_ ?_<;>intro h)|exact y5|fail)
    all_goals try first
     |omega
     |(rw[hcat,hse];exact eT (by omega))
    refine⟨.inl rfl,.tup [],[6,7],VLe.any _,EndOK.move rfl ?_ rfl ?_ rfl ?_ ?_⟩
    ·exact⟨rfl,rfl,rfl,MemP.op rfl trivial⟩
    ·(unfold dw dgB;generalize List.flatMap dgC _=cg;cases cg<;>rfl)
    ·(unfold dw dgB;generalize List.flatMap dgC _=cg;cases cg<;>rfl)
    ·(unfold dw dgB;generalize List.flatMap dgC _=cg;cases cg<;>rfl)
  ·rw[hb1] at hrr
   simp only[Bool.true_or,if_true]
   repeat'(first|exact y0|refine y1 ?_|refine y2 ?_ ?_|(refine y8 ?_ ?_<;>intro h<;>try exact y6)|(refine wC ?_;first|(refine wF 178 ?_;refine CallG.mv [0] 0 hpa rfl rfl ⟨VLe.refl _,VLe.of_eq (congrArg nI (by push_cast;rfl)),trivial⟩ rfl rfl (fun φ w b=>BlAt.view 1 rfl) rfl ⟨⟨rfl,_,rfl,rfl,fun h=>h⟩,trivial⟩ rfl rfl rfl rfl ?_)|(refine wF 177 ?_;refine CallG.mv [0,5] 0 hrs rfl rfl ⟨VLe.refl _,VLe.refl _,VLe.refl _,VLe.refl _,trivial⟩ rfl rfl (fun φ w b=>jT) rfl ⟨⟨rfl,_,rfl,rfl,fun h=>h⟩,⟨rfl,_,rfl,rfl,fun _=>rfl⟩,trivial⟩ rfl rfl rfl rfl ?_)|(refine wF 116 ?_;refine CallG.mv [0] 0 hrr rfl rfl ⟨VLe.refl _,VLe.refl _,trivial⟩ rfl rfl (fun φ w b=>BlAt.view 1 rfl) rfl ⟨⟨rfl,_,rfl,rfl,fun h=>h⟩,trivial⟩ rfl rfl rfl rfl ?_))|refine RegX.ldS [.val (ptV (T.getD i z0))] rfl rfl ?_ rfl ?_|refine y3 ?_|refine y7 ?_ ?_|refine y4 ?_|(refine y9 ?_ ?_<;>intro h)|exact y5|fail)
   all_goals try first
    |omega
    |(rw[hcat,hse];exact eT (by omega))
   refine⟨.inl rfl,.tup [],[6,7],VLe.any _,EndOK.move rfl ?_ rfl ?_ rfl ?_ ?_⟩
   ·exact⟨rfl,rfl,rfl,MemP.op rfl trivial⟩
   ·(unfold dw dgB;generalize List.flatMap dgC _=cg;cases cg<;>rfl)
   ·(unfold dw dgB;generalize List.flatMap dgC _=cg;cases cg<;>rfl)
   ·(unfold dw dgB;generalize List.flatMap dgC _=cg;cases cg<;>rfl)
end Go.Proofs.YtegjgpldfgjoiaaGreatDoor
