import Derived.Test.YtbokilgdefkmiaaGreatDoorCzB30
set_option linter.unusedSimpArgs false
set_option linter.unusedVariables false
namespace Go.Proofs.YtbokilgdefkmiaaGreatDoor
open Go Ab
set_option maxRecDepth 100000
set_option maxHeartbeats 1000000
theorem at_L {p:List Nd} {E:List Nat} {C:Cd} (Λ:Lp):LpAt (slL p E C Λ) 3 5 6 Λ.K Λ:=by
 rcases Λ with w|⟨K,mm,st,B⟩
 ·cases w
  ·trivial
  ·rfl
 ·exact⟨rfl,rfl⟩
theorem subP_H {p:List Nd} {E:List Nat} {D:Cd} {m:Nat} {s:S} (Λ:Lp):SubP ((0,some (cdB p E 9 m s))::(9,ccB 9 D)::Λ.h 11 13 14) ((0,some (cdB p E 9 m s))::(9,ccB 9 D)::Λ.h 11 13 14):=by
 refine⟨rfl,SubP.op rfl ?_⟩
 rcases Λ with w|⟨K,mm,st,B⟩
 ·cases w
  ·trivial
  ·exact⟨rfl,trivial⟩
 ·exact⟨rfl,rfl,trivial⟩
theorem Lp.ok_le {Λ:Lp} {C:Cd} {n n':Nat} (h:Λ.ok C n) (hn:n'≤n):Λ.ok C n':=by
 rcases Λ with w0|⟨K,mm,st,B0⟩
 ·trivial
 ·exact⟨h.1,h.2.1,h.2.2.1,h.2.2.2.1,h.2.2.2.2.1,by have:=h.2.2.2.2.2;omega⟩
def Lp.lk (Λ:Lp) (t:Fo):Prop:=∀ w,Λ=.out w→lpK 0 t
def ST (p:List Nd) (E:List Nat) (N:Nat):Prop:=∀ (x:Nd) (k:Fo) (i:Nat) (Λ:Lp) (lp:Int) (C:Cd) (B:List Nat),k.size<N→(Fo.cons x k .nil).At p i→(Fo.cons x k .nil).V [(false,83)]→Λ.mt lp B→Λ.ok C (k.size+1)→Λ.lk (.cons x k .nil)→C.length+3*k.size+3≤900000000→
 FC Tryz.prog 64 [.s (.ptr (some (0,0))),nI i] 9 (slL p E C Λ) .any 15 (slL' p E (stE x k (stmC 1 k) (stmC 3 k) lp C B).1 Λ (Λ.af (whE x (whB 1 k) (whB 3 k)) (stE x k (stmC 1 k) (stmC 3 k) lp C B).2))
def BL (p:List Nd) (E:List Nat) (N:Nat):Prop:=∀ (x:Nd) (k:Fo) (i:Nat) (Λ:Lp) (lp:Int) (C:Cd) (B:List Nat),k.size<N→(Fo.cons x k .nil).At p i→k.V (List.replicate k.cnt (false,83))→Λ.mt lp B→Λ.ok C k.size→Λ.lk k→C.length+3*k.size≤900000000→
 FC Tryz.prog 37 [.s (.ptr (some (0,0))),nI i] 9 (slL p E C Λ) .any 15 (slL' p E (stmC 0 k lp C B).1 Λ (Λ.af (whB 0 k) (stmC 0 k lp C B).2))
theorem block_c (p:List Nd) (hp:p.length≤2048) (E:List Nat) (hE:EOK p E) (N:Nat) (ih:ST p E N):BL p E (N+1):=by
 intro x k i Λ lp C B hN ha hv hmt ho hlk hC;have hi:=At.lt ha;have hei:=hE.get ha;have hel:=hE.len;have hsz:=At.size_le (Nat.le_of_lt hi) ha;simp only[Fo.size] at hsz;have hka:=ha.2.2.1;have hZ:=Lp.ok_Z ho;refine FC.walk (by kernel_rfl) Tryz.func37 rfl rfl ?_
 rcases hΛ:Λ with (_|_)|⟨K,mm,st,B0⟩
 all_goals
  repeat'(first|refine Ex.canon [0,1,2,3,4,5,6,7,8,1,2,3,4,5,6] 26 [(0,.s (.ptr (some (0,0)))),(1,nI i),(4,nI (i+1))] ((0,some (cdB p E 9 C.length (Λ.s 11)))::(9,ccB 9 C)::Λ.h 11 13 14) rfl rfl ⟨VLe.refl _,VLe.refl _,VLe.refl _,trivial⟩ (memP_st 1 3 5 6 rfl rfl rfl rfl rfl rfl rfl hZ (by rw[hΛ];rfl) rfl (by rw[hΛ];exact at_L _)) (okSt_st (c:=1) (l:=3) (b:=5) rfl rfl rfl rfl rfl rfl rfl rfl hZ) ?_|exact y0|refine y1 ?_|refine y2 ?_ ?_|(refine y8 ?_ ?_<;>intro h<;>try exact y6)|refine y3 ?_|refine y7 ?_ ?_|refine y4 ?_|(refine y9 ?_ ?_<;>intro h)|exact y5|fail)
  rw[←hΛ];clear hΛ
 all_goals
  refine Ex.inv (σ:=Fo×Nat×Cd×Bool×List Nat) (fun q=>[(4,nI q.2.1)]) (fun q=>(0,some (cdB p E 9 q.2.2.1.length ((Λ.af q.2.2.2.1 q.2.2.2.2).s 11)))::(9,ccB 9 q.2.2.1)::(Λ.af q.2.2.2.1 q.2.2.2.2).h 11 13 14)
   (fun q=>q.1.At p q.2.1∧q.1.V (List.replicate q.1.cnt (false,83))∧(i+1≤q.2.1∧q.2.1+q.1.size=i+1+k.size)∧q.2.2.1.length+3*q.1.size≤900000000∧stmC 0 q.1 lp q.2.2.1 q.2.2.2.2=stmC 0 k lp C B∧(q.2.2.2.1||whB 0 q.1)=whB 0 k∧(Λ.af q.2.2.2.1 q.2.2.2.2).mt lp q.2.2.2.2∧(Λ.af q.2.2.2.1 q.2.2.2.2).ok q.2.2.1 q.1.size∧Λ.lk q.1) (fun q=>q.1.size) (k,i+1,C,false,B) rfl (fun _=>rfl) ⟨hka,hv,⟨Nat.le_refl _,rfl⟩,hC,rfl,rfl,Lp.af_mt hmt _ _,by simp only;rw[Lp.af_0 hmt];exact ho,hlk⟩ ⟨VLe.refl _,trivial⟩ (by simp only;rw[Lp.af_0 hmt];exact subP_H Λ) ?_
  rintro⟨u,cur,D,w,Bt⟩ ⟨t1,t2,⟨t3,t4⟩,t5,t6,t7,t8,t9,t10⟩;simp only at t1 t2 t3 t4 t5 t6 t7 t8 t9 t10 ⊢;have hZt:=Lp.ok_Z t9
  cases u with
  |nil=>
   simp only[Fo.size] at t4;have t6:(D,Bt)=stmC 0 k lp C B:=t6;have t7:(w||false)=whB 0 k:=t7;rw[Bool.or_false] at t7;rw[←t6,←t7];generalize Λ.af w Bt=Λt at*
   rcases hq:Λt with (_|_)|⟨K,mm,st,B0⟩
   all_goals
    repeat'(first|exact y0|refine y1 ?_|refine y2 ?_ ?_|(refine y8 ?_ ?_<;>intro h<;>try exact y6)|refine y3 ?_|refine y7 ?_ ?_|refine y4 ?_|(refine y9 ?_ ?_<;>intro h)|exact y5|fail)
    refine Fin.st 9 11 13 14 Λt (.inr rfl) (by rw[hq];rfl) rfl (by rw[hq];first|exact trivial|exact rfl|exact⟨rfl,rfl⟩) rfl rfl hZt rfl hq
  |cons y ky n=>
   simp only[Fo.size] at t4 t5 t9;have hcl:=At.lt t1;have hec:=hE.get t1;rw[Fo.cnt,List.replicate_succ] at t2;have hgr:=stE_g y ky lp D Bt;have e0:stmC 0 (.cons y ky n) lp D Bt=stmC 0 n lp (stE y ky (stmC 1 ky) (stmC 3 ky) lp D Bt).1 (stE y ky (stmC 1 ky) (stmC 3 ky) lp D Bt).2:=rfl;have e1:whB 0 (.cons y ky n)=(whE y (whB 1 ky) (whB 3 ky)||whB 0 n):=rfl;rw[e0] at t6;rw[e1,←Bool.or_assoc] at t7;have hL2:=Lp.af_af Λ w (whE y (whB 1 ky) (whB 3 ky)) Bt (stE y ky (stmC 1 ky) (stmC 3 ky) lp D Bt).2
   have hok2:(Λ.af (w||whE y (whB 1 ky) (whB 3 ky)) (stE y ky (stmC 1 ky) (stmC 3 ky) lp D Bt).2).ok (stE y ky (stmC 1 ky) (stmC 3 ky) lp D Bt).1 n.size:=by
    rw[←hL2];exact Lp.af_ok t8 t9 hgr (by omega) _
   have hmt2:(Λ.af (w||whE y (whB 1 ky) (whB 3 ky)) (stE y ky (stmC 1 ky) (stmC 3 ky) lp D Bt).2).mt lp (stE y ky (stmC 1 ky) (stmC 3 ky) lp D Bt).2:=by
    rw[←hL2];exact Lp.af_mt t8 _ _
   have hlk1:(Λ.af w Bt).lk (.cons y ky .nil):=fun w' hw'=>by
    rcases Λ with w0|⟨K,mm,st,B0⟩
    ·have:=t10 w0 rfl
     exact⟨this.1,this.2.1,trivial⟩
    ·cases hw'
   have hlk2:Λ.lk n:=fun w' hw'=>(t10 w' hw').2.2
   have hst:=ih y ky cur (Λ.af w Bt) lp D Bt (by omega) ⟨t1.1,t1.2.1,t1.2.2.1,trivial⟩ ⟨t2.1,t2.2.1,trivial⟩ t8 (Lp.ok_le t9 (by omega)) hlk1 (by omega);have hlR:=hgr.le;have hZ2:=Lp.ok_Z hok2;generalize stE y ky (stmC 1 ky) (stmC 3 ky) lp D Bt=Rr at*;generalize whE y (whB 1 ky) (whB 3 ky)=w1 at*;generalize Λ.af w Bt=Λt at*
   obtain⟨W,hW⟩:∃ W,W=(w||w1):=⟨_,rfl⟩
   rw[←hW] at t7 hL2 hok2 hmt2 hZ2
   rcases hq:Λt with (_|_)|⟨K,mm,st,B0⟩
   ·rw[hq] at hst hL2 hZt
    rcases w1 with _|_
    all_goals
     repeat'(first|exact y0|refine y1 ?_|refine y2 ?_ ?_|(refine y8 ?_ ?_<;>intro h<;>try exact y6)|(refine wC ?_;first|(refine wF 64 ?_;refine CallG.st 9 11 13 14 [] hst ⟨_,_,rfl⟩ trivial rfl rfl trivial rfl rfl rfl rfl ⟨VLe.refl _,VLe.refl _,trivial⟩ rfl rfl ?_))|refine y3 ?_|refine y7 ?_ ?_|refine y4 ?_|(refine y9 ?_ ?_<;>intro h)|exact y5|fail)
     all_goals try omega
     refine LoopR.move (n,cur+1+ky.size,Rr.1,W,Rr.2) ⟨t1.2.2.2,t2.2.2,⟨by simp only;omega,by simp only;omega⟩,by simp only;omega,t6,t7,hmt2,hok2,hlk2⟩ (by simp only[Fo.size];omega) [0,1,2,3,4,5,6,7,8,15,16,17,18,19,20] rfl ?_ ?_ ?_
     ·repeat' (first|exact VLe.refl _|exact VLe.any _|exact True.intro|exact VLe.of_eq (congrArg nI (by rw[hec]))|refine⟨?_,?_⟩)
     ·exact memP_st 15 17 19 20 rfl rfl rfl rfl rfl rfl rfl hZ2 (by rw[←hL2];rfl) rfl (by rw[←hL2];first|exact trivial|exact rfl)
     ·exact okSt_st (c:=15) (l:=17) (b:=19) rfl rfl rfl rfl rfl rfl rfl rfl hZ2
   ·rw[hq] at hst hL2 hZt
    rcases w1 with _|_
    all_goals
     repeat'(first|exact y0|refine y1 ?_|refine y2 ?_ ?_|(refine y8 ?_ ?_<;>intro h<;>try exact y6)|(refine wC ?_;first|(refine wF 64 ?_;refine CallG.st 9 11 13 14 [] hst ⟨_,_,rfl⟩ trivial rfl rfl rfl rfl rfl rfl rfl ⟨VLe.refl _,VLe.refl _,trivial⟩ rfl rfl ?_))|refine y3 ?_|refine y7 ?_ ?_|refine y4 ?_|(refine y9 ?_ ?_<;>intro h)|exact y5|fail)
     all_goals try omega
     refine LoopR.move (n,cur+1+ky.size,Rr.1,W,Rr.2) ⟨t1.2.2.2,t2.2.2,⟨by simp only;omega,by simp only;omega⟩,by simp only;omega,t6,t7,hmt2,hok2,hlk2⟩ (by simp only[Fo.size];omega) [0,1,2,3,4,5,6,7,8,15,16,17,18,19,20] rfl ?_ ?_ ?_
     ·repeat' (first|exact VLe.refl _|exact VLe.any _|exact True.intro|exact VLe.of_eq (congrArg nI (by rw[hec]))|refine⟨?_,?_⟩)
     ·exact memP_st 15 17 19 20 rfl rfl rfl rfl rfl rfl rfl hZ2 (by rw[←hL2];rfl) rfl (by rw[←hL2];exact rfl)
     ·exact okSt_st (c:=15) (l:=17) (b:=19) rfl rfl rfl rfl rfl rfl rfl rfl hZ2
   ·rw[hq] at hst hL2 hZt
    rcases w1 with _|_
    all_goals
     repeat'(first|exact y0|refine y1 ?_|refine y2 ?_ ?_|(refine y8 ?_ ?_<;>intro h<;>try exact y6)|(refine wC ?_;first|(refine wF 64 ?_;refine CallG.st 9 11 13 14 K hst ⟨_,_,rfl⟩ ⟨ZOK.all (K:=K) hZt 9,ZOK.map (K:=K) hZt _⟩ rfl rfl ⟨rfl,rfl⟩ rfl rfl rfl rfl ⟨VLe.refl _,VLe.refl _,trivial⟩ rfl rfl ?_))|refine y3 ?_|refine y7 ?_ ?_|refine y4 ?_|(refine y9 ?_ ?_<;>intro h)|exact y5|fail)
     all_goals try omega
     refine LoopR.move (n,cur+1+ky.size,Rr.1,W,Rr.2) ⟨t1.2.2.2,t2.2.2,⟨by simp only;omega,by simp only;omega⟩,by simp only;omega,t6,t7,hmt2,hok2,hlk2⟩ (by simp only[Fo.size];omega) [0,1,2,3,4,5,6,7,8,15,16,17,18,19,20] rfl ?_ ?_ ?_
     ·repeat' (first|exact VLe.refl _|exact VLe.any _|exact True.intro|exact VLe.of_eq (congrArg nI (by rw[hec]))|refine⟨?_,?_⟩)
     ·exact memP_st 15 17 19 20 rfl rfl rfl rfl rfl rfl rfl hZ2 (by rw[←hL2];rfl) rfl (by rw[←hL2];exact⟨rfl,rfl⟩)
     ·exact okSt_st (c:=15) (l:=17) (b:=19) rfl rfl rfl rfl rfl rfl rfl rfl hZ2
set_option maxRecDepth 100000
set_option maxHeartbeats 1000000
theorem ins_pat:∀ (C:Cd) (j:Nat) (z:Int),j<C.length→(pat C j z).flatMap insC=(C.flatMap insC).set (j*3+1) (.int .u64 z)
 |[],j,z,h=>by simp at h
 |x::C,0,z,_=>rfl
 |x::C,j+1,z,h=>by
  have ih:=ins_pat C j z (by simpa using h);have e1:pat (x::C) (j+1) z=x::pat C j z:=rfl;rw[e1,List.flatMap_cons,List.flatMap_cons,ih,show (j+1)*3+1=(j*3+1)+3 by omega];rfl
section
variable {P:Program} {ops:Array Oper} {d:Bool} {acc:List Row} {os:List Oper} {env:List V} {n:Nat} {L:Hp} {R:Post}
theorem RegX.pat {t:TypeId} {a v:Operand} {t':TypeId} {pos:String} {af:Array Edge} {gd:Option (Nat×Bool)} {C:Cd} {c off:Nat} {z':Int} (j:Nat) (z:Int)
 (ha:ev env a=.s (.ptr (some (c,off)))) (ho:off=j*3+1) (hv:ev env v=.s (.int .u64 z')) (hz:z'=z) (hl:lk L c=ccB c C) (hj:j<C.length) (ht:elemSz P t=some 1)
 (hw:want ops env ⟨none,.store t a v,t',pos,af,gd⟩=some true)
 (k:RegX P ops d (pushR d ⟨none,.store t a v,t',pos,af,gd⟩ [c] [(c,ccB c (Go.Proofs.YtbokilgdefkmiaaGreatDoor.pat C j z))] acc) os env n (puts L [(c,ccB c (Go.Proofs.YtbokilgdefkmiaaGreatDoor.pat C j z))]) R):RegX P ops d acc (⟨none,.store t a v,t',pos,af,gd⟩::os) env n L R:=by
 subst hz;have hlen:=ins_len C;have hp:=ins_pat C j z' hj
 have hc:∃ x r,C.flatMap insC=x::r:=by
  cases hq:C.flatMap insC with
  |nil=>rw[hq] at hlen;simp at hlen;omega
  |cons x r=>exact⟨x,r,rfl⟩
 obtain⟨x,r,hc⟩:=hc
 have hc2:∃ x2 r2,(Go.Proofs.YtbokilgdefkmiaaGreatDoor.pat C j z').flatMap insC=x2::r2:=by
  rw[hp,hc];exact⟨_,_,rfl⟩
 have e1:ccB c C=some {cells:=C.flatMap insC,ty:=40,more:=true,sym:=true,flat:=true,gh:=some (c+1,3)}:=by
  show opB _ _ _ _=_;rw[hc];rfl
 have e2:ccB c (Go.Proofs.YtbokilgdefkmiaaGreatDoor.pat C j z')=some {cells:=(Go.Proofs.YtbokilgdefkmiaaGreatDoor.pat C j z').flatMap insC,ty:=40,more:=true,sym:=true,flat:=true,gh:=some (c+1,3)}:=by
  show opB _ _ _ _=_;obtain⟨x2,r2,hc2⟩:=hc2;rw[hc2];rfl
 rw[e1] at hl;rw[e2] at k
 have h:aStore P n L t (ev env a) (ev env v) [.cells ((Go.Proofs.YtbokilgdefkmiaaGreatDoor.pat C j z').flatMap insC)]=some ⟨⟨[c],.undef,[(c,some {cells:=(Go.Proofs.YtbokilgdefkmiaaGreatDoor.pat C j z').flatMap insC,ty:=40,more:=true,sym:=true,flat:=true,gh:=some (c+1,3)})],n⟩,[],off+1≤(C.flatMap insC).length∧(Go.Proofs.YtbokilgdefkmiaaGreatDoor.pat C j z').flatMap insC=setL (C.flatMap insC) off [.int .u64 z']⟩:=by
  unfold aStore;rw[ha,hv];simp only[hl,ht];rfl
 have hk:=aStore_ok (P:=P) (env:=env) (n:=n) (L:=L) (t:=t) (x:=a) (y:=v) (o:=⟨none,.store t a v,t',pos,af,gd⟩) rfl h ⟨by rw[hlen];omega,by rw[hp,ho];rfl⟩;exact RegX.op hw hk.1 hk.2 k
end
set_option maxRecDepth 100000
set_option maxHeartbeats 2000000
theorem stE_31a {x:Nd} {k:Fo} {f1 f3:Stm} {lp:Int} {C:Cd} {B:List Nat} (h:x.op=31) (h3:x.kids<3):stE x k f1 f3 lp C B=(pat (f1 lp (em (cod 4 k C) 25 0 []) B).1 (cod 4 k C).length (f1 lp (em (cod 4 k C) 25 0 []) B).1.length,(f1 lp (em (cod 4 k C) 25 0 []) B).2):=by
 unfold stE;rw[if_neg (by omega),if_pos h,if_pos h3]
theorem stE_31b {x:Nd} {k:Fo} {f1 f3:Stm} {lp:Int} {C:Cd} {B:List Nat} (h:x.op=31) (h3: ¬x.kids<3):stE x k f1 f3 lp C B=(fun (R3:Cd×List Nat)=>(fun (R6:Cd×List Nat)=>(pat R6.1 R3.1.length R6.1.length,R6.2)) (f3 lp (pat (em R3.1 24 0 []) (cod 4 k C).length (R3.1.length+1:Nat)) R3.2)) (f1 lp (em (cod 4 k C) 25 0 []) B):=by
 unfold stE;rw[if_neg (by omega),if_pos h,if_neg h3]
theorem whE_31 {x:Nd} {w1 w3:Bool} (h:x.op=31):whE x w1 w3=(w1||(!decide (x.kids<3)&&w3)):=by
 unfold whE;rw[decide_eq_false (by omega),decide_eq_true h,Bool.false_or,Bool.true_and]
theorem if_kids {x:Nd} {k:Fo} {c:Int} (hv:(Fo.cons x k .nil).V [(false,c)]) (ho:x.op=31) (hk:x.kids=(k.cnt:Int)):
 ∃ e ke b1 l1 r,k=.cons e ke (.cons b1 l1 r)∧accB 101 e.op=true∧(Fo.cons e ke .nil).V [(false,101)]∧l1.V (List.replicate l1.cnt (false,83))∧((x.kids<3∧r=.nil)∨(¬x.kids<3∧∃ b2 l2,r=.cons b2 l2 .nil∧l2.V (List.replicate l2.cnt (false,83)))):=by
 have hk2:=hv.2.1;by_cases h3:x.kids=3
 ·rw[ho,h3] at hk2
  change k.V [(false,101),(true,83),(true,83)] at hk2;obtain⟨e,ke,n,rfl,q1,q2,q3⟩:=V_e hk2;obtain⟨b1,l1,n2,rfl,g1,g2,g3⟩:=V_blk q3;obtain⟨b2,l2,n3,rfl,f1,f2,f3⟩:=V_blk g1;have:=V_nil f1;subst this;exact⟨e,ke,b1,l1,_,rfl,q1,q2,g3,.inr ⟨by omega,b2,l2,rfl,f3⟩⟩
 ·have e1:slots (kindsB x.op x.kids).1=[(false,101),(true,83)]:=by
   rw[ho];unfold kindsB;rw[if_neg (by decide),if_neg (by decide),if_neg (by simp[h3])];rfl
  have hk2:k.V (slots (kindsB x.op x.kids).1):=hk2;rw[e1] at hk2;obtain⟨e,ke,n,rfl,q1,q2,q3⟩:=V_e hk2;obtain⟨b1,l1,n2,rfl,g1,g2,g3⟩:=V_blk q3;have:=V_nil g1;subst this;exact⟨e,ke,b1,l1,_,rfl,q1,q2,g3,.inl ⟨by simp only[Fo.cnt] at hk;omega,rfl⟩⟩
theorem branch_c (p:List Nd) (hp:p.length≤2048) (hO:NOK p) (E:List Nat) (hE:EOK p E) (N:Nat) (ih:BL p E N) (x:Nd) (k:Fo) (i:Nat) (c:Int) (Λ:Lp) (lp:Int) (C:Cd) (B:List Nat) (hN:k.size≤N) (ha:(Fo.cons x k .nil).At p i) (hv:(Fo.cons x k .nil).V [(false,c)]) (ho31:x.op=31) (hmt:Λ.mt lp B) (ho:Λ.ok C (k.size+1)) (hlk:Λ.lk (.cons x k .nil)) (hC:C.length+3*k.size+3≤900000000):
 FC Tryz.prog 99 [.s (.ptr (some (0,0))),nI i] 9 (slL p E C Λ) .any 15 (slL' p E (stE x k (stmC 1 k) (stmC 3 k) lp C B).1 Λ (Λ.af (whE x (whB 1 k) (whB 3 k)) (stE x k (stmC 1 k) (stmC 3 k) lp C B).2)):=by
 have h3:elemSz Tryz.prog 40=some 3:=by kernel_rfl
 have h1:elemSz Tryz.prog 29=some 1:=by kernel_rfl
 have hi:=At.lt ha;have hcx:=At.get ha;have hel:=hE.len;have hsz:=At.size_le (Nat.le_of_lt hi) ha;obtain⟨e,ke,b1,l1,r,rfl,a1,v1,w1,hr⟩:=if_kids hv ho31 ha.2.1;have ha1:=ha.2.2.1
 have hae:(Fo.cons e ke .nil).At p (i+1):=⟨ha1.1,ha1.2.1,ha1.2.2.1,trivial⟩
 have ha2:=ha1.2.2.2
 obtain⟨j1,hj1⟩:∃ j:Nat,j=i+1+1+ke.size:=⟨_,rfl⟩
 have hee:E.getD (i+1) 0=j1:=by rw[hE.get hae,hj1]
 rw[←hj1] at ha2;have heb:=hE.get ha2;simp only[Fo.size] at hN hC hsz ho
 have hlk1:Λ.lk l1:=fun w hw=>((hlk w hw).2.1 ho31).1
 have hexp:∀ xv,isCell xv=true→FC Tryz.prog 97 [.s (.ptr (some (0,0))),nI (i+1:Nat)] 5 (cdL p E C (.cst xv)) .any 7 (cdL' p E (eE e ke C) (.cst xv)):=fun xv hx=>exp_all p hp hO E hE (ke.size+1) e ke (i+1) 101 C xv (Nat.lt_succ_self _) hae v1 a1 hx (by omega)
 have hle:(eE e ke C).length≤C.length+(3*ke.size+1):=exp_le e ke C;have hge:=eE_ge e ke C;have e4:cod 4 (.cons e ke (.cons b1 l1 r)) C=eE e ke C:=rfl;generalize hC1:eE e ke C=C1 at*
 have hem1:∀ xv,isCell xv=true→FC Tryz.prog 38 [.s (.ptr (some (0,0))),nI 25,nU 0,sV []] 5 (cdL p E C1 (.cst xv)) (nI C1.length) 7 (cdL' p E (em C1 25 0 []) (.cst xv)):=fun xv hx=>emit_c p E C1 (by omega) xv 25 0 []
 have hl2:=em_ln C1 25 0 [];have f1e:stmC 1 (.cons e ke (.cons b1 l1 r))=stmC 0 l1:=rfl;have w1e:whB 1 (.cons e ke (.cons b1 l1 r))=whB 0 l1:=rfl;have g0:GR (3*ke.size+2) C B (em C1 25 0 [],B):=GR.cd (by rw[hl2];omega) (by rw[hl2];omega)
 have hok1:Λ.ok (em C1 25 0 []) l1.size:=by
  have:=Lp.af_ok hmt ho g0 (n':=l1.size) (by omega) false;rw[Lp.af_0 hmt] at this;exact this
 have hbl1:=ih b1 l1 j1 Λ lp (em C1 25 0 []) B (by omega) ⟨ha2.1,ha2.2.1,ha2.2.2.1,trivial⟩ w1 hmt hok1 hlk1 (by rw[hl2];omega);have g1:GR (3*l1.size) (em C1 25 0 []) B (stmC 0 l1 lp (em C1 25 0 []) B):=stm_gr l1 0 lp _ B;have hokR:=Lp.af_ok hmt hok1 g1 (n':=0) (Nat.zero_le _) (whB 0 l1);have hlR:=g1.le;have hgR:=g1.ge;have hok1':=Lp.af_ok hmt hok1 g1 (n':=l1.size) (Nat.le_refl _) (whB 0 l1);have hmt1:=Lp.af_mt hmt (whB 0 l1) (stmC 0 l1 lp (em C1 25 0 []) B).2;have hZ:=Lp.ok_Z ho
 rcases hr with ⟨k3,rfl⟩|⟨k3,b2,l2,rfl,w2⟩
 ·rw[whE_31 ho31,stE_31a ho31 k3,decide_eq_true k3,Bool.not_true,Bool.false_and,Bool.or_false,f1e,w1e,e4]
  have hhr:=here_c p E (stmC 0 l1 lp (em C1 25 0 []) B).1.length (by omega);generalize stmC 0 l1 lp (em C1 25 0 []) B=R at*;generalize whB 0 l1=w at*;have hZ2:=Lp.ok_Z hokR
  have ks:(p.getD i dN).kids<3:=by rw[hcx];exact k3
  refine FC.walk (by kernel_rfl) Tryz.func99 rfl rfl ?_
  rcases hΛ:Λ with (_|_)|⟨K,mm,st,B0⟩
  ·have hx1:=FC.sw hexp (.slc none 0 (some 0)) rfl
   have hx2:=FC.sw hem1 (.slc none 0 (some 0)) rfl;rw[hΛ] at hbl1 hZ hZ2
   rcases w with _|_
   all_goals
    repeat'(first|exact y0|refine y1 ?_|refine y2 ?_ ?_|(refine y8 ?_ ?_<;>intro h<;>try exact y6)|(refine wC ?_;first|(refine wF 97 ?_;refine CallG.cd 1 hx1 rfl rfl rfl rfl rfl rfl rfl rfl rfl ⟨VLe.refl _,VLe.refl _,trivial⟩ rfl rfl ?_)|(refine wF 38 ?_;refine CallG.cd 9 (hx2) rfl rfl rfl rfl rfl rfl rfl rfl rfl ⟨VLe.refl _,VLe.refl _,VLe.refl _,VLe.refl _,trivial⟩ rfl rfl ?_)|(refine wF 37 ?_;refine CallG.st 11 3 5 6 [] hbl1 ⟨_,_,rfl⟩ trivial rfl rfl trivial rfl rfl rfl rfl ⟨VLe.refl _,VLe.of_eq (congrArg nI (by rw[hee])),trivial⟩ rfl rfl ?_)|(refine wF 162 ?_;refine CallG.mv [0,13,14] 0 hhr rfl rfl ⟨VLe.refl _,trivial⟩ rfl rfl (fun φ w b=>BlAt.view 3 rfl) rfl ⟨⟨rfl,_,rfl,rfl,fun h=>h⟩,trivial⟩ rfl rfl rfl rfl ?_))|refine RegX.ixr (sz:=3) (C1.length) rfl rfl rfl (by omega) rfl h3 rfl (RegX.chunkN 1 rfl rfl ⟨trivial,trivial⟩ (RegX.pat (C1.length) (R.1.length) rfl (by rw[plus_eq];rfl) rfl rfl rfl (by omega) h1 rfl ?_))|refine y3 ?_|refine y7 ?_ ?_|refine y4 ?_|(refine y9 ?_ ?_<;>intro h)|exact y5|fail)
    all_goals try omega
    all_goals first
     |exact Fin.stP 13 15 17 18 (Lp.af (.out false) _ R.2) (.inl rfl) rfl (pat_ln _ _ _).symm rfl (by first|exact trivial|exact rfl) rfl rfl hZ2 rfl rfl
  ·have hx1:=FC.sw hexp (.sla 3 4 0) rfl
   have hx2:=FC.sw hem1 (.sla 3 4 0) rfl;rw[hΛ] at hbl1 hZ hZ2
   rcases w with _|_
   all_goals
    repeat'(first|exact y0|refine y1 ?_|refine y2 ?_ ?_|(refine y8 ?_ ?_<;>intro h<;>try exact y6)|(refine wC ?_;first|(refine wF 97 ?_;refine CallG.cd 1 hx1 rfl rfl rfl rfl rfl rfl rfl rfl rfl ⟨VLe.refl _,VLe.refl _,trivial⟩ rfl rfl ?_)|(refine wF 38 ?_;refine CallG.cd 9 (hx2) rfl rfl rfl rfl rfl rfl rfl rfl rfl ⟨VLe.refl _,VLe.refl _,VLe.refl _,VLe.refl _,trivial⟩ rfl rfl ?_)|(refine wF 37 ?_;refine CallG.st 11 3 5 6 [] hbl1 ⟨_,_,rfl⟩ trivial rfl rfl rfl rfl rfl rfl rfl ⟨VLe.refl _,VLe.of_eq (congrArg nI (by rw[hee])),trivial⟩ rfl rfl ?_)|(refine wF 162 ?_;refine CallG.mv [0,13,14] 0 hhr rfl rfl ⟨VLe.refl _,trivial⟩ rfl rfl (fun φ w b=>BlAt.view 3 rfl) rfl ⟨⟨rfl,_,rfl,rfl,fun h=>h⟩,trivial⟩ rfl rfl rfl rfl ?_))|refine RegX.ixr (sz:=3) (C1.length) rfl rfl rfl (by omega) rfl h3 rfl (RegX.chunkN 1 rfl rfl ⟨trivial,trivial⟩ (RegX.pat (C1.length) (R.1.length) rfl (by rw[plus_eq];rfl) rfl rfl rfl (by omega) h1 rfl ?_))|refine y3 ?_|refine y7 ?_ ?_|refine y4 ?_|(refine y9 ?_ ?_<;>intro h)|exact y5|fail)
    all_goals try omega
    all_goals first
     |exact Fin.stP 13 15 17 18 (Lp.af (.out true) _ R.2) (.inl rfl) rfl (pat_ln _ _ _).symm rfl (by exact rfl) rfl rfl hZ2 rfl rfl
  ·have hx1:=FC.sw hexp (.sla 3 4 (mm+1)) rfl
   have hx2:=FC.sw hem1 (.sla 3 4 (mm+1)) rfl;rw[hΛ] at hbl1 hZ hZ2
   rcases w with _|_
   all_goals
    repeat'(first|exact y0|refine y1 ?_|refine y2 ?_ ?_|(refine y8 ?_ ?_<;>intro h<;>try exact y6)|(refine wC ?_;first|(refine wF 97 ?_;refine CallG.cd 1 hx1 rfl rfl rfl rfl rfl rfl rfl rfl rfl ⟨VLe.refl _,VLe.refl _,trivial⟩ rfl rfl ?_)|(refine wF 38 ?_;refine CallG.cd 9 (hx2) rfl rfl rfl rfl rfl rfl rfl rfl rfl ⟨VLe.refl _,VLe.refl _,VLe.refl _,VLe.refl _,trivial⟩ rfl rfl ?_)|(refine wF 37 ?_;refine CallG.st 11 3 5 6 K hbl1 ⟨_,_,rfl⟩ ⟨ZOK.all (K:=K) hZ 9,ZOK.map (K:=K) hZ _⟩ rfl rfl ⟨rfl,rfl⟩ rfl rfl rfl rfl ⟨VLe.refl _,VLe.of_eq (congrArg nI (by rw[hee])),trivial⟩ rfl rfl ?_)|(refine wF 162 ?_;refine CallG.mv [0,13,14] 0 hhr rfl rfl ⟨VLe.refl _,trivial⟩ rfl rfl (fun φ w b=>BlAt.view 3 rfl) rfl ⟨⟨rfl,_,rfl,rfl,fun h=>h⟩,trivial⟩ rfl rfl rfl rfl ?_))|refine RegX.ixr (sz:=3) (C1.length) rfl rfl rfl (by omega) rfl h3 rfl (RegX.chunkN 1 rfl rfl ⟨trivial,trivial⟩ (RegX.pat (C1.length) (R.1.length) rfl (by rw[plus_eq];rfl) rfl rfl rfl (by omega) h1 rfl ?_))|refine y3 ?_|refine y7 ?_ ?_|refine y4 ?_|(refine y9 ?_ ?_<;>intro h)|exact y5|fail)
    all_goals try omega
    all_goals first
     |exact Fin.stP 13 15 17 18 (Lp.af (.top K mm st B0) _ R.2) (.inl rfl) rfl (pat_ln _ _ _).symm rfl (by exact⟨rfl,rfl⟩) rfl rfl hZ2 rfl rfl
 ·rw[whE_31 ho31,stE_31b ho31 k3,decide_eq_false k3,Bool.not_false,Bool.true_and,f1e,w1e,e4]
  have f3e:stmC 3 (.cons e ke (.cons b1 l1 (.cons b2 l2 .nil)))=stmC 0 l2:=rfl;have w3e:whB 3 (.cons e ke (.cons b1 l1 (.cons b2 l2 .nil)))=whB 0 l2:=rfl;rw[f3e,w3e];have ha3:=ha2.2.2.2
  have hlk2:Λ.lk l2:=fun w hw=>((hlk w hw).2.1 ho31).2
  obtain⟨j2,hj2⟩:∃ j:Nat,j=j1+1+l1.size:=⟨_,rfl⟩
  rw[←hj2] at ha3 heb;have hl22:=At.lt ha3;simp only[Fo.size,Nat.add_zero] at hN hC hsz ho
  have hem2:∀ xv,isCell xv=true→FC Tryz.prog 38 [.s (.ptr (some (0,0))),nI 24,nU 0,sV []] 5 (cdL p E (stmC 0 l1 lp (em C1 25 0 []) B).1 (.cst xv)) (nI (stmC 0 l1 lp (em C1 25 0 []) B).1.length) 7 (cdL' p E (em (stmC 0 l1 lp (em C1 25 0 []) B).1 24 0 []) (.cst xv)):=fun xv hx=>emit_c p E _ (by omega) xv 24 0 []
  have g2:=((g0.trans g1).em 24 0 []).pat C1.length ((stmC 0 l1 lp (em C1 25 0 []) B).1.length+1:Nat);have hokD:=Lp.af_ok hmt ho g2 (n':=l2.size) (by omega) (whB 0 l1);generalize hR:stmC 0 l1 lp (em C1 25 0 []) B=R at*;have hlD:=em_ln R.1 24 0 [];have hhr:=here_c p E (em R.1 24 0 []).length (by omega);have hlE:=pat_ln (em R.1 24 0 []) C1.length (R.1.length+1:Nat);generalize whB 0 l1=w at*
  have hlk3:(Λ.af w R.2).lk l2:=fun w' hw'=>by
   rcases Λ with w0|⟨K,mm,st,B0⟩
   ·exact hlk2 w0 rfl
   ·cases hw'
  have hbl2:=ih b2 l2 j2 (Λ.af w R.2) lp (pat (em R.1 24 0 []) C1.length (R.1.length+1:Nat)) R.2 (by omega) ha3 w2 hmt1 hokD hlk3 (by omega);have g3:GR (3*l2.size) (pat (em R.1 24 0 []) C1.length (R.1.length+1:Nat)) R.2 (stmC 0 l2 lp (pat (em R.1 24 0 []) C1.length (R.1.length+1:Nat)) R.2):=stm_gr l2 0 lp (pat (em R.1 24 0 []) C1.length (R.1.length+1:Nat)) R.2;have hokQ:=Lp.af_ok hmt1 hokD g3 (n':=0) (Nat.zero_le _) (whB 0 l2);have hhr2:=here_c p E (stmC 0 l2 lp (pat (em R.1 24 0 []) C1.length (R.1.length+1:Nat)) R.2).1.length (by have:=g3.le;omega);have hgQ:=g3.ge;have hlQ:=g3.le;show FC _ _ _ _ _ _ _ (slL' p E (pat (stmC 0 l2 lp (pat (em R.1 24 0 []) C1.length (R.1.length+1:Nat)) R.2).1 R.1.length (stmC 0 l2 lp (pat (em R.1 24 0 []) C1.length (R.1.length+1:Nat)) R.2).1.length) Λ (Λ.af (w||whB 0 l2) (stmC 0 l2 lp (pat (em R.1 24 0 []) C1.length (R.1.length+1:Nat)) R.2).2));rw[←Lp.af_af Λ w (whB 0 l2) R.2];generalize stmC 0 l2 lp (pat (em R.1 24 0 []) C1.length (R.1.length+1:Nat)) R.2=Q at*;generalize whB 0 l2=w' at*;have hZ2:=Lp.ok_Z hokR;have hZ3:=Lp.ok_Z hokQ
  have ks: ¬(p.getD i dN).kids<3:=by rw[hcx];exact k3
  refine FC.walk (by kernel_rfl) Tryz.func99 rfl rfl ?_
  rcases hΛ:Λ with (_|_)|⟨K,mm,st,B0⟩
  ·have hx1:=FC.sw hexp (.slc none 0 (some 0)) rfl
   have hx2:=FC.sw hem1 (.slc none 0 (some 0)) rfl;rw[hΛ] at hbl1 hbl2 hZ hZ2 hZ3
   rcases w with _|_
   ·have hx3:=FC.sw hem2 (.slc none 0 (some 0)) rfl
    have hbl2:FC Tryz.prog 37 _ 9 (slL p E (pat (em R.1 24 0 []) C1.length (R.1.length+1:Nat)) (.out false)) .any 15 (slL' p E Q.1 (.out false) (Lp.af (.out false) w' Q.2)):=hbl2
    rcases w' with _|_
    all_goals
     repeat'(first|exact y0|refine y1 ?_|refine y2 ?_ ?_|(refine y8 ?_ ?_<;>intro h<;>try exact y6)|(refine wC ?_;first|(refine wF 97 ?_;refine CallG.cd 1 hx1 rfl rfl rfl rfl rfl rfl rfl rfl rfl ⟨VLe.refl _,VLe.refl _,trivial⟩ rfl rfl ?_)|(refine wF 38 ?_;refine CallG.cd 9 (hx2) rfl rfl rfl rfl rfl rfl rfl rfl rfl ⟨VLe.refl _,VLe.refl _,VLe.refl _,VLe.refl _,trivial⟩ rfl rfl ?_)|(refine wF 37 ?_;refine CallG.st 11 3 5 6 [] hbl1 ⟨_,_,rfl⟩ trivial rfl rfl trivial rfl rfl rfl rfl ⟨VLe.refl _,VLe.of_eq (congrArg nI (by rw[hee])),trivial⟩ rfl rfl ?_)|(refine wF 38 ?_;refine CallG.cl 13 15 (.slc none 0 (some 0)) hx3 rfl (rfl) rfl rfl rfl rfl rfl rfl rfl rfl ⟨VLe.refl _,VLe.refl _,VLe.refl _,VLe.refl _,trivial⟩ rfl rfl ?_)|(refine wF 162 ?_;refine CallG.mv [0,19,20] 0 hhr rfl rfl ⟨VLe.refl _,trivial⟩ rfl rfl (fun φ w b=>BlAt.view 3 rfl) rfl ⟨⟨rfl,_,rfl,rfl,fun h=>h⟩,trivial⟩ rfl rfl rfl rfl ?_)|(refine wF 37 ?_;refine CallG.stP 19 15 17 18 [] hbl2 ⟨_,_,rfl⟩ trivial rfl (hlE.symm) rfl trivial rfl rfl rfl rfl ⟨VLe.refl _,VLe.of_eq (congrArg nI (by rw[hee,heb])),trivial⟩ rfl rfl ?_)|(refine wF 162 ?_;refine CallG.mv [0,21,22] 0 hhr2 rfl rfl ⟨VLe.refl _,trivial⟩ rfl rfl (fun φ w b=>BlAt.view 3 rfl) rfl ⟨⟨rfl,_,rfl,rfl,fun h=>h⟩,trivial⟩ rfl rfl rfl rfl ?_))|refine RegX.ixr (sz:=3) (C1.length) rfl rfl rfl (by omega) rfl h3 rfl (RegX.chunkN 1 rfl rfl ⟨trivial,trivial⟩ (RegX.pat (C1.length) ((R.1.length+1:Nat)) rfl (by rw[plus_eq];rfl) rfl (congrArg Int.ofNat hlD) rfl (by omega) h1 rfl ?_))|refine RegX.ixr (sz:=3) (R.1.length) rfl rfl rfl (by omega) rfl h3 rfl (RegX.chunkN 1 rfl rfl ⟨trivial,trivial⟩ (RegX.pat (R.1.length) (Q.1.length) rfl (by rw[plus_eq];rfl) rfl rfl rfl (by omega) h1 rfl ?_))|refine y3 ?_|refine y7 ?_ ?_|refine y4 ?_|(refine y9 ?_ ?_<;>intro h)|exact y5|fail)
     all_goals try omega
     all_goals first
      |exact Fin.stP 21 23 25 26 (Lp.af (.out false) _ Q.2) (.inr rfl) rfl (pat_ln _ _ _).symm rfl (by first|exact trivial|exact rfl) rfl rfl hZ3 rfl rfl
      |(rw[hee];omega)
   ·have hx3:=FC.sw hem2 (.sla 3 4 0) rfl
    have hbl2:FC Tryz.prog 37 _ 9 (slL p E (pat (em R.1 24 0 []) C1.length (R.1.length+1:Nat)) (.out true)) .any 15 (slL' p E Q.1 (.out true) (Lp.af (.out true) w' Q.2)):=hbl2
    rcases w' with _|_
    all_goals
     repeat'(first|exact y0|refine y1 ?_|refine y2 ?_ ?_|(refine y8 ?_ ?_<;>intro h<;>try exact y6)|(refine wC ?_;first|(refine wF 97 ?_;refine CallG.cd 1 hx1 rfl rfl rfl rfl rfl rfl rfl rfl rfl ⟨VLe.refl _,VLe.refl _,trivial⟩ rfl rfl ?_)|(refine wF 38 ?_;refine CallG.cd 9 (hx2) rfl rfl rfl rfl rfl rfl rfl rfl rfl ⟨VLe.refl _,VLe.refl _,VLe.refl _,VLe.refl _,trivial⟩ rfl rfl ?_)|(refine wF 37 ?_;refine CallG.st 11 3 5 6 [] hbl1 ⟨_,_,rfl⟩ trivial rfl rfl trivial rfl rfl rfl rfl ⟨VLe.refl _,VLe.of_eq (congrArg nI (by rw[hee])),trivial⟩ rfl rfl ?_)|(refine wF 38 ?_;refine CallG.cl 13 15 (.sla 15 16 0) hx3 rfl (rfl) rfl rfl rfl rfl rfl rfl rfl rfl ⟨VLe.refl _,VLe.refl _,VLe.refl _,VLe.refl _,trivial⟩ rfl rfl ?_)|(refine wF 162 ?_;refine CallG.mv [0,19,20] 0 hhr rfl rfl ⟨VLe.refl _,trivial⟩ rfl rfl (fun φ w b=>BlAt.view 3 rfl) rfl ⟨⟨rfl,_,rfl,rfl,fun h=>h⟩,trivial⟩ rfl rfl rfl rfl ?_)|(refine wF 37 ?_;refine CallG.stP 19 15 17 18 [] hbl2 ⟨_,_,rfl⟩ trivial rfl (hlE.symm) rfl rfl rfl rfl rfl rfl ⟨VLe.refl _,VLe.of_eq (congrArg nI (by rw[hee,heb])),trivial⟩ rfl rfl ?_)|(refine wF 162 ?_;refine CallG.mv [0,21,22] 0 hhr2 rfl rfl ⟨VLe.refl _,trivial⟩ rfl rfl (fun φ w b=>BlAt.view 3 rfl) rfl ⟨⟨rfl,_,rfl,rfl,fun h=>h⟩,trivial⟩ rfl rfl rfl rfl ?_))|refine RegX.ixr (sz:=3) (C1.length) rfl rfl rfl (by omega) rfl h3 rfl (RegX.chunkN 1 rfl rfl ⟨trivial,trivial⟩ (RegX.pat (C1.length) ((R.1.length+1:Nat)) rfl (by rw[plus_eq];rfl) rfl (congrArg Int.ofNat hlD) rfl (by omega) h1 rfl ?_))|refine RegX.ixr (sz:=3) (R.1.length) rfl rfl rfl (by omega) rfl h3 rfl (RegX.chunkN 1 rfl rfl ⟨trivial,trivial⟩ (RegX.pat (R.1.length) (Q.1.length) rfl (by rw[plus_eq];rfl) rfl rfl rfl (by omega) h1 rfl ?_))|refine y3 ?_|refine y7 ?_ ?_|refine y4 ?_|(refine y9 ?_ ?_<;>intro h)|exact y5|fail)
     all_goals try omega
     all_goals first
      |exact Fin.stP 21 23 25 26 (Lp.af (.out true) _ Q.2) (.inr rfl) rfl (pat_ln _ _ _).symm rfl (by exact rfl) rfl rfl hZ3 rfl rfl
      |(rw[hee];omega)
  ·have hx1:=FC.sw hexp (.sla 3 4 0) rfl
   have hx2:=FC.sw hem1 (.sla 3 4 0) rfl;rw[hΛ] at hbl1 hbl2 hZ hZ2 hZ3
   rcases w with _|_
   ·have hx3:=FC.sw hem2 (.sla 3 4 0) rfl
    have hbl2:FC Tryz.prog 37 _ 9 (slL p E (pat (em R.1 24 0 []) C1.length (R.1.length+1:Nat)) (.out true)) .any 15 (slL' p E Q.1 (.out true) (Lp.af (.out true) w' Q.2)):=hbl2
    rcases w' with _|_
    all_goals
     repeat'(first|exact y0|refine y1 ?_|refine y2 ?_ ?_|(refine y8 ?_ ?_<;>intro h<;>try exact y6)|(refine wC ?_;first|(refine wF 97 ?_;refine CallG.cd 1 hx1 rfl rfl rfl rfl rfl rfl rfl rfl rfl ⟨VLe.refl _,VLe.refl _,trivial⟩ rfl rfl ?_)|(refine wF 38 ?_;refine CallG.cd 9 (hx2) rfl rfl rfl rfl rfl rfl rfl rfl rfl ⟨VLe.refl _,VLe.refl _,VLe.refl _,VLe.refl _,trivial⟩ rfl rfl ?_)|(refine wF 37 ?_;refine CallG.st 11 3 5 6 [] hbl1 ⟨_,_,rfl⟩ trivial rfl rfl rfl rfl rfl rfl rfl ⟨VLe.refl _,VLe.of_eq (congrArg nI (by rw[hee])),trivial⟩ rfl rfl ?_)|(refine wF 38 ?_;refine CallG.cl 13 15 (.sla 15 16 0) hx3 rfl (rfl) rfl rfl rfl rfl rfl rfl rfl rfl ⟨VLe.refl _,VLe.refl _,VLe.refl _,VLe.refl _,trivial⟩ rfl rfl ?_)|(refine wF 162 ?_;refine CallG.mv [0,19,20] 0 hhr rfl rfl ⟨VLe.refl _,trivial⟩ rfl rfl (fun φ w b=>BlAt.view 3 rfl) rfl ⟨⟨rfl,_,rfl,rfl,fun h=>h⟩,trivial⟩ rfl rfl rfl rfl ?_)|(refine wF 37 ?_;refine CallG.stP 19 15 17 18 [] hbl2 ⟨_,_,rfl⟩ trivial rfl (hlE.symm) rfl rfl rfl rfl rfl rfl ⟨VLe.refl _,VLe.of_eq (congrArg nI (by rw[hee,heb])),trivial⟩ rfl rfl ?_)|(refine wF 162 ?_;refine CallG.mv [0,21,22] 0 hhr2 rfl rfl ⟨VLe.refl _,trivial⟩ rfl rfl (fun φ w b=>BlAt.view 3 rfl) rfl ⟨⟨rfl,_,rfl,rfl,fun h=>h⟩,trivial⟩ rfl rfl rfl rfl ?_))|refine RegX.ixr (sz:=3) (C1.length) rfl rfl rfl (by omega) rfl h3 rfl (RegX.chunkN 1 rfl rfl ⟨trivial,trivial⟩ (RegX.pat (C1.length) ((R.1.length+1:Nat)) rfl (by rw[plus_eq];rfl) rfl (congrArg Int.ofNat hlD) rfl (by omega) h1 rfl ?_))|refine RegX.ixr (sz:=3) (R.1.length) rfl rfl rfl (by omega) rfl h3 rfl (RegX.chunkN 1 rfl rfl ⟨trivial,trivial⟩ (RegX.pat (R.1.length) (Q.1.length) rfl (by rw[plus_eq];rfl) rfl rfl rfl (by omega) h1 rfl ?_))|refine y3 ?_|refine y7 ?_ ?_|refine y4 ?_|(refine y9 ?_ ?_<;>intro h)|exact y5|fail)
     all_goals try omega
     all_goals first
      |exact Fin.stP 21 23 25 26 (Lp.af (.out true) _ Q.2) (.inr rfl) rfl (pat_ln _ _ _).symm rfl (by exact rfl) rfl rfl hZ3 rfl rfl
      |(rw[hee];omega)
   ·have hx3:=FC.sw hem2 (.sla 3 4 0) rfl
    have hbl2:FC Tryz.prog 37 _ 9 (slL p E (pat (em R.1 24 0 []) C1.length (R.1.length+1:Nat)) (.out true)) .any 15 (slL' p E Q.1 (.out true) (Lp.af (.out true) w' Q.2)):=hbl2
    rcases w' with _|_
    all_goals
     repeat'(first|exact y0|refine y1 ?_|refine y2 ?_ ?_|(refine y8 ?_ ?_<;>intro h<;>try exact y6)|(refine wC ?_;first|(refine wF 97 ?_;refine CallG.cd 1 hx1 rfl rfl rfl rfl rfl rfl rfl rfl rfl ⟨VLe.refl _,VLe.refl _,trivial⟩ rfl rfl ?_)|(refine wF 38 ?_;refine CallG.cd 9 (hx2) rfl rfl rfl rfl rfl rfl rfl rfl rfl ⟨VLe.refl _,VLe.refl _,VLe.refl _,VLe.refl _,trivial⟩ rfl rfl ?_)|(refine wF 37 ?_;refine CallG.st 11 3 5 6 [] hbl1 ⟨_,_,rfl⟩ trivial rfl rfl rfl rfl rfl rfl rfl ⟨VLe.refl _,VLe.of_eq (congrArg nI (by rw[hee])),trivial⟩ rfl rfl ?_)|(refine wF 38 ?_;refine CallG.cl 13 15 (.sla 15 16 0) hx3 rfl (rfl) rfl rfl rfl rfl rfl rfl rfl rfl ⟨VLe.refl _,VLe.refl _,VLe.refl _,VLe.refl _,trivial⟩ rfl rfl ?_)|(refine wF 162 ?_;refine CallG.mv [0,19,20] 0 hhr rfl rfl ⟨VLe.refl _,trivial⟩ rfl rfl (fun φ w b=>BlAt.view 3 rfl) rfl ⟨⟨rfl,_,rfl,rfl,fun h=>h⟩,trivial⟩ rfl rfl rfl rfl ?_)|(refine wF 37 ?_;refine CallG.stP 19 15 17 18 [] hbl2 ⟨_,_,rfl⟩ trivial rfl (hlE.symm) rfl rfl rfl rfl rfl rfl ⟨VLe.refl _,VLe.of_eq (congrArg nI (by rw[hee,heb])),trivial⟩ rfl rfl ?_)|(refine wF 162 ?_;refine CallG.mv [0,21,22] 0 hhr2 rfl rfl ⟨VLe.refl _,trivial⟩ rfl rfl (fun φ w b=>BlAt.view 3 rfl) rfl ⟨⟨rfl,_,rfl,rfl,fun h=>h⟩,trivial⟩ rfl rfl rfl rfl ?_))|refine RegX.ixr (sz:=3) (C1.length) rfl rfl rfl (by omega) rfl h3 rfl (RegX.chunkN 1 rfl rfl ⟨trivial,trivial⟩ (RegX.pat (C1.length) ((R.1.length+1:Nat)) rfl (by rw[plus_eq];rfl) rfl (congrArg Int.ofNat hlD) rfl (by omega) h1 rfl ?_))|refine RegX.ixr (sz:=3) (R.1.length) rfl rfl rfl (by omega) rfl h3 rfl (RegX.chunkN 1 rfl rfl ⟨trivial,trivial⟩ (RegX.pat (R.1.length) (Q.1.length) rfl (by rw[plus_eq];rfl) rfl rfl rfl (by omega) h1 rfl ?_))|refine y3 ?_|refine y7 ?_ ?_|refine y4 ?_|(refine y9 ?_ ?_<;>intro h)|exact y5|fail)
     all_goals try omega
     all_goals first
      |exact Fin.stP 21 23 25 26 (Lp.af (.out true) _ Q.2) (.inr rfl) rfl (pat_ln _ _ _).symm rfl (by exact rfl) rfl rfl hZ3 rfl rfl
      |(rw[hee];omega)
  ·have hx1:=FC.sw hexp (.sla 3 4 (mm+1)) rfl
   have hx2:=FC.sw hem1 (.sla 3 4 (mm+1)) rfl;rw[hΛ] at hbl1 hbl2 hZ hZ2 hZ3
   rcases w with _|_
   ·have hx3:=FC.sw hem2 (.sla 3 4 (mm+1)) rfl
    have hbl2:FC Tryz.prog 37 _ 9 (slL p E (pat (em R.1 24 0 []) C1.length (R.1.length+1:Nat)) (.top K mm st R.2)) .any 15 (slL' p E Q.1 (.top K mm st R.2) (Lp.af (.top K mm st R.2) w' Q.2)):=hbl2
    rcases w' with _|_
    all_goals
     repeat'(first|exact y0|refine y1 ?_|refine y2 ?_ ?_|(refine y8 ?_ ?_<;>intro h<;>try exact y6)|(refine wC ?_;first|(refine wF 97 ?_;refine CallG.cd 1 hx1 rfl rfl rfl rfl rfl rfl rfl rfl rfl ⟨VLe.refl _,VLe.refl _,trivial⟩ rfl rfl ?_)|(refine wF 38 ?_;refine CallG.cd 9 (hx2) rfl rfl rfl rfl rfl rfl rfl rfl rfl ⟨VLe.refl _,VLe.refl _,VLe.refl _,VLe.refl _,trivial⟩ rfl rfl ?_)|(refine wF 37 ?_;refine CallG.st 11 3 5 6 K hbl1 ⟨_,_,rfl⟩ ⟨ZOK.all (K:=K) hZ 9,ZOK.map (K:=K) hZ _⟩ rfl rfl ⟨rfl,rfl⟩ rfl rfl rfl rfl ⟨VLe.refl _,VLe.of_eq (congrArg nI (by rw[hee])),trivial⟩ rfl rfl ?_)|(refine wF 38 ?_;refine CallG.cl 13 15 (.sla 15 16 (mm+1)) hx3 rfl (rfl) rfl rfl rfl rfl rfl rfl rfl rfl ⟨VLe.refl _,VLe.refl _,VLe.refl _,VLe.refl _,trivial⟩ rfl rfl ?_)|(refine wF 162 ?_;refine CallG.mv [0,19,20] 0 hhr rfl rfl ⟨VLe.refl _,trivial⟩ rfl rfl (fun φ w b=>BlAt.view 3 rfl) rfl ⟨⟨rfl,_,rfl,rfl,fun h=>h⟩,trivial⟩ rfl rfl rfl rfl ?_)|(refine wF 37 ?_;refine CallG.stP 19 15 17 18 K hbl2 ⟨_,_,rfl⟩ ⟨ZOK.all (K:=K) hZ2 9,ZOK.map (K:=K) hZ2 _⟩ rfl (hlE.symm) rfl ⟨rfl,rfl⟩ rfl rfl rfl rfl ⟨VLe.refl _,VLe.of_eq (congrArg nI (by rw[hee,heb])),trivial⟩ rfl rfl ?_)|(refine wF 162 ?_;refine CallG.mv [0,21,22] 0 hhr2 rfl rfl ⟨VLe.refl _,trivial⟩ rfl rfl (fun φ w b=>BlAt.view 3 rfl) rfl ⟨⟨rfl,_,rfl,rfl,fun h=>h⟩,trivial⟩ rfl rfl rfl rfl ?_))|refine RegX.ixr (sz:=3) (C1.length) rfl rfl rfl (by omega) rfl h3 rfl (RegX.chunkN 1 rfl rfl ⟨trivial,trivial⟩ (RegX.pat (C1.length) ((R.1.length+1:Nat)) rfl (by rw[plus_eq];rfl) rfl (congrArg Int.ofNat hlD) rfl (by omega) h1 rfl ?_))|refine RegX.ixr (sz:=3) (R.1.length) rfl rfl rfl (by omega) rfl h3 rfl (RegX.chunkN 1 rfl rfl ⟨trivial,trivial⟩ (RegX.pat (R.1.length) (Q.1.length) rfl (by rw[plus_eq];rfl) rfl rfl rfl (by omega) h1 rfl ?_))|refine y3 ?_|refine y7 ?_ ?_|refine y4 ?_|(refine y9 ?_ ?_<;>intro h)|exact y5|fail)
     all_goals try omega
     all_goals first
      |exact Fin.stP 21 23 25 26 (Lp.af (.top K mm st R.2) _ Q.2) (.inr rfl) rfl (pat_ln _ _ _).symm rfl (by exact⟨rfl,rfl⟩) rfl rfl hZ3 rfl rfl
      |(rw[hee];omega)
   ·have hx3:=FC.sw hem2 (.sla 3 4 (mm+1)) rfl
    have hbl2:FC Tryz.prog 37 _ 9 (slL p E (pat (em R.1 24 0 []) C1.length (R.1.length+1:Nat)) (.top K mm st R.2)) .any 15 (slL' p E Q.1 (.top K mm st R.2) (Lp.af (.top K mm st R.2) w' Q.2)):=hbl2
    rcases w' with _|_
    all_goals
     repeat'(first|exact y0|refine y1 ?_|refine y2 ?_ ?_|(refine y8 ?_ ?_<;>intro h<;>try exact y6)|(refine wC ?_;first|(refine wF 97 ?_;refine CallG.cd 1 hx1 rfl rfl rfl rfl rfl rfl rfl rfl rfl ⟨VLe.refl _,VLe.refl _,trivial⟩ rfl rfl ?_)|(refine wF 38 ?_;refine CallG.cd 9 (hx2) rfl rfl rfl rfl rfl rfl rfl rfl rfl ⟨VLe.refl _,VLe.refl _,VLe.refl _,VLe.refl _,trivial⟩ rfl rfl ?_)|(refine wF 37 ?_;refine CallG.st 11 3 5 6 K hbl1 ⟨_,_,rfl⟩ ⟨ZOK.all (K:=K) hZ 9,ZOK.map (K:=K) hZ _⟩ rfl rfl ⟨rfl,rfl⟩ rfl rfl rfl rfl ⟨VLe.refl _,VLe.of_eq (congrArg nI (by rw[hee])),trivial⟩ rfl rfl ?_)|(refine wF 38 ?_;refine CallG.cl 13 15 (.sla 15 16 (mm+1)) hx3 rfl (rfl) rfl rfl rfl rfl rfl rfl rfl rfl ⟨VLe.refl _,VLe.refl _,VLe.refl _,VLe.refl _,trivial⟩ rfl rfl ?_)|(refine wF 162 ?_;refine CallG.mv [0,19,20] 0 hhr rfl rfl ⟨VLe.refl _,trivial⟩ rfl rfl (fun φ w b=>BlAt.view 3 rfl) rfl ⟨⟨rfl,_,rfl,rfl,fun h=>h⟩,trivial⟩ rfl rfl rfl rfl ?_)|(refine wF 37 ?_;refine CallG.stP 19 15 17 18 K hbl2 ⟨_,_,rfl⟩ ⟨ZOK.all (K:=K) hZ2 9,ZOK.map (K:=K) hZ2 _⟩ rfl (hlE.symm) rfl ⟨rfl,rfl⟩ rfl rfl rfl rfl ⟨VLe.refl _,VLe.of_eq (congrArg nI (by rw[hee,heb])),trivial⟩ rfl rfl ?_)|(refine wF 162 ?_;refine CallG.mv [0,21,22] 0 hhr2 rfl rfl ⟨VLe.refl _,trivial⟩ rfl rfl (fun φ w b=>BlAt.view 3 rfl) rfl ⟨⟨rfl,_,rfl,rfl,fun h=>h⟩,trivial⟩ rfl rfl rfl rfl ?_))|refine RegX.ixr (sz:=3) (C1.length) rfl rfl rfl (by omega) rfl h3 rfl (RegX.chunkN 1 rfl rfl ⟨trivial,trivial⟩ (RegX.pat (C1.length) ((R.1.length+1:Nat)) rfl (by rw[plus_eq];rfl) rfl (congrArg Int.ofNat hlD) rfl (by omega) h1 rfl ?_))|refine RegX.ixr (sz:=3) (R.1.length) rfl rfl rfl (by omega) rfl h3 rfl (RegX.chunkN 1 rfl rfl ⟨trivial,trivial⟩ (RegX.pat (R.1.length) (Q.1.length) rfl (by rw[plus_eq];rfl) rfl rfl rfl (by omega) h1 rfl ?_))|refine y3 ?_|refine y7 ?_ ?_|refine y4 ?_|(refine y9 ?_ ?_<;>intro h)|exact y5|fail)
     all_goals try omega
     all_goals first
      |exact Fin.stP 21 23 25 26 (Lp.af (.top K mm st R.2) _ Q.2) (.inr rfl) rfl (pat_ln _ _ _).symm rfl (by exact⟨rfl,rfl⟩) rfl rfl hZ3 rfl rfl
      |(rw[hee];omega)
set_option maxRecDepth 100000
set_option maxHeartbeats 1000000
theorem set_mid:∀ (K:List S) (a s x:S) (t:List S),((K++[a,s])++t).set (K.length+1) x=(K++[a,x])++t
 |[],a,s,x,t=>rfl
 |y::K,a,s,x,t=>congrArg (y::·) (set_mid K a s x t)
theorem get_mid:∀ (K:List S) (a s:S) (t:List S),((K++[a,s])++t)[K.length+1]? =some s
 |[],a,s,t=>rfl
 |y::K,a,s,t=>get_mid K a s t
theorem set_end (K:List S) (a s x:S):(K++[a,s]).set (K.length+1) x=K++[a,x]:=by
 have:=set_mid K a s x []
 rwa[List.append_nil,List.append_nil] at this
theorem get_end:∀ (K:List S) (a s:S),(K++[a,s])[K.length+1]? =some s
 |[],a,s=>rfl
 |y::K,a,s=>get_end K a s
theorem get_end0:∀ (K:List S) (a s:S),(K++[a,s])[K.length]? =some a
 |[],a,s=>rfl
 |y::K,a,s=>get_end0 K a s
theorem br_get (B:List Nat) {n:Nat} (h:n<B.length):(B.map fun (j:Nat)=>S.int .i64 (j:Int))[n]? =some (.int .i64 ((B.getD n 0:Nat):Int)):=by
 rw[List.getElem?_map,List.getElem?_eq_getElem h,List.getD_eq_getElem?_getD,List.getElem?_eq_getElem h];rfl
theorem FC.swK {P:Program} {f:FuncId} {args:List V} {v:V} {p:List Nd} {E:List Nat} {C C':Cd} {K:List S} {st s0:Int} {mm:Nat} {B0 B':List Nat}
 (h:∀ xv,isCell xv=true→FC P f args 9 (slL p E C (.top (K++[.int .u64 st,.cst xv]) mm s0 B0)) v 15 (slL' p E C' (.top (K++[.int .u64 st,.cst xv]) mm s0 B0) (.top (K++[.int .u64 st,.cst xv]) mm s0 B'))) (sl:S) (hj:isJ sl=false):
 FC P f args 9 (slL p E C (.top (K++[.int .u64 st,sl]) mm s0 B0)) v 15 (slL' p E C' (.top (K++[.int .u64 st,sl]) mm s0 B0) (.top (K++[.int .u64 st,sl]) mm s0 B')):=by
 refine⟨(h (.int .i64 0) rfl).1,SC.cst (i:=3) (o:=K.length+1) (i':=11) (o':=K.length+1) (s:=sl) (bl:=lpB 3 (topC (K++[.int .u64 st,sl]) s0 5 6 B0.length)) (bl':=lpB 11 (topC (K++[.int .u64 st,sl]) s0 13 14 B'.length)) rfl (get_mid _ _ _ _) rfl (get_mid _ _ _ _) hj rfl rfl fun x hx=>?_⟩;have h1:=(h x hx).2
 have e1:put (slL p E C (.top (K++[.int .u64 st,sl]) mm s0 B0)) 3 (some (cellB (lpB 3 (topC (K++[.int .u64 st,sl]) s0 5 6 B0.length)) (K.length+1) (.cst x)))=slL p E C (.top (K++[.int .u64 st,.cst x]) mm s0 B0):=by
  show [_,_,(3,some (lpB 3 ((topC (K++[.int .u64 st,sl]) s0 5 6 B0.length).set (K.length+1) (.cst x)))),_]=_;rw[set_mid];rfl
 have e2:put (slL' p E C' (.top (K++[.int .u64 st,sl]) mm s0 B0) (.top (K++[.int .u64 st,sl]) mm s0 B')) 11 (some (cellB (lpB 11 (topC (K++[.int .u64 st,sl]) s0 13 14 B'.length)) (K.length+1) (.cst x)))=slL' p E C' (.top (K++[.int .u64 st,.cst x]) mm s0 B0) (.top (K++[.int .u64 st,.cst x]) mm s0 B'):=by
  show [_,_,_,_,_,(11,some (lpB 11 ((topC (K++[.int .u64 st,sl]) s0 13 14 B'.length).set (K.length+1) (.cst x)))),_]=_;rw[set_mid];rfl
 rw[e1,e2];exact h1
theorem topC_all {K:List S} {st:Int} {b b' k n:Nat} (hK:K.all (okS n)=true) (h2:Nat.blt b n=true) (h3:Nat.blt b' n=true):(topC K st b b' k).all (okS n)=true:=by
 rw[List.all_append,hK];show (true&&(true&&((Nat.blt b n&&Nat.blt b' n)&&true)))=true;rw[h2,h3];rfl
theorem topC_map {K:List S} {st:Int} {b b' k:Nat} {r:Nat→Nat} (hK:K.map (renS r)=K):(topC K st b b' k).map (renS r)=topC K st (r b) (r b') k:=by
 rw[List.map_append,hK];rfl
def SubQ (M:Hp):Hp→Prop
 |[]=>True
 |(_,none)::t=>SubQ M t
 |(i,some bl)::t=>(∃ bl0,lk M i=some bl0∧bl.ro=bl0.ro∧∀ φ w b,BlAt φ w b bl0→BlAt φ w b bl)∧SubQ M t
theorem SubQ.op {M:Hp} {i ty g w:Nat} {cs:List S} {t:Hp} (h2:lk M i=opB ty g w cs) (k:SubQ M t):SubQ M ((i,opB ty g w cs)::t):=by
 cases cs with
 |nil=>exact k
 |cons c cs=>exact⟨⟨_,h2,rfl,fun _ _ _ h=>h⟩,k⟩
theorem SubQ.subF {M:Hp}:∀ {L:Hp},SubQ M L→SubF L M
 |[],_,i,bl,hi=>by cases hi
 |(j,none)::t,h,i,bl,hi=>by
  rw[lk_cons] at hi;split at hi
  ·cases hi
  ·exact SubQ.subF (L:=t) h i bl hi
 |(j,some b)::t,h,i,bl,hi=>by
  rw[lk_cons] at hi;split at hi
  ·rename_i e;subst e;cases hi;exact h.1
  ·exact SubQ.subF (L:=t) h.2 i bl hi
theorem BlAt.more {φ:Ph} {w:World} {b:Nat×Nat} {bl:Bl} (h:BlAt φ w b bl):BlAt φ w b {bl with more:=true,sym:=true}:=by
 obtain⟨pre,xs,rest,fr,h1,hp,h2,h3,h4,h5⟩:=h;exact⟨pre,xs,rest,fr,h1,hp,h2,(fun e=>by cases e),h4,h5⟩
theorem stE_32 {x:Nd} {k:Fo} {f1 f3:Stm} {lp:Int} {C:Cd} {B:List Nat} (h:x.op=32):stE x k f1 f3 lp C B=((f1 C.length (em (cod 4 k C) 25 0 []) [(cod 4 k C).length]).2.foldl (fun D j=>pat D j ((f1 C.length (em (cod 4 k C) 25 0 []) [(cod 4 k C).length]).1.length+1:Nat)) (em (f1 C.length (em (cod 4 k C) 25 0 []) [(cod 4 k C).length]).1 24 C.length []),B):=by
 unfold stE;rw[if_neg (by omega),if_neg (by omega),if_pos h]
theorem whE_32 {x:Nd} {w1 w3:Bool} (h:x.op=32):whE x w1 w3=true:=by
 unfold whE;rw[decide_eq_true h];rfl
theorem wh_kids {x:Nd} {k:Fo} {c:Int} (hv:(Fo.cons x k .nil).V [(false,c)]) (ho:x.op=32):
 ∃ e ke b1 l1,k=.cons e ke (.cons b1 l1 .nil)∧accB 101 e.op=true∧(Fo.cons e ke .nil).V [(false,101)]∧l1.V (List.replicate l1.cnt (false,83)):=by
 have hk2:=hv.2.1;rw[ho] at hk2;change k.V [(false,101),(true,83)] at hk2;obtain⟨e,ke,n,rfl,q1,q2,q3⟩:=V_e hk2;obtain⟨b1,l1,n2,rfl,g1,g2,g3⟩:=V_blk q3;have:=V_nil g1;subst this;exact⟨e,ke,b1,l1,rfl,q1,q2,g3⟩
theorem ZOK.cst {K:List S} (h:ZOK K) (st:Int) (x:Value):ZOK (K++[.int .u64 st,.cst x]):=by
 intro s hs
 rcases List.mem_append.1 hs with hs|hs
 ·exact h s hs
 ·rcases List.mem_cons.1 hs with rfl|hs
  ·exact⟨rfl,fun _=>rfl,fun _=>rfl⟩
  ·rcases List.mem_singleton.1 hs with rfl
   exact⟨rfl,fun _=>rfl,fun _=>rfl⟩
end Go.Proofs.YtbokilgdefkmiaaGreatDoor
