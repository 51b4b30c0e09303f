import Derived.Test.YtegjgpldfgjoiaaGreatDoorCnB09
set_option linter.unusedSimpArgs false
set_option linter.unusedVariables false
namespace Go.Proofs.YtegjgpldfgjoiaaGreatDoor
namespace Ab
open Go
section
variable {P:Program} {b:Nat} {ops:Array Oper} {d:Bool} {acc:List Row} {os:List Oper} {o:Oper} {env:List V} {n:Nat} {L:Hp} {R:Post}
structure CallG (P:Program) (ops:Array Oper) (d:Bool) (acc:List Row) (o:Oper) (f:FuncId) (xs:Array Operand) (os:List Oper) (env:List V) (n:Nat) (L:Hp) (R:Post):Prop where
 k:(∃ ts,o.op=.call {callee:=.value (.func f),args:=xs,argTypes:=ts})->RegX P ops d acc (o::os) env n L R
theorem RegX.atCall {dst:Option Tmp} {f:FuncId} {xs:Array Operand} {ts:Array TypeId} {t:TypeId} {pos:String} {af:Array Edge} {gd:Option (Nat×Bool)}
 (h:CallG P ops d acc ⟨dst,.call ⟨.value (.func f),xs,ts⟩,t,pos,af,gd⟩ f xs os env n L R):RegX P ops d acc (⟨dst,.call ⟨.value (.func f),xs,ts⟩,t,pos,af,gd⟩::os) env n L R:=h.k ⟨ts,rfl⟩
structure CmpG (P:Program) (ops:Array Oper) (d:Bool) (acc:List Row) (o:Oper) (os:List Oper) (env:List V) (n:Nat) (L:Hp) (R:Post):Prop where
 k:RegX P ops d acc (o::os) env n L R
theorem RegX.atCmp {dst:Option Tmp} {op:BinOp} {ty ty':TypeId} {x y:Operand} {t:TypeId} {pos:String} {af:Array Edge} {gd:Option (Nat×Bool)}
 (h:CmpG P ops d acc ⟨dst,.binOp op ty x y ty',t,pos,af,gd⟩ os env n L R):RegX P ops d acc (⟨dst,.binOp op ty x y ty',t,pos,af,gd⟩::os) env n L R:=h.k
variable {f:FuncId} {xs:Array Operand}
theorem CallG.we {args:List V} {v:V} (sc:FC P f args 0 [] v 0 []) {args1:List V} (ha:xs.toList.map (ev env)=args1) (hle:All2 VLe args1 args) (h1:args.all (okV 0)=true) (h2:okV 0 v=true)
 (hw:aI ops env o=some true) (k:RegX P ops d (av d o [] [] acc) os (aB env o.dst v) n L R):CallG P ops d acc o f xs os env n L R:=by
 refine⟨fun⟨ts,ho⟩=>?_⟩;obtain⟨hf,sc⟩:=sc;unfold kq at hf;split at hf
 ·rename_i fn hfn
  simp only[Bool.and_eq_true,Bool.not_eq_true'] at hf;have h:=SC.opW (tbl:=[]) (n:=n) (env:=env) (M:=[]) (M':=[]) sc h1 rfl ho rfl hfn hf.1 hf.2 (by rw[ha,qd h1];exact hle) rp (fun x bl h=>by simp[lk] at h);rw[kz h2] at h;exact RegX.op (foot:=[]) (wr:=[]) hw h (Nat.le_refl _) k
 ·cases hf
theorem CallG.pu {args:List V} {v:V} (sc:FC P f args 0 [] v 0 []) (ha:xs.toList.map (ev env)=args) (h1:args.all (okV 0)=true) (h2:okV 0 v=true)
 (hw:aI ops env o=some true) (k:RegX P ops d (av d o [] [] acc) os (aB env o.dst v) n L R):CallG P ops d acc o f xs os env n L R:=
 CallG.we sc ha (VLe.refls _) h1 h2 hw k
theorem CallG.me (tbl:List Nat) {args0:List V} {L0:Hp} {v0:V} {n0':Nat} {L0':Hp} (sc:FC P f args0 tbl.length L0 v0 n0' L0')
 (hchk:(args0.all (okV tbl.length)&&okH tbl.length L0&&eC L0 L0'&&bY (az L0')&&Nat.ble tbl.length n0'&&vV tbl n n0'&&xc tbl L0)=true) {args1:List V} (ha:xs.toList.map (ev env)=args1) (hle:All2 VLe args1 (args0.map (bv (rn tbl n)))) (ft:FitP tbl n (res tbl L) L0)
 (hw:aI ops env o=some true) {v:V} (hv:iX (bv (rn tbl n) v0) some=some v) {wr:Hp} (hwr:frc (bH tbl n L0 L0') [] some=some wr)
 (k:RegX P ops d (av d o tbl wr acc) os (aB env o.dst v) (n+(n0'-tbl.length)) (puts L wr) R):CallG P ops d acc o f xs os env n L R:=by
 refine⟨fun⟨ts,ho⟩=>?_⟩;obtain⟨hf,sc⟩:=sc;rw[dd] at hv;cases hv;rw[aQ] at hwr;cases hwr;simp only[Bool.and_eq_true] at hchk;obtain⟨⟨⟨⟨⟨⟨k1,k2⟩,k3⟩,k4⟩,k5⟩,k6⟩,k7⟩:=hchk;unfold kq at hf;split at hf
 ·rename_i fn hfn
  simp only[Bool.and_eq_true,Bool.not_eq_true'] at hf;have h:=SC.opW (n:=n) (env:=env) (M:=res tbl L) sc k1 k2 ho rfl hfn hf.1 hf.2 (ha▸hle) (Fits.of k6 k7 ft) (dT k3 k4);exact RegX.op hw h (Nat.le_add_right _ _) k
 ·cases hf
theorem CallG.xt {args:List V} {v:V} (hx:XT P f args v) (ha:xs.toList.map (ev env)=args)
 (hw:aI ops env o=some true) (k:RegX P ops d (av d o [] [] acc) os (aB env o.dst v) n L R):CallG P ops d acc o f xs os env n L R:=by
 refine⟨fun⟨ts,ho⟩=>?_⟩;have h:=XT.op (n:=n) (L:=[]) (env:=env) ho rfl (by rw[ha];exact hx);exact RegX.op (foot:=[]) (wr:=[]) hw h (Nat.le_refl _) k
theorem RegX.nilF (h2:R .normal env n L):RegX P ops false acc [] env n L R:=RegX.nil (by trivial) h2
theorem RegX.nilT (h1:h_ ops acc.reverse=true) (h2:R .normal env n L):RegX P ops true acc [] env n L R:=RegX.nil h1 h2
structure BrG (t:Bool) (K:Bool->Prop):Prop where
 k:K t
theorem CmpG.go {foot:List Nat} {t:Bool} {wr:Hp} {n':Nat} {as_:List Ans} {C:Prop} (hw:aI ops env o=some true) (h:aop P o env n L []=some ⟨⟨foot,.s (.bool t),wr,n'⟩,as_,C⟩) (hC:C)
 (k:BrG t fun t=>RegX P ops d (av d o foot wr acc) os (aB env o.dst (.s (.bool t))) n' (puts L wr) R):CmpG P ops d acc o os env n L R:=⟨RegX.opA [] hw h hC k.k⟩
theorem BrG.tt {K:Bool->Prop} (h:K true):BrG true K:=⟨h⟩
theorem BrG.ff {K:Bool->Prop} (h:K false):BrG false K:=⟨h⟩
theorem BrG.of {t:Bool} {p:Prop} {K:Bool->Prop} (hp:t=true↔p) (h1:p->K true) (h2: ¬p->K false):BrG t K:=by
 cases t with
 |true=>exact⟨h1 (hp.1 rfl)⟩
 |false=>exact⟨h2 fun e=>by have:=hp.2 e;cases this⟩
theorem BrG.eqI {a b:Int} {K:Bool->Prop} (h1:a=b->K true) (h2: ¬a=b->K false):BrG (a==b) K:=BrG.of beq_iff_eq h1 h2
theorem BrG.ltI {a b:Int} {K:Bool->Prop} (h1:a<b->K true) (h2: ¬a<b->K false):BrG (decide (a<b)) K:=BrG.of decide_eq_true_iff h1 h2
theorem BrG.eqS {a b:List UInt8} {K:Bool->Prop} (h1:a=b->K true) (h2: ¬a=b->K false):BrG (decide (a=b)) K:=BrG.of decide_eq_true_iff h1 h2
theorem BrG.neS {a b:List UInt8} {K:Bool->Prop} (h1: ¬a=b->K true) (h2:a=b->K false):BrG (!decide (a=b)) K:=BrG.of (by simp) h1 fun h=>h2 (Classical.not_not.1 h)
theorem BrG.any {t:Bool} {K:Bool->Prop} (h1:t=true->K true) (h2:t=false->K false):BrG t K:=by
 cases t with
 |true=>exact⟨h1 rfl⟩
 |false=>exact⟨h2 rfl⟩
theorem CallG.bo {args:List V} {t:Bool} (sc:FC P f args 0 [] (.s (.bool t)) 0 []) (ha:xs.toList.map (ev env)=args) (h1:args.all (okV 0)=true)
 (hw:aI ops env o=some true) (k:BrG t fun t=>RegX P ops d (av d o [] [] acc) os (aB env o.dst (.s (.bool t))) n L R):CallG P ops d acc o f xs os env n L R:=CallG.pu sc ha h1 rfl hw k.k
theorem CallG.wb {args:List V} {t:Bool} (sc:FC P f args 0 [] (.s (.bool t)) 0 []) {args1:List V} (ha:xs.toList.map (ev env)=args1) (hle:All2 VLe args1 args) (h1:args.all (okV 0)=true)
 (hw:aI ops env o=some true) (k:BrG t fun t=>RegX P ops d (av d o [] [] acc) os (aB env o.dst (.s (.bool t))) n L R):CallG P ops d acc o f xs os env n L R:=CallG.we sc ha hle h1 rfl hw k.k
theorem Then.normal {P:Program} {b:Nat} {y:Code} {R:Post} {e:List V} {n:Nat} {L:Hp} (h:Ex P b y e n L R):Then P b y R .normal e n L:=h
theorem InBlock.normal {i:Nat} {R:Post} {e:List V} {n:Nat} {L:Hp} (h:R .normal e n L):InBlock i R .normal e n L:=h
theorem InBlock.exit {i j:Nat} {R:Post} {e:List V} {n:Nat} {L:Hp} (h:match Nat.beq j i with|true=>R .normal e n L|false=>R (.exit j) e n L):InBlock i R (.exit j) e n L:=h
theorem InBlock.here {i:Nat} {R:Post} {e:List V} {n:Nat} {L:Hp} (h:R .normal e n L):InBlock i R (.exit i) e n L:=by
 show (match Nat.beq i i with|true=>R .normal e n L|false=>R (.exit i) e n L);rw[Nat.beq_refl];exact h
end
def DS (P:Program) (b:Nat):Code->List V->Nat->Hp->Post->Option Prop
 | .seq x y,e,n,L,R=>some (Ex P b x e n L (Then P b y R))
 | .block id c,e,n,L,R=>some (Ex P b c e n L (InBlock id R))
 | .skip,e,n,L,R=>some (R .normal e n L)
 | .region _ ops d,e,n,L,R=>some (RegX P ops d [] ops.toList e n L R)
 |_,_,_,_,_=>none
def DQ (P:Program) (b:Nat):Code->List V->Nat->Hp->Post->Option Prop
 | .cond c x y,e,n,L,R=>match ev e c with| .s (.bool true)=>some (Ex P b x e n L R)| .s (.bool false)=>some (Ex P b y e n L R)|_=>none
 |_,_,_,_,_=>none
theorem Ex.s {P:Program} {b:Nat} (hm:P.follows .mixedOrders=true) {c:Code} {e:List V} {n:Nat} {L:Hp} {R:Post} {G:Prop} (h:DS P b c e n L R=some G) (k:G):Ex P b c e n L R:=by
 unfold DS at h;split at h
 ·cases h;exact Ex.seq k
 ·cases h;exact Ex.block k
 ·cases h;exact Ex.skip k
 ·cases h;exact Ex.reg hm k
 ·cases h
theorem Ex.d {P:Program} {b:Nat} {c:Code} {e:List V} {n:Nat} {L:Hp} {R:Post} {G:Prop} (h:DQ P b c e n L R=some G) (k:G):Ex P b c e n L R:=by
 unfold DQ at h;split at h
 ·split at h
  ·cases h;exact Ex.condT ‹_› k
  ·cases h;exact Ex.condF ‹_› k
  ·cases h
 ·cases h
class SgE (Q:Prop) (Q':outParam Prop):Prop where
 go:Q'->Q
class SgL (Q:Prop) (Q':outParam Prop):Prop where
 go:Q'->Q
section
variable {P:Program} {b:Nat} {y:Code} {R:Post} {e:List V} {n i j:Nat} {L:Hp}
instance:SgE (Then P b y R .normal e n L) (Ex P b y e n L R):=⟨id⟩
instance {ops:Array Oper} {acc:List Row} {env:List V}:SgE (RegX P ops false acc [] env n L R) (R .normal env n L):=⟨RegX.nilF⟩
instance {K:Bool->Prop}:SgE (BrG true K) (K true):=⟨BrG.tt⟩
instance {K:Bool->Prop}:SgE (BrG false K) (K false):=⟨BrG.ff⟩
instance:SgL (Then P b y R (.exit i) e n L) (R (.exit i) e n L):=⟨id⟩
instance:SgL (Then P b y R .ret e n L) (R .ret e n L):=⟨id⟩
instance:SgL (InBlock i R .normal e n L) (R .normal e n L):=⟨id⟩
instance:SgL (InBlock i R (.exit i) e n L) (R .normal e n L):=⟨InBlock.here⟩
instance:SgL (InBlock i R .ret e n L) (R .ret e n L):=⟨id⟩
instance:SgL (Ex P b .ret e n L R) (R .ret e n L):=⟨Ex.ret⟩
instance:SgL (Ex P b (.exit i) e n L R) (R (.exit i) e n L):=⟨Ex.exit⟩
variable {σ:Type} {m m':Nat} {A:List Nat} {X:σ->List (Nat×V)} {env:List V} {H:σ->Hp} {I:σ->Prop} {mu:σ->Nat} {s:σ} {M:Hp}
instance:SgL (LoopR b m A X env H I mu s R (.exit i) e m' M) (R (.exit i) e m' M):=⟨id⟩
instance:SgL (LoopR b m A X env H I mu s R .ret e m' M) (R .ret e m' M):=⟨id⟩
theorem sE {Q Q':Prop} [g:SgE Q Q'] (h:Q'):Q:=g.go h
theorem sL {Q Q':Prop} [g:SgL Q Q'] (h:Q'):Q:=g.go h
variable {ops:Array Oper} {d:Bool} {acc:List Row} {os:List Oper} {xs:Array Operand} {ts:Array TypeId} {f:FuncId} {dst:Option Tmp} {op:BinOp} {ty ty' t:TypeId} {u v:Operand} {pos:String} {af:Array Edge} {gd:Option (Nat×Bool)}
theorem wC (h:CallG P ops d acc ⟨dst,.call ⟨.value (.func f),xs,ts⟩,t,pos,af,gd⟩ f xs os env n L R):RegX P ops d acc (⟨dst,.call ⟨.value (.func f),xs,ts⟩,t,pos,af,gd⟩::os) env n L R:=RegX.atCall h
theorem wF {o:Oper} (f:FuncId) (h:CallG P ops d acc o f xs os env n L R):CallG P ops d acc o f xs os env n L R:=h
theorem wq {foot:List Nat} {tt:Bool} {wr:Hp} {n':Nat} {as_:List Ans} {C:Prop} (hw:aI ops env ⟨dst,.binOp op ty u v ty',t,pos,af,gd⟩=some true) (h:aop P ⟨dst,.binOp op ty u v ty',t,pos,af,gd⟩ env n L []=some ⟨⟨foot,.s (.bool tt),wr,n'⟩,as_,C⟩) (hC:C)
 (k:BrG tt fun tt=>RegX P ops d (av d ⟨dst,.binOp op ty u v ty',t,pos,af,gd⟩ foot wr acc) os (aB env dst (.s (.bool tt))) n' (puts L wr) R):RegX P ops d acc (⟨dst,.binOp op ty u v ty',t,pos,af,gd⟩::os) env n L R:=RegX.atCmp (CmpG.go hw h hC k)
theorem wk {a:List Row} {os':List Oper} {e:List V} {m:Nat} {M:Hp} {C:Prop} (h:fV P ops d env false os acc [] n L=some (a,os',e,m,M,C)) (hC:C) (k:RegX P ops d a os' e m M R):RegX P ops d acc os env n L R:=RegX.chunk h hC k
theorem wc {c:Operand} {x y:Code} {t:Bool} (hc:ev env c=.s (.bool t)) (h1:t=true->Ex P b x env n L R) (h2:t=false->Ex P b y env n L R):Ex P b (.cond c x y) env n L R:=Ex.condS hc h1 h2
theorem wN (h1:h_ ops acc.reverse=true) (h2:R .normal env n L):RegX P ops true acc [] env n L R:=RegX.nilT h1 h2
end
class DecP (t:Bool) (p q:outParam Prop):Prop where
 yes:t=true->p
 no:t=false->q
instance (priority:=low) DecP.any (t:Bool):DecP t (t=true) (t=false):=⟨id,id⟩
instance DecP.eqI (a b:Int):DecP (a==b) (a=b) (¬a=b):=⟨fun h=>beq_iff_eq.1 h,fun h e=>by rw[beq_iff_eq.2 e] at h;cases h⟩
instance DecP.neI (a b:Int):DecP (a !=b) (¬a=b) (a=b):=⟨fun h=>bne_iff_ne.1 h,fun h=>Classical.byContradiction fun e=>by rw[bne_iff_ne.2 e] at h;cases h⟩
instance DecP.dec (p:Prop) [Decidable p]:DecP (decide p) p (¬p):=⟨of_decide_eq_true,of_decide_eq_false⟩
instance DecP.neS (a b:List UInt8):DecP (!decide (a=b)) (¬a=b) (a=b):=⟨fun h=>by simpa using h,fun h=>by simpa using h⟩
theorem wb {t:Bool} {K:Bool->Prop} {p q:Prop} [d:DecP t p q] (h1:p->K true) (h2:q->K false):BrG t K:=by
 cases t with
 |true=>exact⟨h1 (d.yes rfl)⟩
 |false=>exact⟨h2 (d.no rfl)⟩
section
variable {P:Program} {ops:Array Oper} {d:Bool} {acc:List Row} {os:List Oper} {o:Oper} {env:List V} {n:Nat} {L:Hp} {R:Post} {f:FuncId} {xs:Array Operand}
theorem pu {args:List V} {v:V} (sc:FC P f args 0 [] v 0 []) (k:RegX P ops d (av d o [] [] acc) os (aB env o.dst v) n L R) (ha:xs.toList.map (ev env)=args:=by exact rfl) (h1:args.all (okV 0)=true:=by exact rfl) (h2:okV 0 v=true:=by exact rfl) (hw:aI ops env o=some true:=by exact rfl):CallG P ops d acc o f xs os env n L R:=CallG.pu sc ha h1 h2 hw k
theorem bo {args:List V} {t:Bool} (sc:FC P f args 0 [] (.s (.bool t)) 0 []) (k:BrG t fun t=>RegX P ops d (av d o [] [] acc) os (aB env o.dst (.s (.bool t))) n L R) (ha:xs.toList.map (ev env)=args:=by exact rfl) (h1:args.all (okV 0)=true:=by exact rfl) (hw:aI ops env o=some true:=by exact rfl):CallG P ops d acc o f xs os env n L R:=CallG.bo sc ha h1 hw k
theorem cm {args0:List V} {L0:Hp} {v0:V} {n0':Nat} {L0':Hp} (sc:FC P f args0 1 L0 v0 n0' L0') {args1:List V} {v:V} {wr:Hp} (k:RegX P ops d (av d o [0] wr acc) os (aB env o.dst v) (n+(n0'-1)) (puts L wr) R)
 (hchk:(args0.all (okV 1)&&okH 1 L0&&eC L0 L0'&&bY (az L0')&&Nat.ble 1 n0'&&vV [0] n n0'&&xc [0] L0)=true:=by exact rfl) (ha:xs.toList.map (ev env)=args1:=by exact rfl) (hle:All2 VLe args1 (args0.map (bv (rn [0] n))):=by repeat first|exact trivial|refine⟨VLe.refl _,?_⟩) (ft:FitP [0] n (res [0] L) L0:=by exact⟨⟨rfl,_,rfl,rfl,fun h=>h⟩,trivial⟩)
 (hw:aI ops env o=some true:=by exact rfl) (hv:iX (bv (rn [0] n) v0) some=some v:=by exact rfl) (hwr:frc (bH [0] n L0 L0') [] some=some wr:=by exact rfl):CallG P ops d acc o f xs os env n L R:=CallG.me [0] sc hchk ha hle ft hw hv hwr k
end
theorem y0 {G:Prop} (h:G:=by with_reducible first|exact True.intro|exact aa (by omega) (by omega)):G:=h
theorem y1 {G G':Prop} (k:G') (h:G'->G:=by first|exact sE|exact Ex.s hm rfl):G:=h k
theorem y2 {G A B:Prop} (a:A) (b:B) (h:A->B->G:=by with_reducible exact And.intro):G:=h a b
theorem y3 {G G':Prop} (k:G') (h:G'->G:=by exact wq rfl rfl trivial):G:=h k
theorem y4 {G G':Prop} (k:G') (h:G'->G:=by first|exact Ex.d rfl|exact wN (by kernel_rfl)|exact sL|with_reducible exact w6 rfl):G:=h k
theorem y5 {G:Prop} (h:G:=by first|omega|rfl|(simp only[Nat.add_zero,Nat.zero_add];omega)):G:=h
theorem y6 {G:Prop} (h:G:=by first|contradiction|(exfalso;omega)):G:=h
theorem y7 {G A B:Prop} (a:A) (b:B) (h:A->B->G:=by exact wk rfl):G:=h a b
theorem y8 {G A B:Prop} (a:A) (b:B) (h:A->B->G:=by exact wb):G:=h a b
theorem y9 {G A B:Prop} (a:A) (b:B) (h:A->B->G:=by exact wc rfl):G:=h a b
section
variable {P:Program} {b:Nat} {ops:Array Oper} {d:Bool} {acc:List Row} {os:List Oper} {o:Oper} {env:List V} {n:Nat} {L:Hp} {R:Post}
theorem nY {φ:Ph} {t:TypeId} (hty:bd P t=true) {a:Addr} {m k:Nat} {ox oy:Operand} {op:BinOp} {r:Bool} (hop:(op=.eql/\r=false)\/(op=.neq/\r=true)) (w:World):
 (do eqGuard op t ox oy (.slice (some a) m k) (.slice none 0 0);binOp op t (.slice (some a) m k) (.slice none 0 0)).run P w=.ok (.bool r) w:=by
 unfold bd at hty;split at hty
 ·rename_i e hu
  have hg:(eqGuard op t ox oy (.slice (some a) m k) (.slice none 0 0)).run P w=.ok () w:=by unfold eqGuard;split<;>simp
  have he:(Op.equal t (.slice (some a) m k) (.slice none 0 0)).run P w=.ok false w:=e9 fun d=>gW d hu _ _ _ _ _
  rcases hop with ⟨rfl,rfl⟩|⟨rfl,rfl⟩
  ·simp only[Sem.run_bind,hg,Result.andThen_ok,binOp,he,Sem.run_pure]
  ·simp only[Sem.run_bind,hg,Result.andThen_ok,binOp,he,Sem.run_pure,Bool.not_false]
 ·cases hty
def sS:V->Prop
 | .s (.frz _ _ n)=>0<n
 | .s .emq=>True
 |_=>False
theorem yF {φ:Ph} {x:V} (h:sS x) {v:Value} (hv:Vr φ x v):∃ a m k,v=.slice (some a) m k:=by
 unfold sS at h;split at h
 ·cases hv with
  |nil get sz a k hk=>omega
  |frz get sz n b o k vs h1 hn val hl hv hx=>exact⟨_,_,_,rfl⟩
 ·obtain⟨a,k,rfl⟩:=hv;exact⟨_,_,_,rfl⟩
 ·exact h.elim
theorem CmpG.nn {dst:Option Tmp} {op:BinOp} {ty ty':TypeId} {x y:Operand} {t:TypeId} {pos:String} {af:Array Edge} {gd:Option (Nat×Bool)} {m:Nat} {c:Option Nat} (r:Bool) (hx:sS (ev env x)) (hy:ev env y=.s (.slc none m c)) (hop:(op=.eql/\r=false)\/(op=.neq/\r=true)) (hty:bd P ty=true)
 (hw:aI ops env ⟨dst,.binOp op ty x y ty',t,pos,af,gd⟩=some true) (k:RegX P ops d (av d ⟨dst,.binOp op ty x y ty',t,pos,af,gd⟩ [] [] acc) os (aB env dst (.s (.bool r))) n L R):
 CmpG P ops d acc ⟨dst,.binOp op ty x y ty',t,pos,af,gd⟩ os env n L R:=by
 refine⟨RegX.op (foot:=[]) (wr:=[]) hw (OpL.light fun φ a w hop' _=>?_) (Nat.le_refl _) k⟩;have g1:=hop' x (by simp[Op.operands]);have g2:=hop' y (by simp[Op.operands]);rw[hy] at g2;obtain⟨_,_,e2⟩:=g2;obtain⟨ad,m',k',e1⟩:=yF hx g1;refine⟨.bool r,?_,rfl⟩;have:=nY (P:=P) (φ:=φ) hty (a:=ad) (m:=m') (k:=k') (ox:=x) (oy:=y) hop w;rw[<-e1,<-e2] at this;simp only[execOp];rw[Sem.run_bind,this];rfl
theorem RegX.cap0 {dst:Option Tmp} {x:Operand} {tx:TypeId} {t:TypeId} {pos:String} {af:Array Edge} {gd:Option (Nat×Bool)} {m:Nat} {c:Option Nat} (hx:ev env x=.s (.slc none m c)) (hty:bd P tx=true)
 (hw:aI ops env ⟨dst,.call ⟨.builtin .cap,#[x],#[tx]⟩,t,pos,af,gd⟩=some true) (k:RegX P ops d (av d ⟨dst,.call ⟨.builtin .cap,#[x],#[tx]⟩,t,pos,af,gd⟩ [] [] acc) os (aB env dst (.s (.int .i64 0))) n L R):
 RegX P ops d acc (⟨dst,.call ⟨.builtin .cap,#[x],#[tx]⟩,t,pos,af,gd⟩::os) env n L R:=by
 refine RegX.op (foot:=[]) (wr:=[]) hw (OpL.light fun φ a w hop' _=>?_) (Nat.le_refl _) k;have g1:=hop' x (by simp[Op.operands,Call.operands]);rw[hx] at g1;obtain⟨_,_,e1⟩:=g1;refine⟨.int .i64 0,?_,rfl⟩;unfold bd at hty;split at hty
 ·rename_i e hu
  simp only[execOp,resolve,Sem.run_bind,Sem.run_pure,Result.andThen_ok,invoke,builtin,List.map_toArray,List.map_cons,List.map_nil,e1];simp[Builtin.cap_,run_underlying hu,goInt]
 ·cases hty
theorem mK {ts:Array TypeId} {ty t tx e:TypeId} {inf:TypeInfo} {k k':IntKind} {w:World} (h0:ts[0]? =some t) (h1:ts[1]? =some tx) (ht:P.underlying t=some (.slice e)) (hx:P.underlying tx=some (.int k)) (hi:P.info? e=some inf) {zv:Value} (hz:inf.zero=some zv) (hs:0<inf.size) {m:Nat}
 (hm:1<=m) (hbig:m*inf.bytes<=140737488355328) (hmax:m<=140737488355328):
 ∃ c,m<=c/\∃ rest:Array Value,rest.size=(c-m)*zv.cells.size/\(Builtin.append_ ts ty #[.slice none 0 0,.int k' (m:Int)]).run P w=.ok (.slice (some ⟨w.heap.size,0,none⟩) m c) {w with drawn:=w.drawn+1,heap:=w.heap.push (.cells (Builtin.zeroCells zv.cells m++rest) e)}:=by
 have hsz:(sizeOf e).run P w=.ok inf.size w:=by simp[sizeOf,typeInfo,hi]
 have hti:∀ w,(typeInfo e).run P w=.ok inf w:=fun w=>by simp[typeInfo,hi]
 have hzv:∀ w,(zeroValue e).run P w=.ok zv w:=fun w=>by simp[zeroValue,typeInfo,hi,hz]
 have c1: ¬(0+m<=0):=by omega
 have c2: ¬(((0+m:Nat):Int)>IntKind.i64.max/\(True\/inf.bytes=0)):=by
  have:IntKind.i64.max=9223372036854775807:=by decide
  rw[this];omega
 have c3: ¬(Builtin.nextslicecap (0+m) 0*inf.bytes>2^48):=by
  have:=growslice_fits (bytes:=inf.bytes) (old:=0) (need:=0+m) (by omega) (by rw[Nat.zero_add];exact hbig)
  have e48:(2:Nat)^48=281474976710656:=by decide
  omega
 have w1:IntKind.i64.wrap (m:Int)=m:=aa (by omega) (by omega)
 have c4: ¬((m:Int)<0):=by omega
 have c5: ¬((m:Int)*(inf.bytes:Int)>2^48):=by
  have e48:(2:Int)^48=281474976710656:=by decide
  rw[e48,<-Int.natCast_mul];omega
 have c6: ¬(m*inf.size=0):=by
  intro h
  rcases Nat.mul_eq_zero.1 h with h|h<;>omega
 refine⟨(Question.appendCap (0+m) 0 e).cut (w.tape w.drawn (.appendCap (0+m) 0 e)),by simp only[Question.cut];omega,Builtin.zeroCells zv.cells ((Question.appendCap (0+m) 0 e).cut (w.tape w.drawn (.appendCap (0+m) 0 e))-(0+m)),by rw[dW,Nat.zero_add],?_⟩;unfold Builtin.append_;simp only[h0,h1,List.getElem?_toArray,List.getElem?_cons_zero,List.getElem?_cons_succ,Sem.run_bind,Ab.run_underlying ht,Ab.run_underlying hx,Result.andThen_ok,hsz,Sem.run_pure,asInt,asIntOf,w1,if_neg c4,hti,if_neg c5,if_true,Int.toNat_natCast];simp only[Bool.not_true,Bool.false_eq_true,if_false,if_neg c1,if_neg c2,if_neg c3,if_neg c6,Sem.run_bind,Result.andThen_ok,Sem.run_pure,hti,run_choose,Question.forced,run_askRoom,hzv,newRow,run_newObj];simp[Builtin.firstCells,newRow];rfl
theorem RegX.mkz {dst:Option Tmp} {x y:Operand} {t tx e:TypeId} {t':TypeId} {pos:String} {af:Array Edge} {gd:Option (Nat×Bool)} {inf:TypeInfo} {zs:List S} {ki k':IntKind} {z:Int} {c:Option Nat} {mm:Nat} {op':Op} (m:Nat)
 (hop:op'=.call ⟨.builtin .append,#[x,y],#[t,tx]⟩)
 (hx:ev env x=.s (.slc none mm c)) (hy:ev env y=.s (.int k' z)) (ht:P.underlying t=some (.slice e)) (htx:P.underlying tx=some (.int ki)) (hi:P.info? e=some inf) (hz:cx P e=some zs) (hsz:inf.size=zs.length) (hs0:Nat.blt 0 inf.size=true)
 (hm:z=(m:Int)) (h1:1<=m) (hbig:m*inf.bytes<=140737488355328) (hmax:m<=140737488355328)
 (hw:aI ops env ⟨dst,op',t',pos,af,gd⟩=some true)
 (k:RegX P ops d (av d ⟨dst,op',t',pos,af,gd⟩ [] [(n,some {cells:=rep m zs,ty:=e,more:=true,sym:=true,flat:=zs.all bD,gh:=some (n+1,inf.size)})] acc) os (aB env dst (.s (.sla n (n+1) m))) (n+2) (puts L [(n,some {cells:=rep m zs,ty:=e,more:=true,sym:=true,flat:=zs.all bD,gh:=some (n+1,inf.size)})]) R):
 RegX P ops d acc (⟨dst,op',t',pos,af,gd⟩::os) env n L R:=by
 subst hm hop;refine RegX.op (foot:=[]) (wr:=[(n,some {cells:=rep m zs,ty:=e,more:=true,sym:=true,flat:=zs.all bD,gh:=some (n+1,inf.size)})]) hw ?_ (by omega) k;refine OpL.moved (bi:=none) (fun φ a w hop _=>?_) rfl;have g1:=hop x (by simp[Op.operands,Call.operands]);have g2:=hop y (by simp[Op.operands,Call.operands]);rw[hx] at g1;rw[hy] at g2;obtain⟨_,_,e1⟩:=g1;have e2:a.eval y=.int k' (m:Int):=g2;obtain⟨zv,hzr,hall⟩:=dV hz w
 have hzv:inf.zero=some zv:=by
  unfold cx at hz;rw[hi] at hz
  cases hq:inf.zero with
  |none=>simp[hq] at hz
  |some zq=>
   have:zq=zv:=by simp[zeroValue,typeInfo,hi,hq] at hzr;exact hzr
   rw[this]
 have hzs:zv.cells.size=zs.length:=by rw[<-Array.length_toList];exact (hall ⟨fun _=>none,fun _=>none⟩).len
 obtain⟨cp,hcp,rest,hrs,hrun⟩:=mK (ts:= #[t,tx]) (ty:=t') (k':=k') (w:=w) rfl rfl ht htx hi hzv (al.1 hs0) (m:=m) h1 hbig hmax;refine⟨(w.heap.size,0),cp,{w with drawn:=w.drawn+1,heap:=w.heap.push (.cells (Builtin.zeroCells zv.cells m++rest) e)},?_,rfl,rfl,rfl,hcp,by simp,fun c hc _=>?_,fun h=>absurd h (Nat.lt_irrefl _),fun φ' hle hk'=>?_⟩
 ·simp only[execOp,resolve,Sem.run_bind,Sem.run_pure,Result.andThen_ok,invoke,builtin,List.map_toArray,List.map_cons,List.map_nil,e1,e2,hrun]
 ·show (w.heap.push _)[c]? =_
  rw[Array.getElem?_push_lt hc];simp[hc]
 ·refine⟨[],(Builtin.zeroCells zv.cells m).toList,rest.toList,(0,0),?_,rfl,?_,(fun e=>by cases e),(fun _ o' ho'=>by simp),⟨fun g q e'=>?_,fun g e'=>(by cases e')⟩⟩
  ·show (w.heap.push _)[w.heap.size]? =_
   simp[bC]
  ·have:=ya (φ:=(Bl.mk (rep m zs) e true false true (zs.all bD) (some (n+1,inf.size)) none none).ph φ') (hall _) m
   simpa [Builtin.zeroCells] using this
  ·simp only[Option.some.injEq,Prod.mk.injEq] at e'
   obtain⟨rfl,rfl⟩:=e';refine⟨cp,hk',?_⟩;simp only[List.length_append,Array.length_toList,hrs,dW,hzs,hsz];rw[<-Nat.add_mul];exact Nat.mul_le_mul_right _ (by omega)
theorem SC.split2 {f:FuncId} {pre post:List V} {a a1 a2:V} {v:V} {n':Nat} {L':Hp} (h:∀ φ x,Vr φ a x->Vr φ a1 x\/Vr φ a2 x)
 (h1:SC P f (pre++a1::post) n L v n' L') (h2:SC P f (pre++a2::post) n L v n' L'):SC P f (pre++a::post) n L v n' L':=by
 intro φ xs w hx hg hf
 have key:∀ (pre:List V) (xs:List Value),All2 (Vr φ) (pre++a::post) xs->All2 (Vr φ) (pre++a1::post) xs\/All2 (Vr φ) (pre++a2::post) xs:=by
  intro pre
  induction pre with
  |nil=>
   intro xs hx
   cases xs with
   |nil=>exact hx.elim
   |cons x xs=>rcases h φ x hx.1 with h'|h'
               ·exact .inl ⟨h',hx.2⟩
               ·exact .inr ⟨h',hx.2⟩
  |cons p pre ih=>
   intro xs hx
   cases xs with
   |nil=>exact hx.elim
   |cons x xs=>rcases ih xs hx.2 with h'|h'
               ·exact .inl ⟨hx.1,h'⟩
               ·exact .inr ⟨hx.1,h'⟩
 rcases key pre xs hx with h'|h'
 ·exact h1 φ xs w h' hg hf
 ·exact h2 φ xs w h' hg hf
theorem ik {get:Nat->List S} {sz:Nat} {φ:Ph} {x:Value} (h:Vr φ (.s (.frz get sz 0)) x):Vr φ (.s (.slc none 0 (some 0))) x\/Vr φ (.s .emq) x:=by
 have h:Pr φ.z (.frz get sz 0) x:=h
 cases h with
 |nil _ _ a k hk=>
  cases a with
  |none=>rw[hk rfl];exact .inl ⟨rfl,rfl,rfl⟩
  |some a=>exact .inr ⟨a,k,rfl⟩
 |frz _ _ _ b o k vs=>exact .inr ⟨_,_,rfl⟩
theorem SLe.slaemq {i g:Nat}:SLe (.sla i g 0) .emq:=fun φ x h=>by
 obtain⟨b,k,_,_,e,_⟩:=h;exact⟨_,_,e⟩
theorem SLe.emqfrz {get:Nat->List S} {sz:Nat}:SLe .emq (.frz get sz 0):=fun φ x h=>by
 obtain⟨a,k,e⟩:=h;subst e;exact Pr.nil _ _ (some a) k (fun h=>nomatch h)
theorem lW {α:Type} (g:α->List S) (d:α) (l:List α):bQ (fun k=>g (l.getD k d)) l.length=l.flatMap g:=by
 have key:∀ k,k<=l.length->bQ (fun k=>g (l.getD k d)) k=(l.take k).flatMap g:=by
  intro k
  induction k with
  |zero=>intro _;rfl
  |succ k ih=>
   intro h;rw[il,ih (by omega),List.take_add_one,List.flatMap_append];congr 1;rw[List.getElem?_eq_getElem (by omega),List.getD_eq_getElem?_getD,List.getElem?_eq_getElem (by omega)];simp
 rw[key _ (Nat.le_refl _),List.take_length]
theorem wI {bl:Bl} {l:List S} (h1:∀ x∈l,bD x=true):aR bl l=true:=by
 unfold aR
 have nj:∀ x,bD x=true->nJ x=true:=fun x h=>by cases x<;>first|rfl|cases h
 split
 ·exact List.all_eq_true.2 h1
 ·exact List.all_eq_true.2 fun x hx=>nj x (h1 x hx)
theorem RegX.nilTo {dst:Option Tmp} {x y:Operand} {tx e:TypeId} {t:TypeId} {pos:String} {af:Array Edge} {gd:Option (Nat×Bool)} {m:Nat} {c:Option Nat} {k':IntKind} {z:Int} {sz:Nat} (hx:ev env x=.s (.slc none m c)) (hy:ev env y=.s (.int k' z)) (hz:z=0) (hty:P.underlying tx=some (.slice e)) (hsz:aF P e=some sz)
 (hw:aI ops env ⟨dst,.slice tx x none (some y) none,t,pos,af,gd⟩=some true) (k:RegX P ops d (av d ⟨dst,.slice tx x none (some y) none,t,pos,af,gd⟩ [] [] acc) os (aB env dst (.s (.slc none 0 (some 0)))) n L R):
 RegX P ops d acc (⟨dst,.slice tx x none (some y) none,t,pos,af,gd⟩::os) env n L R:=by
 refine RegX.op (foot:=[]) (wr:=[]) hw (OpL.light fun φ a w hop' _=>?_) (Nat.le_refl _) k;have g1:=hop' x (by simp[Op.operands]);have g2:=hop' y (by simp[Op.operands]);rw[hx] at g1;rw[hy,hz] at g2;obtain⟨_,_,e1⟩:=g1;have e2:a.eval y=.int k' 0:=g2;refine⟨.slice none 0 0,?_,rfl,rfl,rfl⟩;have w0:IntKind.i64.wrap 0=0:=aa (by omega) (by omega)
 have hsb:(Instr.sliceBounds true 0 0 none (some (.int k' 0)) none).run P w=.ok (0,0,0) w:=by simp[Instr.sliceBounds,Instr.sliceBound,asIntOf,asInt,w0]
 simp only[execOp,e1,e2,Option.map_none,Option.map_some,Instr.sliceAt,Instr.slice,Sem.run_bind,run_underlying hty,Result.andThen_ok,hsb,ao hsz,Sem.run_pure,if_true,Nat.sub_self]
def sU:V->Prop
 | .s (.frz _ _ n)=>n=0
 | .s .emq=>True
 | .s (.slc none _ _)=>True
 |_=>False
theorem yI {φ:Ph} {x:V} (h:sU x) {v:Value} (hv:Vr φ x v):∃ a k,v=.slice a 0 k:=by
 unfold sU at h;split at h
 ·subst h;exact m7 hv
 ·obtain⟨a,k,rfl⟩:=hv;exact⟨_,_,rfl⟩
 ·obtain⟨_,_,rfl⟩:=hv;exact⟨_,_,rfl⟩
 ·exact h.elim
theorem RegX.apNil {dst:Option Tmp} {x y:Operand} {t tx e:TypeId} {t':TypeId} {pos:String} {af:Array Edge} {gd:Option (Nat×Bool)} {inf:TypeInfo} {dx:TypeDesc} {c:Option Nat} {mm:Nat}
 (hx:ev env x=.s (.slc none mm c)) (hy:sU (ev env y)) (ht:P.underlying t=some (.slice e)) (htx:P.underlying tx=some dx) (hdx:jv dx=true) (hi:P.info? e=some inf)
 (hw:aI ops env ⟨dst,.call ⟨.builtin .append,#[x,y],#[t,tx]⟩,t',pos,af,gd⟩=some true)
 (k:RegX P ops d (av d ⟨dst,.call ⟨.builtin .append,#[x,y],#[t,tx]⟩,t',pos,af,gd⟩ [] [] acc) os (aB env dst (.s (.slc none 0 (some 0)))) n L R):
 RegX P ops d acc (⟨dst,.call ⟨.builtin .append,#[x,y],#[t,tx]⟩,t',pos,af,gd⟩::os) env n L R:=by
 refine RegX.op (foot:=[]) (wr:=[]) hw (OpL.light fun φ a w hop' _=>?_) (Nat.le_refl _) k;have g1:=hop' x (by simp[Op.operands,Call.operands]);have g2:=hop' y (by simp[Op.operands,Call.operands]);rw[hx] at g1;obtain⟨_,_,e1⟩:=g1;obtain⟨ad,k',e2⟩:=yI hy g2;refine⟨.slice none 0 0,?_,rfl,rfl,rfl⟩
 have hsz:(sizeOf e).run P w=.ok inf.size w:=by simp[sizeOf,typeInfo,hi]
 have hnew:(Builtin.firstCells inf.size 0 (.slice ad 0 k')).run P w=.ok #[] w:=by
  cases ad<;>simp[Builtin.firstCells,loadCells,loadCellsFrom]
 have hrun:(Builtin.append_ #[t,tx] t' #[.slice none 0 0,.slice ad 0 k']).run P w=.ok (.slice none 0 0) w:=by
  unfold Builtin.append_;simp only[List.getElem?_toArray,List.getElem?_cons_zero,List.getElem?_cons_succ,Sem.run_bind,Ab.run_underlying ht,Ab.run_underlying htx,Result.andThen_ok,hsz,Sem.run_pure];have hlen:(Builtin.lenOf (.slice ad 0 k')).run P w=.ok 0 w:=rfl
  cases dx<;>first|(cases hdx;done)|(simp only[Bool.false_eq_true,if_false,Bool.not_false,if_true,hlen,Sem.run_bind,Result.andThen_ok,Sem.run_pure,Nat.add_zero,Nat.le_refl,hnew])
 simp only[execOp,resolve,Sem.run_bind,Sem.run_pure,Result.andThen_ok,invoke,builtin,List.map_toArray,List.map_cons,List.map_nil,e1,e2,hrun]
def AT:Nat->List Oper->List Oper->Option (List Oper×List Oper)
 |0,os,acc=>some (acc.reverse,os)
 |_+1,[],_=>none
 |k+1,o::os,acc=>AT k os (o::acc)
theorem vl:∀ (k:Nat) (os acc a b:List Oper),AT k os acc=some (a,b)->a++b=acc.reverse++os
 |0,os,acc,a,b,h=>by simp only[AT,Option.some.injEq,Prod.mk.injEq] at h;obtain⟨rfl,rfl⟩:=h;rfl
 |k+1,[],acc,a,b,h=>by cases h
 |k+1,o::os,acc,a,b,h=>by
  simp only[AT] at h;have:=vl k os (o::acc) a b h
  simpa using this
theorem Ce {base:List V} (tl:List Oper):∀ (os:List Oper) (s:Bool) (acc:List Row) (u:List (Nat×V)) (n:Nat) (L:Hp) (a:List Row) (os':List Oper) (e:List V) (m:Nat) (M:Hp) (C:Prop),Srt u->
 fV P ops d base s os acc u n L=some (a,os',e,m,M,C)->(∀ y∈u,y.1<base.length)/\(C->RegX P ops d a (os'++tl) e m M R->RegX P ops d acc (os++tl) (ap base u) n L R):=by
 intro os
 induction os with
 |nil=>
  intro s acc u n L a os' e m M C hs h;unfold fV at h;obtain⟨h1,rfl,rfl,rfl,rfl,rfl⟩:=gH hs h;exact⟨h1,fun _ k=>k⟩
 |cons o os ih=>
  intro s acc u n L a os' e m M C hs h
  have stop:fQ s acc (o::os) base u n L=some (a,os',e,m,M,C)->(∀ y∈u,y.1<base.length)/\(C->RegX P ops d a (os'++tl) e m M R->RegX P ops d acc (o::os++tl) (ap base u) n L R):=by
   intro h;obtain⟨h1,rfl,rfl,rfl,rfl,rfl⟩:=gH hs h;exact⟨h1,fun _ k=>k⟩
  unfold fV at h;split at h
  ·rename_i hw
   split at h
   ·exact stop h
   ·split at h
    ·rename_i foot v wr n' as_ C1 ha
     rw[aQ,aQ] at h
     have go:∀ (acc':List Row),acc'=av d o foot wr acc->xb C1 (fV P ops d base true os acc' (oY o.dst v u) n' (puts L wr))=some (a,os',e,m,M,C)->(∀ y∈u,y.1<base.length)/\(C->RegX P ops d a (os'++tl) e m M R->RegX P ops d acc (o::os++tl) (ap base u) n L R):=by
      intro acc' hacc h;obtain⟨D,h1,h2⟩:=nw h;obtain⟨k1,k2⟩:=ih _ _ _ _ _ _ _ _ _ _ _ (iT hs) h1;have ku:=iU k1;refine⟨ku,fun hC k=>?_⟩;obtain⟨hc1,hc2⟩:=h2 hC;rw[pa hs ku] at ha hw;rw[iy] at hw;obtain⟨q1,q2⟩:=vx (show Dy P o (ap base u) n L=_ from ha) hc1;refine RegX.op hw q1 q2 ?_;have:=k2 hc2 k;rw[kL hs,hacc] at this;exact this
     cases d with
     |true=>exact go _ rfl h
     |false=>exact go _ rfl h
    ·exact stop h
  ·rename_i hw
   rw[aQ] at h
   have go:∀ (acc':List Row),acc'=av d o [] [] acc->fV P ops d base true os acc' (oY o.dst .undef u) n L=some (a,os',e,m,M,C)->(∀ y∈u,y.1<base.length)/\(C->RegX P ops d a (os'++tl) e m M R->RegX P ops d acc (o::os++tl) (ap base u) n L R):=by
    intro acc' hacc h;obtain⟨k1,k2⟩:=ih _ _ _ _ _ _ _ _ _ _ _ (iT hs) h;have ku:=iU k1;refine⟨ku,fun hC k=>?_⟩;rw[pa hs ku,iy] at hw;refine RegX.skip hw ?_;have:=k2 hC k;rw[kL hs,hacc] at this;exact this
   cases d with
   |true=>exact go _ rfl h
   |false=>exact go _ rfl h
  ·exact stop h
theorem RegX.chunkN (k:Nat) {os1 os2:List Oper} {a:List Row} {e:List V} {m:Nat} {M:Hp} {C:Prop} (hcut:AT k os []=some (os1,os2)) (h:fV P ops d env false os1 acc [] n L=some (a,[],e,m,M,C)) (hC:C) (kk:RegX P ops d a os2 e m M R):RegX P ops d acc os env n L R:=by
 have e1:=vl k os [] os1 os2 hcut;have:=(Ce (R:=R) os2 os1 false acc [] n L a [] e m M C trivial h).2 hC kk;rw[e1] at this;exact this
theorem RegX.eqv (t:Nat) {v:V} {env':List V} (h:env.getD t .undef=v) (he:env.set t v=env') (k:RegX P ops d acc os env' n L R):RegX P ops d acc os env n L R:=by
 have:env'=env:=by
  subst h;rw[<-he]
  rcases Nat.lt_or_ge t env.length with ht|ht
  ·rw[List.getD_eq_getElem?_getD,List.getElem?_eq_getElem ht];simp
  ·rw[List.set_eq_of_length_le ht]
 rw[<-this];exact k
theorem RegX.app (ans:List Ans) {dst:Option Tmp} {xs:Array Operand} {ts:Array TypeId} {t:TypeId} {pos:String} {af:Array Edge} {gd:Option (Nat×Bool)} {foot:List Nat} {v:V} {wr:Hp} {n':Nat} {as_:List Ans} {C:Prop}
 (hw:aI ops env ⟨dst,.call ⟨.builtin .append,xs,ts⟩,t,pos,af,gd⟩=some true) (h:aop P ⟨dst,.call ⟨.builtin .append,xs,ts⟩,t,pos,af,gd⟩ env n L ans=some ⟨⟨foot,v,wr,n'⟩,as_,C⟩) (hC:C)
 {wr':Hp} (hwr:frc wr [] some=some wr') {L':Hp} (hL:frc (puts L wr) [] some=some L') {env':List V} (he:eY (aB env dst v) [] some=some env')
 (k:RegX P ops d (av d ⟨dst,.call ⟨.builtin .append,xs,ts⟩,t,pos,af,gd⟩ foot wr acc) os env' n' L' R):RegX P ops d acc (⟨dst,.call ⟨.builtin .append,xs,ts⟩,t,pos,af,gd⟩::os) env n L R:=by
 rw[aQ] at hL;rw[gO] at he;cases hL;cases he;exact RegX.opA ans hw h hC k
theorem Ex.upN {n':Nat} {c:Code} (hn:n<=n') (h:Ex P b c env n' L R):Ex P b c env n L R:=
 fun φ a w h1 h2 h3 h4=>h φ a w h1 h2 (fun i hi=>h3 i (Nat.le_trans hn hi)) (Nat.le_trans h4 hn)
def SubF (L' L:Hp):Prop:=∀ i bl',lk L' i=some bl'->∃ bl,lk L i=some bl/\bl'.ro=bl.ro/\∀ φ w b,BlAt φ w b bl->BlAt φ w b bl'
theorem Wr.subF {φ:Ph} {L' L:Hp} (hs:SubF L' L) {b:Nat} (h:Wr φ L' b):Wr φ L b:=by
 obtain⟨i,bl,c,hi,h1,h2,h3⟩:=h;obtain⟨bl0,e1,e2,_⟩:=hs i bl hi;exact⟨i,bl0,c,e1,h1,h2,e2▸h3⟩
theorem Good.subF {φ:Ph} {L' L:Hp} {w:World} (h:Good φ L w) (hs:SubF L' L):Good φ L' w:=by
 refine⟨fun i bl hi=>?_,fun i j bl bl' b b' hi hj hb hb' e=>?_,fun b l hb=>⟨(h.fz b l hb).1,fun hw=>(h.fz b l hb).2 (hw.subF hs)⟩,h.gz⟩
 ·obtain⟨bl0,e1,_,e3⟩:=hs i bl hi
  obtain⟨b,hb,hat⟩:=h.hr i bl0 e1;exact⟨b,hb,e3 φ w b hat⟩
 ·obtain⟨x,e1,e2,_⟩:=hs i bl hi
  obtain⟨y,f1,f2,_⟩:=hs j bl' hj;rw[e2,f2];exact h.inj i j x y b b' e1 f1 hb hb' e
theorem Ex.subF {L':Hp} {c:Code} (h:SubF L' L) (k:Ex P b c env n L' R):Ex P b c env n L R:=by
 intro φ a w h1 h2 h3 h4;refine wp_mono (k φ a w h1 (h2.subF h) h3 h4) ?_;rintro x a' w' ⟨φ',e,m,M,hR,k1,k2,k3,k4,k5,k6⟩;refine⟨φ',e,m,M,hR,k1,k2,k3,k4,⟨k5.os,k5.tape,k5.output,k5.size,fun b hb hn=>k5.keep b hb fun hw=>hn (hw.subF h),fun j bl b hj hb hlt=>?_,k5.zle,fun x l hx=>?_⟩,k6⟩
 ·obtain⟨k,bl',c,hk,q1,q2,q3,q4⟩:=k5.fresh j bl b hj hb hlt
  obtain⟨bl0,e1,e2,_⟩:=h k bl' hk;exact⟨k,bl0,c,e1,q1,q2,fun hr=>q3 (e2.trans hr),q4.imp id fun hr=>e2▸hr⟩
 ·rcases k5.zfr x l hx with q|q|q
  ·exact .inl q
  ·exact .inr (.inl q)
  ·exact .inr (.inr (q.subF h))
theorem BlAt.flat {φ:Ph} {w:World} {b:Nat×Nat} {bl:Bl} (hc:bl.cells.all bD=true) (h:BlAt φ w b bl):BlAt φ w b {bl with flat:=true}:=by
 obtain⟨pre,xs,rest,fr,h1,h2,h3,h4,h5,h6⟩:=h;refine⟨pre,xs,rest,fr,h1,h2,?_,h4,h5,h6⟩
 have hz:∀ x l,(bl.ph φ).z x=some l->(⟨fun _=>none,φ.z⟩:Ph).z x=some l:=fun x l e=>by rw[Bl.ph_z] at e;exact e
 exact eR hz hc h3
theorem Ex.flat (i:Nat) {bl:Bl} {c:Code} (hl:lk L i=some bl) (hf:bl.flat=false) (hc:bl.cells.all bD=true) {L':Hp} (hL:puts L [(i,some {bl with flat:=true})]=L') (k:Ex P b c env n L' R):Ex P b c env n L R:=by
 refine Ex.subF (L':=L') (fun j bl' hj=>?_) k;rw[<-hL] at hj;simp only[puts,ax] at hj;split at hj
 ·rename_i e;subst e;cases hj
  exact⟨bl,hl,rfl,fun φ w b=>BlAt.flat hc⟩
 ·exact⟨bl',hj,rfl,fun _ _ _ h=>h⟩
def Unr (P:Program) (b:Nat) (c:Code) (R:Post):Nat->Post
 |0,.normal,_,_,_=>False
 |k+1,.normal,e,m,M=>Ex P b c e m M (Unr P b c R k)
 |_,x,e,m,M=>R x e m M
theorem Unr.exit {c:Code} {k i:Nat} (h:R (.exit i) env n L):Unr P b c R k (.exit i) env n L:=by cases k<;>exact h
theorem Unr.ret {c:Code} {k:Nat} (h:R .ret env n L):Unr P b c R k .ret env n L:=by cases k<;>exact h
theorem Ex.unroll {c:Code} (k:Nat) (h:Ex P b c env n L (Unr P b c R k)):Ex P b (.loop c) env n L R:=by
 intro φ a w h1 h2 h3 h4;refine wp_loop_rounds (k+1) ?_
 have key:∀ k env n L φ₁ a₁ w₁,Ex P b c env n L (Unr P b c R k)->EnvR φ₁ env a₁->Good φ₁ L w₁->(∀ i,n<=i->φ₁ i=none)->b<=n->∀ (φ₀:Ph) (L₀:Hp) (w₀:World),Stp φ₀ L₀ w₀ φ₁ L w₁->(∀ i,i<b->φ₁ i=φ₀ i)->
  Code.rounds P c (fun x a' w'=>∃ φ' env' n' L',R x env' n' L'/\EnvR φ' env' a'/\Good φ' L' w'/\(∀ i,n'<=i->φ' i=none)/\b<=n'/\Stp φ₀ L₀ w₀ φ' L' w'/\(∀ i,i<b->φ' i=φ₀ i)) (k+1) a₁ w₁:=by
  intro k
  induction k with
  |zero=>
   intro env n L φ₁ a₁ w₁ hE h1 h2 h3 h4 φ₀ L₀ w₀ h5 h6;rw[rounds_succ];refine wp_mono (hE φ₁ a₁ w₁ h1 h2 h3 h4) ?_;rintro x a' w' ⟨φ',e,m,M,hR,k1,k2,k3,k4,k5,k6⟩
   cases x with
   |normal=>exact hR.elim
   |_=>exact⟨φ',e,m,M,hR,k1,k2,k3,k4,h5.trans k5,fun i hi=>(k6 i hi).trans (h6 i hi)⟩
  |succ k ih=>
   intro env n L φ₁ a₁ w₁ hE h1 h2 h3 h4 φ₀ L₀ w₀ h5 h6;rw[rounds_succ];refine wp_mono (hE φ₁ a₁ w₁ h1 h2 h3 h4) ?_;rintro x a' w' ⟨φ',e,m,M,hR,k1,k2,k3,k4,k5,k6⟩
   cases x with
   |normal=>
    simp only[Exit.then];exact ih e m M φ' a' w' hR k1 k2 k3 k4 φ₀ L₀ w₀ (h5.trans k5) (fun i hi=>(k6 i hi).trans (h6 i hi))
   |_=>exact⟨φ',e,m,M,hR,k1,k2,k3,k4,h5.trans k5,fun i hi=>(k6 i hi).trans (h6 i hi)⟩
 exact key k env n L φ a w h h1 h2 h3 h4 φ L w (Stp.refl _ _ _) (fun _ _=>rfl)
theorem xu (keep:List Nat):∀ (i:Nat) (env:List V),(∀ j,i<=j->j<i+env.length->keep.elem j=true)->wkE keep i env=env
 |_,[],_=>rfl
 |i,v::t,h=>by
  simp only[wkE];rw[h i (Nat.le_refl _) (by simp),xu keep (i+1) t (fun j h1 h2=>h j (by omega) (by simp only[List.length_cons];omega))]
theorem To.move {e e':List V} {M M':Hp} (tbl:List Nat) (h1:All2 VLe e (e'.map (bv (rn tbl 0)))) (hl:MemP (rn tbl 0) M M') (ok:oz b tbl e' M'=true):To b tbl.length e M e' M':=by
 intro φ₀ φ L₀ w₀ w a k1 k2 k3
 refine To.by (List.range (e'.map (bv (rn tbl 0))).length) tbl rfl (xu _ 0 _ fun j _ hj=>?_) hl ok φ₀ φ L₀ w₀ w a ⟨k1.1,VLe.all h1 k1.2⟩ k2 k3
 rw[List.elem_eq_mem];simpa using hj
theorem LoopR.move {σ:Type} {m:Nat} {A:List Nat} {X:σ->List (Nat×V)} {H:σ->Hp} {I:σ->Prop} {mu:σ->Nat} {s:σ} {e:List V} {m':Nat} {M:Hp} (s':σ) (hI:I s') (hmu:mu s'<mu s) (tbl:List Nat) (hm':tbl.length=m)
 (h1:All2 VLe e ((nP A (X s') 0 env).map (bv (rn tbl 0)))) (hl:MemP (rn tbl 0) M (H s')) (ok:oz b tbl (nP A (X s') 0 env) (H s')=true):
 LoopR b m A X env H I mu s R .normal e m' M:=
 ⟨s',hI,hmu,by subst hm';exact To.move tbl h1 hl ok⟩
end
instance {P:Program} {b k i:Nat} {c:Code} {R:Post} {e:List V} {n:Nat} {L:Hp}:SgL (Unr P b c R k (.exit i) e n L) (R (.exit i) e n L):=⟨Unr.exit⟩
instance {P:Program} {b k:Nat} {c:Code} {R:Post} {e:List V} {n:Nat} {L:Hp}:SgL (Unr P b c R k .ret e n L) (R .ret e n L):=⟨Unr.ret⟩
end Ab
end Go.Proofs.YtegjgpldfgjoiaaGreatDoor
