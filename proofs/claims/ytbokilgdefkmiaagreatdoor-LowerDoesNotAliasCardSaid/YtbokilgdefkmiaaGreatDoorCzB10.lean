import Derived.Test.YtbokilgdefkmiaaGreatDoorCzB09
import Derived.Test.YtbokilgdefkmiaaGreatDoorRows
import Derived.KernelRfl
import Derived.Lib.Bytealg
set_option linter.unusedSimpArgs false
set_option linter.unusedVariables false
namespace Go.Proofs.YtbokilgdefkmiaaGreatDoor
namespace Ab
open Go
section
variable {P:Program} {b:Nat} {ops:Array Oper} {d:Bool} {acc:List Row} {os:List Oper} {o:Oper} {env:List V} {n:Nat} {L:Hp} {R:Post}
structure CallG (P:Program) (ops:Array Oper) (d:Bool) (acc:List Row) (o:Oper) (f:FuncId) (xs:Array Operand) (os:List Oper) (env:List V) (n:Nat) (L:Hp) (R:Post):Prop where
 k:(∃ ts,o.op=.call {callee:=.value (.func f),args:=xs,argTypes:=ts})→RegX P ops d acc (o::os) env n L R
theorem RegX.atCall {dst:Option Tmp} {f:FuncId} {xs:Array Operand} {ts:Array TypeId} {t:TypeId} {pos:String} {af:Array Edge} {gd:Option (Nat×Bool)}
 (h:CallG P ops d acc ⟨dst,.call ⟨.value (.func f),xs,ts⟩,t,pos,af,gd⟩ f xs os env n L R):RegX P ops d acc (⟨dst,.call ⟨.value (.func f),xs,ts⟩,t,pos,af,gd⟩::os) env n L R:=h.k ⟨ts,rfl⟩
structure CmpG (P:Program) (ops:Array Oper) (d:Bool) (acc:List Row) (o:Oper) (os:List Oper) (env:List V) (n:Nat) (L:Hp) (R:Post):Prop where
 k:RegX P ops d acc (o::os) env n L R
theorem RegX.atCmp {dst:Option Tmp} {op:BinOp} {ty ty':TypeId} {x y:Operand} {t:TypeId} {pos:String} {af:Array Edge} {gd:Option (Nat×Bool)}
 (h:CmpG P ops d acc ⟨dst,.binOp op ty x y ty',t,pos,af,gd⟩ os env n L R):RegX P ops d acc (⟨dst,.binOp op ty x y ty',t,pos,af,gd⟩::os) env n L R:=h.k
variable {f:FuncId} {xs:Array Operand}
theorem CallG.we {args:List V} {v:V} (sc:FC P f args 0 [] v 0 []) {args1:List V} (ha:xs.toList.map (ev env)=args1) (hle:All2 VLe args1 args) (h1:args.all (okV 0)=true) (h2:okV 0 v=true)
 (hw:want ops env o=some true) (k:RegX P ops d (pushR d o [] [] acc) os (setD env o.dst v) n L R):CallG P ops d acc o f xs os env n L R:=by
 refine⟨fun⟨ts,ho⟩=>?_⟩;obtain⟨hf,sc⟩:=sc;unfold fnOK at hf;split at hf
 ·rename_i fn hfn
  simp only[Bool.and_eq_true,Bool.not_eq_true'] at hf;have h:=SC.opW (tbl:=[]) (n:=n) (env:=env) (M:=[]) (M':=[]) sc h1 rfl ho rfl hfn hf.1 hf.2 (by rw[ha,renVs_id h1];exact hle) fits_nil (fun x bl h=>by simp[lk] at h);rw[renV_id h2] at h;exact RegX.op (foot:=[]) (wr:=[]) hw h (Nat.le_refl _) k
 ·cases hf
theorem CallG.pu {args:List V} {v:V} (sc:FC P f args 0 [] v 0 []) (ha:xs.toList.map (ev env)=args) (h1:args.all (okV 0)=true) (h2:okV 0 v=true)
 (hw:want ops env o=some true) (k:RegX P ops d (pushR d o [] [] acc) os (setD env o.dst v) n L R):CallG P ops d acc o f xs os env n L R:=
 CallG.we sc ha (VLe.refls _) h1 h2 hw k
theorem CallG.me (tbl:List Nat) {args0:List V} {L0:Hp} {v0:V} {n0':Nat} {L0':Hp} (sc:FC P f args0 tbl.length L0 v0 n0' L0')
 (hchk:(args0.all (okV tbl.length)&&okH tbl.length L0&&allSaid L0 L0'&&nodupB (keys L0')&&Nat.ble tbl.length n0'&&oldB tbl n n0'&&aliB tbl L0)=true) {args1:List V} (ha:xs.toList.map (ev env)=args1) (hle:All2 VLe args1 (args0.map (renV (rn tbl n)))) (ft:FitP tbl n (res tbl L) L0)
 (hw:want ops env o=some true) {v:V} (hv:frcV (renV (rn tbl n) v0) some=some v) {wr:Hp} (hwr:frc (callWr tbl n L0 L0') [] some=some wr)
 (k:RegX P ops d (pushR d o tbl wr acc) os (setD env o.dst v) (n+(n0'-tbl.length)) (puts L wr) R):CallG P ops d acc o f xs os env n L R:=by
 refine⟨fun⟨ts,ho⟩=>?_⟩;obtain⟨hf,sc⟩:=sc;rw[frcV_eq] at hv;cases hv;rw[frc_eq] at hwr;cases hwr;simp only[Bool.and_eq_true] at hchk;obtain⟨⟨⟨⟨⟨⟨k1,k2⟩,k3⟩,k4⟩,k5⟩,k6⟩,k7⟩:=hchk;unfold fnOK at hf;split at hf
 ·rename_i fn hfn
  simp only[Bool.and_eq_true,Bool.not_eq_true'] at hf;have h:=SC.opW (n:=n) (env:=env) (M:=res tbl L) sc k1 k2 ho rfl hfn hf.1 hf.2 (ha▸hle) (Fits.of k6 k7 ft) (after_callWr k3 k4);exact RegX.op hw h (Nat.le_add_right _ _) k
 ·cases hf
theorem CallG.xt {args:List V} {v:V} (hx:XT P f args v) (ha:xs.toList.map (ev env)=args)
 (hw:want ops env o=some true) (k:RegX P ops d (pushR d o [] [] acc) os (setD env o.dst v) n L R):CallG P ops d acc o f xs os env n L R:=by
 refine⟨fun⟨ts,ho⟩=>?_⟩;have h:=XT.op (n:=n) (L:=[]) (env:=env) ho rfl (by rw[ha];exact hx);exact RegX.op (foot:=[]) (wr:=[]) hw h (Nat.le_refl _) k
theorem RegX.nilF (h2:R .normal env n L):RegX P ops false acc [] env n L R:=RegX.nil (by trivial) h2
theorem RegX.nilT (h1:regB ops acc.reverse=true) (h2:R .normal env n L):RegX P ops true acc [] env n L R:=RegX.nil h1 h2
structure BrG (t:Bool) (K:Bool→Prop):Prop where
 k:K t
theorem CmpG.go {foot:List Nat} {t:Bool} {wr:Hp} {n':Nat} {as_:List Ans} {C:Prop} (hw:want ops env o=some true) (h:aop P o env n L []=some ⟨⟨foot,.s (.bool t),wr,n'⟩,as_,C⟩) (hC:C)
 (k:BrG t fun t=>RegX P ops d (pushR d o foot wr acc) os (setD env o.dst (.s (.bool t))) n' (puts L wr) R):CmpG P ops d acc o os env n L R:=⟨RegX.opA [] hw h hC k.k⟩
theorem BrG.tt {K:Bool→Prop} (h:K true):BrG true K:=⟨h⟩
theorem BrG.ff {K:Bool→Prop} (h:K false):BrG false K:=⟨h⟩
theorem BrG.of {t:Bool} {p:Prop} {K:Bool→Prop} (hp:t=true↔p) (h1:p→K true) (h2: ¬p→K false):BrG t K:=by
 cases t with
 |true=>exact⟨h1 (hp.1 rfl)⟩
 |false=>exact⟨h2 fun e=>by have:=hp.2 e;cases this⟩
theorem BrG.eqI {a b:Int} {K:Bool→Prop} (h1:a=b→K true) (h2: ¬a=b→K false):BrG (a==b) K:=BrG.of beq_iff_eq h1 h2
theorem BrG.ltI {a b:Int} {K:Bool→Prop} (h1:a<b→K true) (h2: ¬a<b→K false):BrG (decide (a<b)) K:=BrG.of decide_eq_true_iff h1 h2
theorem BrG.eqS {a b:List UInt8} {K:Bool→Prop} (h1:a=b→K true) (h2: ¬a=b→K false):BrG (decide (a=b)) K:=BrG.of decide_eq_true_iff h1 h2
theorem BrG.any {t:Bool} {K:Bool→Prop} (h1:t=true→K true) (h2:t=false→K false):BrG t K:=by
 cases t with
 |true=>exact⟨h1 rfl⟩
 |false=>exact⟨h2 rfl⟩
theorem CallG.bo {args:List V} {t:Bool} (sc:FC P f args 0 [] (.s (.bool t)) 0 []) (ha:xs.toList.map (ev env)=args) (h1:args.all (okV 0)=true)
 (hw:want ops env o=some true) (k:BrG t fun t=>RegX P ops d (pushR d o [] [] acc) os (setD env o.dst (.s (.bool t))) n L R):CallG P ops d acc o f xs os env n L R:=CallG.pu sc ha h1 rfl hw k.k
theorem CallG.wb {args:List V} {t:Bool} (sc:FC P f args 0 [] (.s (.bool t)) 0 []) {args1:List V} (ha:xs.toList.map (ev env)=args1) (hle:All2 VLe args1 args) (h1:args.all (okV 0)=true)
 (hw:want ops env o=some true) (k:BrG t fun t=>RegX P ops d (pushR d o [] [] acc) os (setD env o.dst (.s (.bool t))) n L R):CallG P ops d acc o f xs os env n L R:=CallG.we sc ha hle h1 rfl hw k.k
theorem Then.normal {P:Program} {b:Nat} {y:Code} {R:Post} {e:List V} {n:Nat} {L:Hp} (h:Ex P b y e n L R):Then P b y R .normal e n L:=h
theorem InBlock.normal {i:Nat} {R:Post} {e:List V} {n:Nat} {L:Hp} (h:R .normal e n L):InBlock i R .normal e n L:=h
theorem InBlock.exit {i j:Nat} {R:Post} {e:List V} {n:Nat} {L:Hp} (h:match Nat.beq j i with|true=>R .normal e n L|false=>R (.exit j) e n L):InBlock i R (.exit j) e n L:=h
theorem InBlock.here {i:Nat} {R:Post} {e:List V} {n:Nat} {L:Hp} (h:R .normal e n L):InBlock i R (.exit i) e n L:=by
 show (match Nat.beq i i with|true=>R .normal e n L|false=>R (.exit i) e n L);rw[Nat.beq_refl];exact h
end
def stepC (P:Program) (b:Nat):Code→List V→Nat→Hp→Post→Option Prop
 | .seq x y,e,n,L,R=>some (Ex P b x e n L (Then P b y R))
 | .block id c,e,n,L,R=>some (Ex P b c e n L (InBlock id R))
 | .skip,e,n,L,R=>some (R .normal e n L)
 | .region _ ops d,e,n,L,R=>some (RegX P ops d [] ops.toList e n L R)
 |_,_,_,_,_=>none
def stepD (P:Program) (b:Nat):Code→List V→Nat→Hp→Post→Option Prop
 | .cond c x y,e,n,L,R=>match ev e c with| .s (.bool true)=>some (Ex P b x e n L R)| .s (.bool false)=>some (Ex P b y e n L R)|_=>none
 |_,_,_,_,_=>none
theorem Ex.s {P:Program} {b:Nat} (hm:P.follows .mixedOrders=true) {c:Code} {e:List V} {n:Nat} {L:Hp} {R:Post} {G:Prop} (h:stepC P b c e n L R=some G) (k:G):Ex P b c e n L R:=by
 unfold stepC at h;split at h
 ·cases h;exact Ex.seq k
 ·cases h;exact Ex.block k
 ·cases h;exact Ex.skip k
 ·cases h;exact Ex.reg hm k
 ·cases h
theorem Ex.d {P:Program} {b:Nat} {c:Code} {e:List V} {n:Nat} {L:Hp} {R:Post} {G:Prop} (h:stepD P b c e n L R=some G) (k:G):Ex P b c e n L R:=by
 unfold stepD at h;split at h
 ·split at h
  ·cases h;exact Ex.condT ‹_› k
  ·cases h;exact Ex.condF ‹_› k
  ·cases h
 ·cases h
class SgE (Q:Prop) (Q':outParam Prop):Prop where
 go:Q'→Q
class SgL (Q:Prop) (Q':outParam Prop):Prop where
 go:Q'→Q
section
variable {P:Program} {b:Nat} {y:Code} {R:Post} {e:List V} {n i j:Nat} {L:Hp}
instance:SgE (Then P b y R .normal e n L) (Ex P b y e n L R):=⟨id⟩
instance {ops:Array Oper} {acc:List Row} {env:List V}:SgE (RegX P ops false acc [] env n L R) (R .normal env n L):=⟨RegX.nilF⟩
instance {K:Bool→Prop}:SgE (BrG true K) (K true):=⟨BrG.tt⟩
instance {K:Bool→Prop}:SgE (BrG false K) (K false):=⟨BrG.ff⟩
instance:SgL (Then P b y R (.exit i) e n L) (R (.exit i) e n L):=⟨id⟩
instance:SgL (Then P b y R .ret e n L) (R .ret e n L):=⟨id⟩
instance:SgL (InBlock i R .normal e n L) (R .normal e n L):=⟨id⟩
instance:SgL (InBlock i R (.exit i) e n L) (R .normal e n L):=⟨InBlock.here⟩
instance:SgL (InBlock i R .ret e n L) (R .ret e n L):=⟨id⟩
instance:SgL (Ex P b .ret e n L R) (R .ret e n L):=⟨Ex.ret⟩
instance:SgL (Ex P b (.exit i) e n L R) (R (.exit i) e n L):=⟨Ex.exit⟩
variable {σ:Type} {m m':Nat} {A:List Nat} {X:σ→List (Nat×V)} {env:List V} {H:σ→Hp} {I:σ→Prop} {mu:σ→Nat} {s:σ} {M:Hp}
instance:SgL (LoopR b m A X env H I mu s R (.exit i) e m' M) (R (.exit i) e m' M):=⟨id⟩
instance:SgL (LoopR b m A X env H I mu s R .ret e m' M) (R .ret e m' M):=⟨id⟩
theorem sE {Q Q':Prop} [g:SgE Q Q'] (h:Q'):Q:=g.go h
theorem sL {Q Q':Prop} [g:SgL Q Q'] (h:Q'):Q:=g.go h
variable {ops:Array Oper} {d:Bool} {acc:List Row} {os:List Oper} {xs:Array Operand} {ts:Array TypeId} {f:FuncId} {dst:Option Tmp} {op:BinOp} {ty ty' t:TypeId} {u v:Operand} {pos:String} {af:Array Edge} {gd:Option (Nat×Bool)}
theorem wC (h:CallG P ops d acc ⟨dst,.call ⟨.value (.func f),xs,ts⟩,t,pos,af,gd⟩ f xs os env n L R):RegX P ops d acc (⟨dst,.call ⟨.value (.func f),xs,ts⟩,t,pos,af,gd⟩::os) env n L R:=RegX.atCall h
theorem wF {o:Oper} (f:FuncId) (h:CallG P ops d acc o f xs os env n L R):CallG P ops d acc o f xs os env n L R:=h
theorem wq {foot:List Nat} {tt:Bool} {wr:Hp} {n':Nat} {as_:List Ans} {C:Prop} (hw:want ops env ⟨dst,.binOp op ty u v ty',t,pos,af,gd⟩=some true) (h:aop P ⟨dst,.binOp op ty u v ty',t,pos,af,gd⟩ env n L []=some ⟨⟨foot,.s (.bool tt),wr,n'⟩,as_,C⟩) (hC:C)
 (k:BrG tt fun tt=>RegX P ops d (pushR d ⟨dst,.binOp op ty u v ty',t,pos,af,gd⟩ foot wr acc) os (setD env dst (.s (.bool tt))) n' (puts L wr) R):RegX P ops d acc (⟨dst,.binOp op ty u v ty',t,pos,af,gd⟩::os) env n L R:=RegX.atCmp (CmpG.go hw h hC k)
theorem wk {a:List Row} {os':List Oper} {e:List V} {m:Nat} {M:Hp} {C:Prop} (h:runU P ops d env false os acc [] n L=some (a,os',e,m,M,C)) (hC:C) (k:RegX P ops d a os' e m M R):RegX P ops d acc os env n L R:=RegX.chunk h hC k
theorem wc {c:Operand} {x y:Code} {t:Bool} (hc:ev env c=.s (.bool t)) (h1:t=true→Ex P b x env n L R) (h2:t=false→Ex P b y env n L R):Ex P b (.cond c x y) env n L R:=Ex.condS hc h1 h2
theorem wN (h1:regB ops acc.reverse=true) (h2:R .normal env n L):RegX P ops true acc [] env n L R:=RegX.nilT h1 h2
end
class DecP (t:Bool) (p q:outParam Prop):Prop where
 yes:t=true→p
 no:t=false→q
instance (priority:=low) DecP.any (t:Bool):DecP t (t=true) (t=false):=⟨id,id⟩
instance DecP.eqI (a b:Int):DecP (a==b) (a=b) (¬a=b):=⟨fun h=>beq_iff_eq.1 h,fun h e=>by rw[beq_iff_eq.2 e] at h;cases h⟩
instance DecP.neI (a b:Int):DecP (a !=b) (¬a=b) (a=b):=⟨fun h=>bne_iff_ne.1 h,fun h=>Classical.byContradiction fun e=>by rw[bne_iff_ne.2 e] at h;cases h⟩
instance DecP.dec (p:Prop) [Decidable p]:DecP (decide p) p (¬p):=⟨of_decide_eq_true,of_decide_eq_false⟩
instance DecP.neS (a b:List UInt8):DecP (!decide (a=b)) (¬a=b) (a=b):=⟨fun h=>by simpa using h,fun h=>by simpa using h⟩
theorem wb {t:Bool} {K:Bool→Prop} {p q:Prop} [d:DecP t p q] (h1:p→K true) (h2:q→K false):BrG t K:=by
 cases t with
 |true=>exact⟨h1 (d.yes rfl)⟩
 |false=>exact⟨h2 (d.no rfl)⟩
section
variable {P:Program} {ops:Array Oper} {d:Bool} {acc:List Row} {os:List Oper} {o:Oper} {env:List V} {n:Nat} {L:Hp} {R:Post} {f:FuncId} {xs:Array Operand}
theorem pu {args:List V} {v:V} (sc:FC P f args 0 [] v 0 []) (k:RegX P ops d (pushR d o [] [] acc) os (setD env o.dst v) n L R) (ha:xs.toList.map (ev env)=args:=by exact rfl) (h1:args.all (okV 0)=true:=by exact rfl) (h2:okV 0 v=true:=by exact rfl) (hw:want ops env o=some true:=by exact rfl):CallG P ops d acc o f xs os env n L R:=CallG.pu sc ha h1 h2 hw k
theorem bo {args:List V} {t:Bool} (sc:FC P f args 0 [] (.s (.bool t)) 0 []) (k:BrG t fun t=>RegX P ops d (pushR d o [] [] acc) os (setD env o.dst (.s (.bool t))) n L R) (ha:xs.toList.map (ev env)=args:=by exact rfl) (h1:args.all (okV 0)=true:=by exact rfl) (hw:want ops env o=some true:=by exact rfl):CallG P ops d acc o f xs os env n L R:=CallG.bo sc ha h1 hw k
theorem cm {args0:List V} {L0:Hp} {v0:V} {n0':Nat} {L0':Hp} (sc:FC P f args0 1 L0 v0 n0' L0') {args1:List V} {v:V} {wr:Hp} (k:RegX P ops d (pushR d o [0] wr acc) os (setD env o.dst v) (n+(n0'-1)) (puts L wr) R)
 (hchk:(args0.all (okV 1)&&okH 1 L0&&allSaid L0 L0'&&nodupB (keys L0')&&Nat.ble 1 n0'&&oldB [0] n n0'&&aliB [0] L0)=true:=by exact rfl) (ha:xs.toList.map (ev env)=args1:=by exact rfl) (hle:All2 VLe args1 (args0.map (renV (rn [0] n))):=by repeat first|exact trivial|refine⟨VLe.refl _,?_⟩) (ft:FitP [0] n (res [0] L) L0:=by exact⟨⟨rfl,_,rfl,rfl,fun h=>h⟩,trivial⟩)
 (hw:want ops env o=some true:=by exact rfl) (hv:frcV (renV (rn [0] n) v0) some=some v:=by exact rfl) (hwr:frc (callWr [0] n L0 L0') [] some=some wr:=by exact rfl):CallG P ops d acc o f xs os env n L R:=CallG.me [0] sc hchk ha hle ft hw hv hwr k
end
theorem y0 {G:Prop} (h:G:=by with_reducible first|exact True.intro|exact i64_in (by omega) (by omega)):G:=h
theorem y1 {G G':Prop} (k:G') (h:G'→G:=by first|exact sE|exact Ex.s hm rfl):G:=h k
theorem y2 {G A B:Prop} (a:A) (b:B) (h:A→B→G:=by with_reducible exact And.intro):G:=h a b
theorem y3 {G G':Prop} (k:G') (h:G'→G:=by exact wq rfl rfl trivial):G:=h k
theorem y4 {G G':Prop} (k:G') (h:G'→G:=by first|exact Ex.d rfl|exact wN (by kernel_rfl)|exact sL|with_reducible exact w6 rfl):G:=h k
theorem y5 {G:Prop} (h:G:=by first|omega|rfl|(simp only[Nat.add_zero,Nat.zero_add];omega)):G:=h
theorem y6 {G:Prop} (h:G:=by first|contradiction|(exfalso;omega)):G:=h
theorem y7 {G A B:Prop} (a:A) (b:B) (h:A→B→G:=by exact wk rfl):G:=h a b
theorem y8 {G A B:Prop} (a:A) (b:B) (h:A→B→G:=by exact wb):G:=h a b
theorem y9 {G A B:Prop} (a:A) (b:B) (h:A→B→G:=by exact wc rfl):G:=h a b
end Ab
end Go.Proofs.YtbokilgdefkmiaaGreatDoor
namespace Go.Proofs.YtbokilgdefkmiaaGreatDoor
open Go Ab
set_option maxRecDepth 100000
set_option maxHeartbeats 4000000
theorem hm:Tryz.prog.follows .mixedOrders=true:=by decide+kernel
abbrev By:=List UInt8
abbrev nI (z:Int):V:=.s (.int .i64 z)
abbrev n8 (z:Int):V:=.s (.int .u8 z)
abbrev bV (b:Bool):V:=.s (.bool b)
abbrev sV (s:By):V:=.s (.str s)
def isDataB (op:Int):Bool:=decide (op=1)||decide (op=2)||decide (op=50)||decide (op=51)
def isElemB (op:Int):Bool:=decide (op=18)||decide (op=19)
def isExprB (op:Int):Bool:=decide (op=3)||decide (op=5)||decide (op=6)||decide (op=7)||decide (op=41)||decide (op=42)||isDataB op||(decide (60≤op)&&decide (op≤88))
def accB (k op:Int):Bool:=
 if k=110∨k=115 then decide (op=3)
 else if k=105∨k=73 then decide (op=1)
 else if k=101 then isExprB op
 else if k=116 then decide (op=3)||decide (op=6)||decide (op=7)||decide (op=76)||decide (op=84)
 else if k=100 then isDataB op
 else if k=80 then isDataB op||decide (op=3)
 else if k=68 then decide (10≤op)&&decide (op≤21)&& !isElemB op
 else if k=70 then isElemB op
 else if k=83 then (decide (30≤op)&&decide (op≤42))||decide (op=5)
 else false
theorem isElem_c (op:Int):FC Tryz.prog 173 [nI op] 0 [] (bV (isElemB op)) 0 []:=by
 refine FC.walk (by kernel_rfl) Tryz.func173 rfl rfl ?_
 repeat'(first|exact y0|refine y1 ?_|refine y2 ?_ ?_|(refine y8 ?_ ?_<;>intro h<;>try exact y6)|refine Fin.bool (.inl rfl) rfl ?_|refine y3 ?_|refine y7 ?_ ?_|refine y4 ?_|(refine y9 ?_ ?_<;>intro h)|exact y5|fail)
 all_goals simp[isElemB, *]
theorem isData_c (op:Int):FC Tryz.prog 172 [nI op] 0 [] (bV (isDataB op)) 0 []:=by
 refine FC.walk (by kernel_rfl) Tryz.func172 rfl rfl ?_
 repeat'(first|exact y0|refine y1 ?_|refine y2 ?_ ?_|(refine y8 ?_ ?_<;>intro h<;>try exact y6)|refine Fin.bool (.inl rfl) rfl ?_|refine y3 ?_|refine y7 ?_ ?_|refine y4 ?_|(refine y9 ?_ ?_<;>intro h)|exact y5|fail)
 all_goals simp[isDataB, *]
theorem isExpr_c (op:Int):FC Tryz.prog 171 [nI op] 0 [] (bV (isExprB op)) 0 []:=by
 refine FC.walk (by kernel_rfl) Tryz.func171 rfl rfl ?_
 repeat'(first|exact y0|refine y1 ?_|refine y2 ?_ ?_|(refine y8 ?_ ?_<;>intro h<;>try exact y6)|(refine wC ?_;first|refine wF 172 (bo (isData_c _) ?_))|refine Fin.bool (.inl rfl) rfl ?_|refine y3 ?_|refine y7 ?_ ?_|refine y4 ?_|(refine y9 ?_ ?_<;>intro h)|exact y5|fail)
 all_goals simp[isExprB, *]
 all_goals try omega
theorem acc_c (k op:Int):FC Tryz.prog 134 [n8 k,nI op] 0 [] (bV (accB k op)) 0 []:=by
 refine FC.walk (by kernel_rfl) Tryz.func134 rfl rfl ?_
 repeat'(first|exact y0|refine y1 ?_|refine y2 ?_ ?_|(refine y8 ?_ ?_<;>intro h<;>try exact y6)|(refine wC ?_;first|refine wF 172 (bo (isData_c _) ?_)|refine wF 171 (bo (isExpr_c _) ?_)|refine wF 173 (bo (isElem_c _) ?_))|refine Fin.bool (.inl rfl) rfl ?_|refine y3 ?_|refine y7 ?_ ?_|refine y4 ?_|(refine y9 ?_ ?_<;>intro h)|exact y5|fail)
 all_goals simp[accB, *]
set_option maxRecDepth 100000
set_option maxHeartbeats 4000000
def segZ (i:Nat) (z:Int):Bool:=decide (65≤z∧z≤90∨z=95∨48≤z∧z≤57∧0<i)
def segCh (i:Nat) (c:UInt8):Bool:=segZ i (c.toNat:Int)
theorem segZ_t {i:Nat} {z:Int} (h:65≤z∧z≤90∨z=95∨48≤z∧z≤57∧0<i):segZ i z=true:=decide_eq_true h
theorem segZ_f {i:Nat} {z:Int} (h: ¬(65≤z∧z≤90)) (h': ¬z=95) (h'': ¬(48≤z∧z≤57∧0<i)):segZ i z=false:=decide_eq_false fun e=>e.elim h fun e=>e.elim h' h''
def isSeg (s:By):Bool:=decide (1≤s.length)&&decide (s.length≤4)&&(List.range s.length).all fun i=>segCh i (s.getD i 0)
theorem isSeg_no {s:By} {i:Nat} (h:i<s.length) (hc:segCh i (s.getD i 0)=false):isSeg s=false:=by
 unfold isSeg
 have:(List.range s.length).all (fun i=>segCh i (s.getD i 0))=false:=by
  rw[List.all_eq_false];exact⟨i,by simpa using h,by simpa using hc⟩
 rw[this,Bool.and_false]
theorem isSeg_yes {s:By} (h1:1≤s.length) (h2:s.length≤4) (h:∀ i,i<s.length→segCh i (s.getD i 0)=true):isSeg s=true:=by
 unfold isSeg;simp only[Bool.and_eq_true,decide_eq_true_eq,List.all_eq_true,List.mem_range];exact⟨⟨h1,h2⟩,h⟩
theorem ext_all {p:Nat→Prop} {j:Nat} (h:∀ i,i<j→p i) (hj:p j):∀ i,i<j+1→p i:=fun i hi=>by
 rcases Nat.lt_or_eq_of_le (Nat.le_of_lt_succ hi) with h'|rfl
 ·exact h i h'
 ·exact hj
theorem isSeg_c (s:By):FC Tryz.prog 194 [sV s] 0 [] (bV (isSeg s)) 0 []:=by
 refine FC.walk (by kernel_rfl) Tryz.func194 rfl rfl ?_
 repeat'(first|exact y0|refine y1 ?_|refine y2 ?_ ?_|(refine y8 ?_ ?_<;>intro h<;>try exact y6)|refine Fin.bool (.inl rfl) rfl ?_|refine y3 ?_|refine y7 ?_ ?_|refine y4 ?_|(refine y9 ?_ ?_<;>intro h)|exact y5|fail)
 ·unfold isSeg;rw[decide_eq_false (by omega)];rfl
 ·unfold isSeg;rw[decide_eq_false (p:=s.length≤4) (by omega)];simp
 ·refine Ex.inv (σ:=Nat) (fun j=>[(16,nI j)]) (fun _=>[]) (fun j=>j≤s.length∧∀ i,i<j→segCh i (s.getD i 0)=true) (fun j=>s.length-j) 0 rfl (fun _=>rfl) ⟨Nat.zero_le _,fun i hi=>by omega⟩ ⟨VLe.refl _,trivial⟩ trivial ?_
  rintro j ⟨hj,hall⟩
  repeat'(first|exact y0|refine y1 ?_|refine y2 ?_ ?_|(refine y8 ?_ ?_<;>intro h<;>try exact y6)|refine Fin.bool (.inl rfl) rfl ?_|refine LoopR.same (j+1) ⟨?_,?_⟩ ?_ rfl ⟨VLe.refl _,trivial⟩ trivial rfl rfl (Nat.le_refl _)|refine y3 ?_|refine y7 ?_ ?_|refine y4 ?_|(refine y9 ?_ ?_<;>intro h)|exact y5|fail)
  all_goals first
   |rfl
   |omega
   |exact i64_in (by omega) (by omega)
   |exact (isSeg_no (i:=j) (by omega) (segZ_f (by omega) (by omega) (by omega))).symm
   |(refine (isSeg_yes (by omega) (by omega) fun i hi=>hall i (by omega)).symm)
   |exact ext_all hall (segZ_t (by omega))
structure Pth where
 root:Bool
 up:Int
 segs:List By
def strsF (l:List By):S:=.frz (fun k=>[.str (l.getD k [])]) 1 l.length
def ptC (p:Pth):List S:=[.bool p.root,.int .i64 p.up,strsF p.segs]
abbrev ptV (p:Pth):V:=.agg (ptC p)
def validP (p:Pth):Bool:=decide (0≤p.up)&& !(p.root&&decide (p.up≠0))&&decide (p.up≤32)&&decide ((p.segs.length:Int)≤32-p.up)&&p.segs.all isSeg&&(p.root||decide (0<p.up)||decide (0<p.segs.length))
theorem all_no {l:List By} {j:Nat} (h:j<l.length) (hc:isSeg (l.getD j [])=false):l.all isSeg=false:=by
 rw[List.all_eq_false];exact⟨l[j],List.getElem_mem h,by simpa [List.getD_eq_getElem?_getD,h] using hc⟩
theorem all_yes {l:List By} (h:∀ i,i<l.length→isSeg (l.getD i [])=true):l.all isSeg=true:=by
 rw[List.all_eq_true];intro x hx;obtain⟨i,hi,rfl⟩:=List.mem_iff_getElem.1 hx;have:=h i hi
 rwa [List.getD_eq_getElem?_getD,List.getElem?_eq_getElem hi] at this
theorem validP_u (root:Bool) (up:Int) (segs:List By):FC Tryz.prog 178 [.agg [.bool root,.int .i64 up,strsF segs]] 0 [] (bV (validP ⟨root,up,segs⟩)) 0 []:=by
 refine FC.walk (by kernel_rfl) Tryz.func178 rfl rfl ?_;cases root
 all_goals
  repeat'(first|exact y0|refine y1 ?_|refine y2 ?_ ?_|(refine y8 ?_ ?_<;>intro h<;>try exact y6)|refine Fin.bool (.inl rfl) rfl ?_|refine y3 ?_|refine y7 ?_ ?_|refine y4 ?_|(refine y9 ?_ ?_<;>intro h)|exact y5|fail)
  rotate_right
  ·refine Ex.inv (σ:=Nat) (fun j=>[(32,nI j)]) (fun _=>[(0,some {cells:=[.bool _,.int .i64 up,strsF segs],ty:=138})]) (fun j=>j≤segs.length∧∀ i,i<j→isSeg (segs.getD i [])=true) (fun j=>segs.length-j) 0 rfl (fun _=>rfl) ⟨Nat.zero_le _,fun i hi=>by omega⟩ ⟨VLe.refl _,trivial⟩ ⟨rfl,trivial⟩ ?_
   rintro j ⟨hj,hall⟩
   repeat'(first|exact y0|refine y1 ?_|refine y2 ?_ ?_|(refine y8 ?_ ?_<;>intro h<;>try exact y6)|(refine wC ?_;first|refine wF 194 (bo (isSeg_c _) ?_))|refine Fin.bool (.inl rfl) rfl ?_|refine LoopR.same (j+1) ⟨?_,?_⟩ ?_ rfl ⟨VLe.refl _,trivial⟩ ⟨rfl,trivial⟩ rfl rfl (by decide)|refine y3 ?_|refine y7 ?_ ?_|refine y4 ?_|(refine y9 ?_ ?_<;>intro h)|exact y5|fail)
   all_goals first
    |omega
    |exact i64_in (by omega) (by omega)
    |exact ext_all hall (by assumption)
    |(have:=all_no (l:=segs) (j:=j) (by omega) ‹isSeg _=false›;unfold validP;rw[this];simp)
    |(have:=all_yes (l:=segs) fun i hi=>hall i (by omega)
      unfold validP;rw[this];simp;first|done|omega|exact fun _ _ _=>⟨by omega,List.length_eq_zero_iff.1 (by omega)⟩)
  all_goals first
   |exact i64_in (by omega) (by omega)
   |(unfold validP;simp;omega)
def absP (p:Pth):Bool:=p.root&&validP p
theorem absP_u (root:Bool) (up:Int) (segs:List By):FC Tryz.prog 177 [.agg [.bool root,.int .i64 up,strsF segs]] 0 [] (bV (absP ⟨root,up,segs⟩)) 0 []:=by
 refine FC.walk (by kernel_rfl) Tryz.func177 rfl rfl ?_;cases root
 all_goals
  repeat'(first|exact y0|refine y1 ?_|refine y2 ?_ ?_|(refine y8 ?_ ?_<;>intro h<;>try exact y6)|(refine wC ?_;first|refine wF 178 (bo (validP_u _ _ _) ?_))|refine Fin.bool (.inl rfl) rfl ?_|refine y3 ?_|refine y7 ?_ ?_|refine y4 ?_|(refine y9 ?_ ?_<;>intro h)|exact y5|fail)
 all_goals simp[absP, *]
def sglP (p:Pth):Bool:= !p.root&&decide (p.up=0)&&decide ((p.segs.length:Int)=1)
theorem sglP_u (root:Bool) (up:Int) (segs:List By):FC Tryz.prog 174 [.agg [.bool root,.int .i64 up,strsF segs]] 0 [] (bV (sglP ⟨root,up,segs⟩)) 0 []:=by
 refine FC.walk (by kernel_rfl) Tryz.func174 rfl rfl ?_;cases root
 all_goals
  repeat'(first|exact y0|refine y1 ?_|refine y2 ?_ ?_|(refine y8 ?_ ?_<;>intro h<;>try exact y6)|refine Fin.bool (.inl rfl) rfl ?_|refine y3 ?_|refine y7 ?_ ?_|refine y4 ?_|(refine y9 ?_ ?_<;>intro h)|exact y5|fail)
 all_goals simp[sglP, *]
 all_goals try omega
def hasPre (s p:By):Bool:=decide (p.length≤s.length)&&decide (s.take p.length=p)
theorem hasPre0_c (s p:By):FC Tryz.prog 202 [sV s,sV p] 0 [] (bV (hasPre s p)) 0 []:=by
 refine FC.walk (by kernel_rfl) Tryz.func202 rfl rfl ?_
 repeat'(first|exact y0|refine y1 ?_|refine y2 ?_ ?_|(refine y8 ?_ ?_<;>intro h<;>try exact y6)|refine Fin.bool (.inl rfl) rfl ?_|refine y3 ?_|refine y7 ?_ ?_|refine y4 ?_|(refine y9 ?_ ?_<;>intro h)|exact y5|fail)
 all_goals first
  |omega
  |(unfold hasPre;simp[*];done)
  |(unfold hasPre;simp[*];omega)
theorem hasPre_c (s p:By):FC Tryz.prog 185 [sV s,sV p] 0 [] (bV (hasPre s p)) 0 []:=by
 refine FC.walk (by kernel_rfl) Tryz.func185 rfl rfl ?_
 repeat'(first|exact y0|refine y1 ?_|refine y2 ?_ ?_|(refine y8 ?_ ?_<;>intro h<;>try exact y6)|(refine wC ?_;first|refine wF 202 (pu (hasPre0_c _ _) ?_))|refine Fin.bool (.inl rfl) rfl ?_|refine y3 ?_|refine y7 ?_ ?_|refine y4 ?_|(refine y9 ?_ ?_<;>intro h)|exact y5|fail)
 all_goals rfl
def cutPre (s p:By):By×Bool:=if hasPre s p then (s.drop p.length,true) else (s,false)
theorem cutPre0_c (s p:By):FC Tryz.prog 201 [sV s,sV p] 0 [] (.tup [.s (.str (cutPre s p).1),.s (.bool (cutPre s p).2)]) 0 []:=by
 refine FC.walk (by kernel_rfl) Tryz.func201 rfl rfl ?_
 repeat'(first|exact y0|refine y1 ?_|refine y2 ?_ ?_|(refine y8 ?_ ?_<;>intro h<;>try exact y6)|(refine wC ?_;first|refine wF 202 (bo (hasPre0_c _ _) ?_))|refine Fin.plain (.inl rfl) rfl ?_ rfl|refine y3 ?_|refine y7 ?_ ?_|refine y4 ?_|(refine y9 ?_ ?_<;>intro h)|exact y5|fail)
 all_goals first
  |(unfold cutPre;simp[*];done)
  |(unfold hasPre at*;simp at*;done)
  |(unfold hasPre at*;simp at*;omega)
theorem cutPre_c (s p:By):FC Tryz.prog 184 [sV s,sV p] 0 [] (.tup [.s (.str (cutPre s p).1),.s (.bool (cutPre s p).2)]) 0 []:=by
 refine FC.walk (by kernel_rfl) Tryz.func184 rfl rfl ?_
 repeat'(first|exact y0|refine y1 ?_|refine y2 ?_ ?_|(refine y8 ?_ ?_<;>intro h<;>try exact y6)|(refine wC ?_;first|refine wF 201 (pu (cutPre0_c _ _) ?_))|refine Fin.plain (.inl rfl) rfl ?_ rfl|refine y3 ?_|refine y7 ?_ ?_|refine y4 ?_|(refine y9 ?_ ?_<;>intro h)|exact y5|fail)
 all_goals rfl
set_option maxRecDepth 100000
set_option maxHeartbeats 4000000
theorem u8_back (c:UInt8):((c.toNat:Int)).toNat.toUInt8=c:=by simp
theorem countString_x (s:By) (c:UInt8):XT Tryz.prog 204 [sV s,n8 (c.toNat:Int)] (nI ((s.count c:Nat):Int)):=by
 intro φ xs w hx
 match xs,hx with
 |[x,y],⟨h1,h2,_⟩=>
  have h1:x=.string ⟨s.toArray⟩:=h1;have h2:y=.int .u8 (c.toNat:Int):=h2;subst h1;subst h2;refine⟨.int .i64 ((s.count c:Nat):Int),?_,rfl⟩;rw[run_callFunc_extern (e:=Extern.BytealgCount.count) Tryz.func204 (by kernel_rfl) rfl (by rfl) (by rfl)];rw[show [Value.string ⟨s.toArray⟩,Value.int IntKind.u8 (c.toNat:Int)].toArray= #[.string ⟨s.toArray⟩,.int .u8 (c.toNat:Int)] from rfl,Go.Lib.run_countString,u8_back];rfl
theorem indexByte_x (s:By) (c:UInt8):XT Tryz.prog 222 [sV s,n8 (c.toNat:Int)] (nI (Go.Lib.indexByte s c)):=by
 intro φ xs w hx
 match xs,hx with
 |[x,y],⟨h1,h2,_⟩=>
  have h1:x=.string ⟨s.toArray⟩:=h1;have h2:y=.int .u8 (c.toNat:Int):=h2;subst h1;subst h2;refine⟨.int .i64 (Go.Lib.indexByte s c),?_,rfl⟩;rw[run_callFunc_extern (e:=Extern.BytealgIndexByte.indexByte) Tryz.func222 (by kernel_rfl) rfl (by rfl) (by rfl)];rw[show [Value.string ⟨s.toArray⟩,Value.int IntKind.u8 (c.toNat:Int)].toArray= #[.string ⟨s.toArray⟩,.int .u8 (c.toNat:Int)] from rfl,Go.Lib.run_indexByteString,u8_back];rfl
theorem count_c (s:By) (c:UInt8):FC Tryz.prog 186 [sV s,sV [c]] 0 [] (nI ((s.count c:Nat):Int)) 0 []:=by
 refine FC.walk (by kernel_rfl) Tryz.func186 rfl rfl ?_
 repeat'(first|exact y0|refine y1 ?_|refine y2 ?_ ?_|(refine y8 ?_ ?_<;>intro h<;>try exact y6)|(refine wC ?_;first|refine CallG.xt (countString_x _ _) rfl rfl ?_)|refine Fin.int (.inl rfl) rfl ?_|refine y3 ?_|refine y7 ?_ ?_|refine y4 ?_|(refine y9 ?_ ?_<;>intro h)|exact y5|fail)
 all_goals first
  |rfl
  |(simp at*;done)
theorem indexByte_c (s:By) (c:UInt8):FC Tryz.prog 217 [sV s,n8 (c.toNat:Int)] 0 [] (nI (Go.Lib.indexByte s c)) 0 []:=by
 refine FC.walk (by kernel_rfl) Tryz.func217 rfl rfl ?_
 repeat'(first|exact y0|refine y1 ?_|refine y2 ?_ ?_|(refine y8 ?_ ?_<;>intro h<;>try exact y6)|(refine wC ?_;first|refine CallG.xt (indexByte_x _ _) rfl rfl ?_)|refine Fin.int (.inl rfl) rfl ?_|refine y3 ?_|refine y7 ?_ ?_|refine y4 ?_|(refine y9 ?_ ?_<;>intro h)|exact y5|fail)
 all_goals rfl
theorem index0_c (s:By) (c:UInt8):FC Tryz.prog 213 [sV s,sV [c]] 0 [] (nI (Go.Lib.indexByte s c)) 0 []:=by
 refine FC.walk (by kernel_rfl) Tryz.func213 rfl rfl ?_
 repeat'(first|exact y0|refine y1 ?_|refine y2 ?_ ?_|(refine y8 ?_ ?_<;>intro h<;>try(first|exact absurd rfl h|exact y6))|(refine wC ?_;first|refine wF 217 (pu (indexByte_c _ _) ?_))|refine Fin.int (.inl rfl) rfl ?_|refine y3 ?_|refine y7 ?_ ?_|refine y4 ?_|(refine y9 ?_ ?_<;>intro h)|exact y5|fail)
 all_goals first
  |rfl
  |(exfalso;simp at*;done)
  |(subst_vars;simp[Go.Lib.indexByte];done)
  |(simp;done)
theorem index_c (s:By) (c:UInt8):FC Tryz.prog 205 [sV s,sV [c]] 0 [] (nI (Go.Lib.indexByte s c)) 0 []:=by
 refine FC.walk (by kernel_rfl) Tryz.func205 rfl rfl ?_
 repeat'(first|exact y0|refine y1 ?_|refine y2 ?_ ?_|(refine y8 ?_ ?_<;>intro h<;>try exact y6)|(refine wC ?_;first|refine wF 213 (pu (index0_c _ _) ?_))|refine Fin.int (.inl rfl) rfl ?_|refine y3 ?_|refine y7 ?_ ?_|refine y4 ?_|(refine y9 ?_ ?_<;>intro h)|exact y5|fail)
 all_goals rfl
def splitB (c:UInt8):By→List By
 |[]=>[[]]
 |b::l=>if b=c then []::splitB c l else match splitB c l with|h::t=>(b::h)::t|[]=>[[b]]
theorem splitB_len (c:UInt8):∀ s:By,(splitB c s).length=s.count c+1
 |[]=>rfl
 |b::l=>by
  have ih:=splitB_len c l;by_cases h:b=c
  ·simp only[splitB,if_pos h,List.length_cons,ih];rw[h,List.count_cons_self]
  ·simp only[splitB,if_neg h]
   rw[List.count_cons_of_ne h]
   cases e:splitB c l with
   |nil=>rw[e] at ih;simp at ih
   |cons x t=>rw[e] at ih;simpa using ih
theorem splitB_no (c:UInt8):∀ s:By,Go.Lib.indexByte s c= -1→splitB c s=[s]
 |[],_=>rfl
 |b::l,h=>by
  unfold Go.Lib.indexByte at h;split at h
  ·cases h
  ·rename_i hb
   have hb: ¬b=c:=by simpa using hb
   have h1:=Go.Lib.indexByte_ge l c;split at h
   ·rename_i he
    have he:Go.Lib.indexByte l c= -1:=by simpa using he
    simp only[splitB,if_neg hb,splitB_no c l he]
   ·rename_i he
    have he: ¬Go.Lib.indexByte l c= -1:=by simpa using he
    omega
theorem splitB_at (c:UInt8):∀ (s:By) (k:Nat),Go.Lib.indexByte s c=(k:Int)→k<s.length∧splitB c s=s.take k::splitB c (s.drop (k+1))∧s.count c=(s.drop (k+1)).count c+1
 |[],k,h=>by unfold Go.Lib.indexByte at h;omega
 |b::l,k,h=>by
  unfold Go.Lib.indexByte at h;split at h
  ·rename_i hb
   have hb:b=c:=by simpa using hb
   obtain rfl:k=0:=by omega
   subst hb;simp[splitB]
  ·rename_i hb
   have hb: ¬b=c:=by simpa using hb
   split at h
   ·exfalso;omega
   ·have h1:=Go.Lib.indexByte_ge l c
    cases k with
    |zero=>
     rename_i he
     have he: ¬Go.Lib.indexByte l c= -1:=by simpa using he
     omega
    |succ k=>
     obtain⟨i1,i2,i3⟩:=splitB_at c l k (by omega);refine⟨by simp;omega,?_,?_⟩
     ·simp only[splitB,if_neg hb,i2,List.take_succ_cons,List.drop_succ_cons]
     ·rw[List.count_cons_of_ne hb,i3];simp
theorem indexByte_none (c:UInt8):∀ s:By,s.count c=0→Go.Lib.indexByte s c= -1
 |[],_=>rfl
 |b::l,h=>by
  have hb: ¬b=c:=fun e=>by rw[e,List.count_cons_self] at h;omega
  rw[List.count_cons_of_ne hb] at h;unfold Go.Lib.indexByte;rw[if_neg (by simpa using hb),indexByte_none c l h];rfl
theorem count_le (c:UInt8) (s:By):s.count c≤s.length:=List.count_le_length
def rowS (n:Nat) (done:List By):List S:=done.map S.str++List.replicate (n-done.length) (.str [])
theorem rowS_len {n:Nat} {done:List By} (h:done.length≤n):(rowS n done).length=n:=by simp[rowS];omega
theorem rowS_set {n:Nat} {done:List By} (x:By) (h:done.length<n):setL (rowS n done) done.length [.str x]=rowS n (done++[x]):=by
 simp only[setL,rowS];rw[List.set_append_right _ _ (by simp)];simp only[List.length_map,Nat.sub_self,List.map_append,List.map_cons,List.map_nil,List.append_assoc,List.length_append,List.length_singleton];rw[show n-done.length=(n-(done.length+1))+1 by omega,List.replicate_succ,List.set_cons_zero];rfl
theorem rowS_get {n:Nat} {l:List By} {k j:Nat} {x:S} (hk:k<l.length) (h:([S.str (l.getD k [])])[j]? =some x):(rowS n l)[k*1+j]? =some x∧pureS x=true:=by
 cases j with
 |succ j=>simp at h
 |zero=>
  simp only[List.getElem?_cons_zero,Option.some.injEq] at h;subst h;refine⟨?_,rfl⟩;simp only[rowS,Nat.mul_one,Nat.add_zero];rw[List.getElem?_append_left (by simpa using hk)];simp[List.getD_eq_getElem?_getD,hk]
theorem genSplit_c (s:By) (c:UInt8) (hl:s.length<9223372036854775807) (hc:s.count c<1000000):FC Tryz.prog 206 [sV s,sV [c],nI 0,nI (-1)] 0 [] (.s (strsF (splitB c s))) 0 []:=by
 have hcl:=count_le c s;generalize hn:s.count c=n at*;refine FC.walk (by kernel_rfl) Tryz.func206 rfl rfl ?_;have hcc:=count_c s c;rw[hn] at hcc
 repeat'(first|exact y0|refine y1 ?_|refine y2 ?_ ?_|(refine y8 ?_ ?_<;>intro h<;>try exact y6)|(refine wC ?_;first|refine wF 186 (pu hcc ?_))|refine y3 ?_|refine y7 ?_ ?_|refine y4 ?_|(refine y9 ?_ ?_<;>intro h)|exact y5|fail)
 refine RegX.opA [.num ((n:Int)+1)] rfl rfl ⟨trivial,?_⟩ ?_
 ·show (if ((s.length:Int)+1)<(n:Int)+1 then (s.length:Int)+1 else (n:Int)+1)=_
  rw[if_neg (by omega)]
 repeat'(first|exact y0|refine y1 ?_|refine y2 ?_ ?_|(refine y8 ?_ ?_<;>intro h<;>try exact y6)|refine y3 ?_|refine y7 ?_ ?_|refine y4 ?_|(refine y9 ?_ ?_<;>intro h)|exact y5|fail)
 refine RegX.opA [.idx (n+1),.idx (n+1)] rfl rfl ⟨rfl,rfl,Nat.le_refl _,?_,by omega⟩ ?_
 ·rw[show (Tryz.prog.types[9]).bytes=16 by kernel_rfl];omega
 repeat'(first|exact y0|refine y1 ?_|refine y2 ?_ ?_|(refine y8 ?_ ?_<;>intro h<;>try exact y6)|refine y3 ?_|refine y7 ?_ ?_|refine y4 ?_|(refine y9 ?_ ?_<;>intro h)|exact y5|fail)
 refine Ex.inv (σ:=List By×By) (fun x=>[(0,sV x.2),(10,nI x.1.length)]) (fun x=>[(0,some {cells:=rowS (n+1) x.1,ty:=9,sym:=true,flat:=true})]) (fun x=>splitB c s=x.1++splitB c x.2∧x.1.length+x.2.count c=n∧x.2.length≤s.length) (fun x=>n-x.1.length) ([],s) rfl (fun _=>rfl) ⟨rfl,by simpa using hn,Nat.le_refl _⟩ ⟨VLe.refl _,VLe.refl _,trivial⟩ ⟨rfl,trivial⟩ ?_;rintro⟨done,rem⟩ ⟨h1,h2,h3⟩;simp only at h1 h2 h3 ⊢;by_cases hlt:done.length<n
 ·obtain⟨k,hk⟩:∃ k:Nat,Go.Lib.indexByte rem c=(k:Int):=by
   have hge:=Go.Lib.indexByte_ge rem c
   have:Go.Lib.indexByte rem c≠ -1:=fun e=>by
    have:=splitB_len c rem;rw[splitB_no c rem e] at this;simp at this;omega
   exact⟨(Go.Lib.indexByte rem c).toNat,by omega⟩
  obtain⟨k1,k2,k3⟩:=splitB_at c rem k hk;have hidx:=index_c rem c;rw[hk] at hidx
  repeat'(first|exact y0|refine y1 ?_|refine y2 ?_ ?_|(refine y8 ?_ ?_<;>intro h<;>try exact y6)|(refine wC ?_;first|refine wF 205 (pu hidx ?_))|refine y3 ?_|refine y7 ?_ ?_|refine y4 ?_|(refine y9 ?_ ?_<;>intro h)|exact y5|fail)
  refine RegX.opA [.cells (rowS (n+1) (done++[rem.take k]))] rfl rfl ⟨?_,?_⟩ ?_
  ·rw[rowS_len (by omega)];show done.length+1≤n+1;omega
  ·exact (rowS_set _ (by omega)).symm
  repeat'(first|exact y0|refine y1 ?_|refine y2 ?_ ?_|(refine y8 ?_ ?_<;>intro h<;>try exact y6)|refine y3 ?_|refine y7 ?_ ?_|refine y4 ?_|(refine y9 ?_ ?_<;>intro h)|exact y5|fail)
  ·
   refine i64_in ?_ ?_
   ·simp;omega
   ·simp;omega
  ·simp;omega
  ·refine LoopR.same (done++[rem.take k],rem.drop (k+1)) ⟨?_,?_,?_⟩ ?_ rfl ⟨VLe.refl _,VLe.of_eq ?_,trivial⟩ ⟨rfl,trivial⟩ rfl rfl (by decide)
   ·simp only[h1,k2,List.append_assoc,List.singleton_append]
   ·simp only[List.length_append,List.length_singleton];omega
   ·simp only[List.length_drop];omega
   ·simp only[List.length_append,List.length_singleton];omega
   ·simp only[List.length_append,List.length_singleton];rfl
 ·
  have hdn:done.length=n:=by omega
  have hno:Go.Lib.indexByte rem c= -1:=indexByte_none c rem (by omega)
  have hfin:splitB c s=done++[rem]:=by rw[h1,splitB_no c rem hno]
  repeat'(first|exact y0|refine y1 ?_|refine y2 ?_ ?_|(refine y8 ?_ ?_<;>intro h<;>try exact y6)|refine y3 ?_|refine y7 ?_ ?_|refine y4 ?_|(refine y9 ?_ ?_<;>intro h)|exact y5|fail)
  refine RegX.opA [.cells (rowS (n+1) (done++[rem]))] rfl rfl ⟨?_,?_⟩ ?_
  ·rw[rowS_len (by omega)];show done.length+1≤n+1;omega
  ·exact (rowS_set _ (by omega)).symm
  repeat'(first|exact y0|refine y1 ?_|refine y2 ?_ ?_|(refine y8 ?_ ?_<;>intro h<;>try exact y6)|refine y3 ?_|refine y7 ?_ ?_|refine y4 ?_|(refine y9 ?_ ?_<;>intro h)|exact y5|fail)
  refine RegX.opA [.idx (done.length+1)] rfl rfl ⟨⟨rfl,?_⟩,trivial⟩ ?_
  ·show done.length+1≤n+1;omega
  repeat'(first|exact y0|refine y1 ?_|refine y2 ?_ ?_|(refine y8 ?_ ?_<;>intro h<;>try exact y6)|refine Ex.fz 8 (fun k=>[.str ((splitB c s).getD k [])]) 1 rfl rfl rfl rfl (fun _ _=>rfl) ?_ rfl rfl ?_|refine Fin.le (.inl rfl) rfl ?_ rfl|refine y3 ?_|refine y7 ?_ ?_|refine y4 ?_|(refine y9 ?_ ?_<;>intro h)|exact y5|fail)
  ·intro k j x hk hx
   rw[hfin] at hx;exact rowS_get (by simp only[List.length_append,List.length_singleton];exact hk) hx
  ·have:(splitB c s).length=done.length+1:=by rw[hfin];simp
   unfold strsF;rw[this];exact VLe.refl _
theorem split_c (s:By) (c:UInt8) (hl:s.length<9223372036854775807) (hc:s.count c<1000000):FC Tryz.prog 187 [sV s,sV [c]] 0 [] (.s (strsF (splitB c s))) 0 []:=by
 refine FC.walk (by kernel_rfl) Tryz.func187 rfl rfl ?_
 repeat'(first|exact y0|refine y1 ?_|refine y2 ?_ ?_|(refine y8 ?_ ?_<;>intro h<;>try exact y6)|(refine wC ?_;first|refine wF 206 (pu (genSplit_c s c hl hc) ?_))|refine Fin.plain (.inl rfl) rfl ?_ rfl|refine y3 ?_|refine y7 ?_ ?_|refine y4 ?_|(refine y9 ?_ ?_<;>intro h)|exact y5|fail)
 all_goals rfl
set_option maxRecDepth 100000
set_option maxHeartbeats 4000000
def upsB:By→Nat×By
 |[]=>(0,[])
 |b::l=>if b=94 then ((upsB l).1+1,(upsB l).2) else (0,b::l)
theorem hasPre_94 {s:By} (h:hasPre s [94]=true):∃ l,s=94::l:=by
 cases s with
 |nil=>simp[hasPre] at h
 |cons b l=>simp[hasPre] at h;exact⟨l,by rw[h]⟩
theorem upsB_no {s:By} (h: ¬hasPre s [94]=true):upsB s=(0,s):=by
 cases s with
 |nil=>rfl
 |cons b l=>
  unfold upsB;rw[if_neg];intro e;subst e;exact h (by simp[hasPre])
def z0:Pth:=⟨false,0,[]⟩
def finP (p:Pth):Pth×Bool:=if validP p then (p,true) else (z0,false)
def tailP (root:Bool) (u:Nat) (rest:By):Pth×Bool:=
 if rest=[] then finP ⟨root,u,[]⟩ else if 32≤rest.count 46 then (z0,false) else finP ⟨root,u,splitB 46 rest⟩
def parseP (s:By):Pth×Bool:=
 if (cutPre s [92]).2 then tailP true 0 (cutPre s [92]).1 else tailP false (upsB (cutPre s [92]).1).1 (upsB (cutPre s [92]).1).2
theorem cutPre_len (s p:By):(cutPre s p).1.length≤s.length:=by
 unfold cutPre;split<;>simp
abbrev psV (x:Pth×Bool):V:=.tup [.agg (ptC x.1),.s (.bool x.2)]
theorem psV_ok {root:Bool} {up:Int} {segs:List By} {ok:Bool} {x:Pth×Bool} (e:x=(⟨root,up,segs⟩,ok)):VLe (.tup [.agg [.bool root,.int .i64 up,strsF segs],.s (.bool ok)]) (psV x):=e▸VLe.refl _
theorem psV_z {x:Pth×Bool} (e:x=(z0,false)):VLe (.tup [.agg [.bool false,.int .i64 0,.slc none 0 (some 0)],.s (.bool false)]) (psV x):=
 e▸VLe.tup ⟨ULe.agg ⟨SLe.refl _,SLe.refl _,SLe.nil,trivial⟩,ULe.s (SLe.refl _),trivial⟩
theorem psV_0 {root:Bool} {up:Int} {x:Pth×Bool} {ok:Bool} (e:x=(⟨root,up,[]⟩,ok)):VLe (.tup [.agg [.bool root,.int .i64 up,.slc none 0 (some 0)],.s (.bool ok)]) (psV x):=
 e▸VLe.tup ⟨ULe.agg ⟨SLe.refl _,SLe.refl _,SLe.nil,trivial⟩,ULe.s (SLe.refl _),trivial⟩
theorem parseP_c (s:By) (hl:s.length<9223372036854775807):FC Tryz.prog 144 [sV s] 0 [] (psV (parseP s)) 0 []:=by
 have hcp:=cutPre_c s [92];have hcl:=cutPre_len s [92];unfold parseP;generalize cutPre s [92]=c at*;obtain⟨r0,rooted⟩:=c;simp only at hcp hcl ⊢;refine FC.walk (by kernel_rfl) Tryz.func144 rfl rfl ?_;cases rooted
 ·
  repeat'(first|exact y0|refine y1 ?_|refine y2 ?_ ?_|(refine y8 ?_ ?_<;>intro h<;>try exact y6)|(refine wC ?_;first|refine wF 184 (pu hcp ?_))|refine y3 ?_|refine y7 ?_ ?_|refine y4 ?_|(refine y9 ?_ ?_<;>intro h)|exact y5|fail)
  refine Ex.inv (σ:=Nat×By) (fun x=>[(5,sV x.2)]) (fun x=>[(0,some {cells:=[.bool false,.int .i64 0,.slc none 0 (some 0)],ty:=138}),(1,some {cells:=[.bool false,.int .i64 (x.1:Int),.slc none 0 (some 0)],ty:=138})])
   (fun x=>x.1+x.2.length≤s.length∧(upsB r0).1=x.1+(upsB x.2).1∧(upsB r0).2=(upsB x.2).2) (fun x=>x.2.length) (0,r0) rfl (fun _=>rfl) ⟨by simpa using hcl,by simp,rfl⟩ ⟨VLe.refl _,trivial⟩ ⟨rfl,rfl,trivial⟩ ?_
  rintro⟨u,rest⟩ ⟨h1,h2,h3⟩;simp only at h1 h2 h3 ⊢;by_cases hp:hasPre rest [94]=true
  ·obtain⟨l,rfl⟩:=hasPre_94 hp
   simp only[List.length_cons] at h1
   have hu:upsB (94::l)=((upsB l).1+1,(upsB l).2):=by simp[upsB]
   rw[hu] at h2 h3;have hpre:=hasPre_c (94::l) [94];rw[hp] at hpre
   repeat'(first|exact y0|refine y1 ?_|refine y2 ?_ ?_|(refine y8 ?_ ?_<;>intro h<;>try exact y6)|(refine wC ?_;first|refine wF 185 (bo hpre ?_))|refine y3 ?_|refine y7 ?_ ?_|refine y4 ?_|(refine y9 ?_ ?_<;>intro h)|exact y5|fail)
   ·simp
   ·refine LoopR.same (u+1,l) ⟨?_,?_,?_⟩ ?_ rfl ⟨VLe.refl _,trivial⟩ ⟨rfl,rfl,trivial⟩ rfl rfl (by decide)
    ·simp only;omega
    ·simp only;omega
    ·simp only[h3]
    ·simp only[List.length_cons];omega
  ·have hup:=upsB_no hp
   rw[hup] at h2 h3
   have hpf:hasPre rest [94]=false:=by simpa using hp
   have hpre:=hasPre_c rest [94];rw[hpf] at hpre;rw[h2,h3];simp only[Nat.add_zero]
   repeat'(first|exact y0|refine y1 ?_|refine y2 ?_ ?_|(refine y8 ?_ ?_<;>intro h<;>try exact y6)|(refine wC ?_;first|refine wF 185 (bo hpre ?_)|refine wF 186 (pu (count_c _ _) ?_)|(refine wF 187 ?_;refine CallG.pu (split_c _ _ (by omega) (by omega)) rfl rfl rfl rfl ?_)|refine wF 178 (bo (validP_u _ _ _) ?_)|refine CallG.wb (validP_u false u []) rfl ?_ rfl rfl ?_)|exact⟨VLe.agg ⟨SLe.refl _,SLe.refl _,SLe.nil,trivial⟩,trivial⟩|refine Fin.le (.inl rfl) rfl ?_ rfl|refine y3 ?_|refine y7 ?_ ?_|refine y4 ?_|(refine y9 ?_ ?_<;>intro h)|exact y5|fail)
   all_goals first
    |exact psV_z (by unfold tailP finP;simp_all<;>omega)
    |exact psV_ok (by unfold tailP finP;simp_all<;>omega)
    |exact psV_0 (by unfold tailP finP;simp_all<;>omega)
 ·
  have hu:upsB r0=upsB r0:=rfl
  repeat'(first|exact y0|refine y1 ?_|refine y2 ?_ ?_|(refine y8 ?_ ?_<;>intro h<;>try exact y6)|(refine wC ?_;first|refine wF 184 (pu hcp ?_))|refine y3 ?_|refine y7 ?_ ?_|refine y4 ?_|(refine y9 ?_ ?_<;>intro h)|exact y5|fail)
  refine Ex.inv (σ:=Unit) (fun x=>[(5,sV r0)]) (fun x=>[(0,some {cells:=[.bool false,.int .i64 0,.slc none 0 (some 0)],ty:=138}),(1,some {cells:=[.bool true,.int .i64 0,.slc none 0 (some 0)],ty:=138})])
   (fun x=>True) (fun x=>0) () rfl (fun _=>rfl) trivial ⟨VLe.refl _,trivial⟩ ⟨rfl,rfl,trivial⟩ ?_
  rintro _ _
  repeat'(first|exact y0|refine y1 ?_|refine y2 ?_ ?_|(refine y8 ?_ ?_<;>intro h<;>try exact y6)|(refine wC ?_;first|refine wF 186 (pu (count_c _ _) ?_)|(refine wF 187 ?_;refine CallG.pu (split_c _ _ (by omega) (by omega)) rfl rfl rfl rfl ?_)|refine wF 178 (bo (validP_u _ _ _) ?_)|refine CallG.wb (validP_u true 0 []) rfl ?_ rfl rfl ?_)|exact⟨VLe.agg ⟨SLe.refl _,SLe.refl _,SLe.nil,trivial⟩,trivial⟩|refine Fin.le (.inl rfl) rfl ?_ rfl|refine y3 ?_|refine y7 ?_ ?_|refine y4 ?_|(refine y9 ?_ ?_<;>intro h)|exact y5|fail)
  all_goals first
   |exact psV_z (by unfold tailP finP;simp_all<;>omega)
   |exact psV_ok (by unfold tailP finP;simp_all<;>omega)
   |exact psV_0 (by unfold tailP finP;simp_all<;>omega)
end Go.Proofs.YtbokilgdefkmiaaGreatDoor
