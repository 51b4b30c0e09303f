import Derived.Test.YtegjgpldfgjoiaaGreatDoorCnB02
set_option linter.unusedSimpArgs false
set_option linter.unusedVariables false
namespace Go.Proofs.YtegjgpldfgjoiaaGreatDoor
namespace Ab
open Go
theorem nK {k:IntKind} {z:Int} (h1:k.min<=z) (h2:z<=k.max):k.wrap z=z:=by
 cases k<;>simp[IntKind.min,IntKind.max,IntKind.bits,IntKind.signed] at h1 h2<;>simp[IntKind.wrap,IntKind.bits,IntKind.signed]<;>omega
theorem aa {z:Int} (h1: -9223372036854775808<=z) (h2:z<=9223372036854775807):IntKind.i64.wrap z=z:=nK (by simpa [IntKind.min,IntKind.bits,IntKind.signed] using h1) (by simpa [IntKind.max,IntKind.bits,IntKind.signed] using h2)
theorem ac {z:Int} (h1:0<=z) (h2:z<=18446744073709551615):IntKind.u64.wrap z=z:=nK (by simpa [IntKind.min,IntKind.bits,IntKind.signed] using h1) (by simpa [IntKind.max,IntKind.bits,IntKind.signed] using h2)
inductive Ans where
 |dec (d:Bool)
 |keep
 |num (z:Int)
 |idx (k:Nat)
 |mk (k:Nat)
 |val (v:V)
 |cells (l:List S)
 |call (tbl:List Nat) (args0:List V) (L0:Hp) (v0:V) (n0':Nat) (L0':Hp)
 |loop (x:Exit) (env:List V) (n:Nat) (L:Hp)
 |app (r:Nat) (cs:List S)
 |callw (tbl:List Nat) (args0:List V) (L0:Hp) (v0:V) (n0':Nat) (L0':Hp)
 |lazy (l:List Ans) (fin:List (Nat×Bool))
 |eager
 |ldv (v:V)
 |stc (l:List S)
 |ext (args0:List V) (v:V)
 |join (as1 as2:List Ans) (z:Exit) (e:List V) (m:Nat) (M:Hp)
 |win (k h:Nat) (cs:List S)
 |wlz (k h:Nat)
 |stw (cs cells:List S)
structure Out where
 r:R
 ans:List Ans
 C:Prop
def mG (k:IntKind) (raw:Int):List Ans->Int×List Ans×Prop
 | .num z::as_=>(z,as_,k.wrap raw=z)
 |as_=>(raw,as_,k.wrap raw=raw)
def jG (raw:Int):List Ans->Int×List Ans×Prop
 | .num z::as_=>(z,as_,raw=z)
 |as_=>(raw,as_,True)
def gr (b:Bool):List Ans->Bool×List Ans×Prop
 | .dec d::as_=>(d,as_,b=d)
 | .keep::as_=>(b,as_,True)
 |as_=>(b,as_,True)
theorem fx {k:IntKind} {raw:Int} {ans:List Ans} (h:(mG k raw ans).2.2):k.wrap raw=(mG k raw ans).1:=by
 unfold mG at h |-;split at h<;>exact h
theorem dS {raw:Int} {ans:List Ans} (h:(jG raw ans).2.2):raw=(jG raw ans).1:=by
 unfold jG at h |-;split at h
 ·exact h
 ·rfl
theorem kE {b:Bool} {ans:List Ans} (h:(gr b ans).2.2):b=(gr b ans).1:=by
 unfold gr at h |-;split at h
 ·exact h
 ·rfl
 ·rfl
abbrev SO:=Option (S×List Ans×Prop)
def gT (k:IntKind) (t:Int×List Ans×Prop) (C:Prop):SO:=match t with|(z,as_,D)=>some (.int k z,as_,C/\D)
def ib (t:Bool×List Ans×Prop):SO:=match t with|(z,as_,D)=>some (.bool z,as_,D)
theorem c_ (k:IntKind) (t:Int×List Ans×Prop) (C:Prop):gT k t C=some (.int k t.1,t.2.1,C/\t.2.2):=rfl
theorem ow (t:Bool×List Ans×Prop):ib t=some (.bool t.1,t.2.1,t.2.2):=rfl
def Dv (op:BinOp) (k:IntKind) (a b:Int) (ans:List Ans):SO:=
 match op with
 | .add=>gT k (mG k (a+b) ans) True
 | .sub=>gT k (mG k (a-b) ans) True
 | .mul=>gT k (mG k (a*b) ans) True
 | .quo=>gT k (mG k (a.tdiv b) ans) (b≠0)
 | .rem=>gT k (jG (a.tmod b) ans) (b≠0)
 | .and=>gT k (jG (fC .and k a b) ans) True
 | .or=>gT k (jG (fC .or k a b) ans) True
 | .xor=>gT k (jG (fC .xor k a b) ans) True
 | .andNot=>gT k (jG (fC .andNot k a b) ans) True
 | .eql=>ib (gr (a==b) ans)
 | .neq=>ib (gr (a !=b) ans)
 | .lss=>ib (gr (decide (a<b)) ans)
 | .leq=>ib (gr (decide (a<=b)) ans)
 | .gtr=>ib (gr (decide (a>b)) ans)
 | .geq=>ib (gr (decide (a≥b)) ans)
 |_=>none
def kEq:IntKind->IntKind->Bool
 | .i8,.i8=>true| .i16,.i16=>true| .i32,.i32=>true| .i64,.i64=>true
 | .u8,.u8=>true| .u16,.u16=>true| .u32,.u32=>true| .u64,.u64=>true
 |_,_=>false
theorem oU {a b:IntKind} (h:kEq a b=true):a=b:=by cases a<;>cases b<;>simp[kEq] at h<;>rfl
def sj (op:BinOp) (k:IntKind) (a:Int) (k':IntKind) (b:Int) (ans:List Ans):SO:=
 match op with
 | .shl=>gT k (mG k (a*2^(min b.toNat k.bits)) ans) (0<=b)
 | .shr=>gT k (jG (a.fdiv (2^(min b.toNat k.bits))) ans) (0<=b)
 |op=>match kEq k k' with|true=>Dv op k a b ans|false=>none
def Yld (P:Program) (m:Sem Value) (s:S):Prop:=∀ (φ:Ph) (w:World),∃ v,m.run P w=.ok v w/\Sr φ s v
theorem Du {P:Program} {op:BinOp} {k:IntKind} {a b:Int} {t:TypeId} {ans:List Ans} {s:S} {as_:List Ans} {C:Prop} (h:Dv op k a b ans=some (s,as_,C)) (hC:C):
 Yld P (binOp op t (.int k a) (.int k b)) s:=by
 intro φ w
 cases op<;>simp only[Dv,c_,ow,Option.some.injEq,Prod.mk.injEq,reduceCtorEq] at h
 all_goals obtain⟨rfl,rfl,rfl⟩:=h
 case add=>exact⟨_,by simp[binOp,Op.intArith,fx hC.2],rfl⟩
 case sub=>exact⟨_,by simp[binOp,Op.intArith,fx hC.2],rfl⟩
 case mul=>exact⟨_,by simp[binOp,Op.intArith,fx hC.2],rfl⟩
 case quo=>exact⟨_,by simp[binOp,Op.intDiv,hC.1,fx hC.2],rfl⟩
 case rem=>exact⟨_,by simp[binOp,Op.intDiv,hC.1,<-dS hC.2],rfl⟩
 case and=>exact⟨_,by rw[<-dS hC.2];simp only[binOp,Op.intBits,fC,ne_eq,not_true_eq_false,if_false];rfl,rfl⟩
 case or=>exact⟨_,by rw[<-dS hC.2];simp only[binOp,Op.intBits,fC,ne_eq,not_true_eq_false,if_false];rfl,rfl⟩
 case xor=>exact⟨_,by rw[<-dS hC.2];simp only[binOp,Op.intBits,fC,ne_eq,not_true_eq_false,if_false];rfl,rfl⟩
 case andNot=>exact⟨_,by rw[<-dS hC.2];simp only[binOp,Op.intBits,fC,ne_eq,not_true_eq_false,if_false];rfl,rfl⟩
 all_goals exact⟨_,by simp[binOp,Op.intCmp,<-kE hC],rfl⟩
theorem BE {P:Program} {op:BinOp} {k k':IntKind} {a b:Int} {t:TypeId} {ans:List Ans} {s:S} {as_:List Ans} {C:Prop} (h:sj op k a k' b ans=some (s,as_,C)) (hC:C):
 Yld P (binOp op t (.int k a) (.int k' b)) s:=by
 unfold sj at h;split at h
 ·intro φ w
  simp only[c_,Option.some.injEq,Prod.mk.injEq] at h;obtain⟨rfl,rfl,rfl⟩:=h;obtain⟨h1,h2⟩:=hC
  have h1': ¬b<0:=by omega
  exact⟨_,by simp only[binOp,Op.shift,if_neg h1',fx h2,Sem.run_pure],rfl⟩
 ·intro φ w
  simp only[c_,Option.some.injEq,Prod.mk.injEq] at h;obtain⟨rfl,rfl,rfl⟩:=h;obtain⟨h1,h2⟩:=hC
  have h1': ¬b<0:=by omega
  exact⟨_,by simp only[binOp,Op.shift,if_neg h1',<-dS h2,Sem.run_pure],rfl⟩
 ·split at h
  ·rename_i hk
   have:=oU hk;subst this;exact Du h hC
  ·cases h
theorem toList_mk (l:List UInt8):(⟨l.toArray⟩:ByteArray).toList=l:=by
 rw[ByteArray.toList_eq]
theorem v7 (l l':List UInt8):(⟨l.toArray⟩:ByteArray)++⟨l'.toArray⟩=⟨(l++l').toArray⟩:=by
 apply ByteArray.ext;simp
def kP (op:BinOp) (x y:List UInt8) (ans:List Ans):SO:=
 match op with
 | .add=>some (.str (x++y),ans,((x.length+y.length:Nat):Int)<=9223372036854775807)
 | .eql=>ib (gr (decide (x=y)) ans)
 | .neq=>ib (gr (!decide (x=y)) ans)
 | .lss=>ib (gr (Op.bytesLess x y) ans)
 | .leq=>ib (gr (Op.bytesLess x y||decide (x=y)) ans)
 | .gtr=>ib (gr (!(Op.bytesLess x y||decide (x=y))) ans)
 | .geq=>ib (gr (!Op.bytesLess x y) ans)
 |_=>none
theorem tV {P:Program} {op:BinOp} {x y:List UInt8} {t:TypeId} {ans:List Ans} {s:S} {as_:List Ans} {C:Prop} (h:kP op x y ans=some (s,as_,C)) (hC:C):
 Yld P (binOp op t (.string ⟨x.toArray⟩) (.string ⟨y.toArray⟩)) s:=by
 intro φ w
 have hb:(x==y)=decide (x=y):=by
  by_cases e:x=y
  ·simp[e]
  ·simp[e]
 cases op<;>simp only[kP,ow,Option.some.injEq,Prod.mk.injEq,reduceCtorEq] at h
 all_goals obtain⟨rfl,rfl,rfl⟩:=h
 case add=>
  refine⟨.string ⟨(x++y).toArray⟩,?_,rfl⟩
  have hs: ¬(((⟨x.toArray⟩:ByteArray).size+(⟨y.toArray⟩:ByteArray).size:Nat):Int)>IntKind.i64.max:=by
   have e1:(⟨x.toArray⟩:ByteArray).size=x.length:=by simp[ByteArray.size]
   have e2:(⟨y.toArray⟩:ByteArray).size=y.length:=by simp[ByteArray.size]
   rw[e1,e2]
   have:IntKind.i64.max=9223372036854775807:=by decide
   omega
  simp only[binOp,Op.stringOp,if_neg hs,Sem.run_pure,v7]
 all_goals exact⟨_,by simp only[binOp,Op.stringOp,toList_mk,hb,<-kE hC,Sem.run_pure],rfl⟩
def se (op:BinOp) (b:Bool) (ans:List Ans):SO:=
 match op with
 | .eql=>ib (gr b ans)
 | .neq=>ib (gr (!b) ans)
 |_=>none
theorem gS {P:Program} {op:BinOp} {b:Bool} {t:TypeId} {x y:Value} {ans:List Ans} {s:S} {as_:List Ans} {C:Prop} (h:se op b ans=some (s,as_,C)) (hC:C)
 (he:∀ w,(Op.equal t x y).run P w=.ok b w)
 (h1:∀ w,(binOp .eql t x y).run P w=(do pure (.bool (<-Op.equal t x y)):Sem Value).run P w) (h2:∀ w,(binOp .neq t x y).run P w=(do pure (.bool (!(<-Op.equal t x y))):Sem Value).run P w):
 Yld P (binOp op t x y) s:=by
 intro φ w
 cases op<;>simp only[se,ow,Option.some.injEq,Prod.mk.injEq,reduceCtorEq] at h
 all_goals obtain⟨rfl,rfl,rfl⟩:=h
 case eql=>exact⟨_,by rw[h1];simp only[Sem.run_bind,he,Result.andThen_ok,Sem.run_pure,<-kE hC],rfl⟩
 case neq=>exact⟨_,by rw[h2];simp only[Sem.run_bind,he,Result.andThen_ok,Sem.run_pure,<-kE hC],rfl⟩
def gk (P:Program) (t:TypeId):Bool:=match P.underlying t with|some .bool=>true|_=>false
def gM (P:Program) (t:TypeId):Bool:=match P.underlying t with|some (.pointer _)=>true|_=>false
def bd (P:Program) (t:TypeId):Bool:=match P.underlying t with|some (.slice _)=>true|_=>false
theorem run_underlying {P:Program} {w:World} {t:TypeId} {d:TypeDesc} (h:P.underlying t=some d):(underlying t).run P w=.ok d w:=by
 simp only[underlying,Sem.run_bind,run_program,Result.andThen_ok,h,Sem.run_pure]
def BG (P:Program) (op:BinOp) (t:TypeId) (x y:V) (ans:List Ans):SO:=
 match x,y with
 | .s (.int k a),.s (.int k' b)=>sj op k a k' b ans
 | .s (.str a),.s (.str b)=>kP op a b ans
 | .s (.bool a),.s (.bool b)=>match gk P t with|true=>se op (a==b) ans|false=>none
 | .s (.ptr none),.s (.ptr q)=>match gM P t with|true=>se op q.isNone ans|false=>none
 | .s (.ptr (some _)),.s (.ptr none)=>match gM P t with|true=>se op false ans|false=>none
 | .s (.slc none _ _),.s (.slc q _ _)=>match bd P t with|true=>se op q.isNone ans|false=>none
 | .s (.slc (some _) _ _),.s (.slc none _ _)=>match bd P t with|true=>se op false ans|false=>none
 |_,_=>none
def sk (P:Program) (φ:Ph) (m:Sem Value) (s:S):Prop:=∀ w,∃ v,m.run P w=.ok v w/\Sr φ s v
section
variable {P:Program} {w:World} {t:TypeId} (d:Nat)
theorem nb (hty:P.underlying t=some .bool) (a b:Bool):(Op.equalIn (d+1) t (.bool a) (.bool b)).run P w=.ok (a==b) w:=by
 simp only[Op.equalIn,Sem.run_bind,run_underlying hty,Result.andThen_ok,Sem.run_pure]
theorem rz {e:TypeId} (hty:P.underlying t=some (.pointer e)) (b:Option Addr):(Op.equalIn (d+1) t (.pointer none) (.pointer b)).run P w=.ok b.isNone w:=by
 simp only[Op.equalIn,Sem.run_bind,run_underlying hty,Result.andThen_ok,Sem.run_pure]
theorem ry {e:TypeId} (hty:P.underlying t=some (.pointer e)) (a:Addr):(Op.equalIn (d+1) t (.pointer (some a)) (.pointer none)).run P w=.ok false w:=by
 simp only[Op.equalIn,Sem.run_bind,run_underlying hty,Result.andThen_ok,Sem.run_pure]
theorem mH {e:TypeId} (hty:P.underlying t=some (.slice e)) (b:Option Addr) (n m k l:Nat):(Op.equalIn (d+1) t (.slice none n m) (.slice b k l)).run P w=.ok b.isNone w:=by
 simp only[Op.equalIn,Sem.run_bind,run_underlying hty,Result.andThen_ok,Sem.run_pure]
theorem gW {e:TypeId} (hty:P.underlying t=some (.slice e)) (a:Addr) (n m k l:Nat):(Op.equalIn (d+1) t (.slice (some a) n m) (.slice none k l)).run P w=.ok false w:=by
 simp only[Op.equalIn,Sem.run_bind,run_underlying hty,Result.andThen_ok,Sem.run_pure]
end
theorem e9 {P:Program} {w:World} {t:TypeId} {x y:Value} {b:Bool} (h:∀ d,(Op.equalIn (d+1) t x y).run P w=.ok b w):(Op.equal t x y).run P w=.ok b w:=h 9999
theorem wM {P:Program} {w:World} {t:TypeId} {x y:Value} {b:Bool} (h:∀ d,(Op.equalIn (d+2) t x y).run P w=.ok b w):(Op.equal t x y).run P w=.ok b w:=h 9998
theorem DL {P:Program} {φ:Ph} {op:BinOp} {t:TypeId} {x y:V} {ans:List Ans} {s:S} {as_:List Ans} {C:Prop} (h:BG P op t x y ans=some (s,as_,C)) (hC:C)
 {ox oy:Operand} {u v:Value} (hu:Vr φ x u) (hv:Vr φ y v):sk P φ (do eqGuard op t ox oy u v;binOp op t u v) s:=by
 have guard:∀ (m:Sem Value),(∀ w,(eqGuard op t ox oy u v).run P w=.ok () w)->Yld P m s->sk P φ (do eqGuard op t ox oy u v;m) s:=by
  intro m hg hy w;obtain⟨r,h1,h2⟩:=hy φ w;exact⟨r,by simp only[Sem.run_bind,hg,Result.andThen_ok,h1],h2⟩
 unfold BG at h;split at h
 ·simp only[Vr,Sr] at hu hv;subst hu;subst hv
  exact guard _ (fun w=>by unfold eqGuard;split<;>simp) (BE h hC)
 ·simp only[Vr,Sr] at hu hv;subst hu;subst hv
  exact guard _ (fun w=>by unfold eqGuard;split<;>simp) (tV h hC)
 ·simp only[Vr,Sr] at hu hv;subst hu;subst hv
  split at h
  ·rename_i hb
   unfold gk at hb;split at hb
   ·rename_i hty
    exact guard _ (fun w=>by unfold eqGuard;split<;>simp) (gS h hC (fun w=>e9 fun d=>nb d hty _ _) (fun w=>by simp only[binOp]) (fun w=>by simp only[binOp]))
   ·cases hb
  ·cases h
 ·rename_i q
  simp only[Vr,Sr] at hu;subst hu
  have hq:∃ b,v=.pointer b/\b.isNone=q.isNone:=by
   rcases q with _|⟨i,o⟩
   ·exact⟨none,hv,rfl⟩
   ·obtain⟨b,_,hv⟩:=hv;exact⟨_,hv,rfl⟩
  obtain⟨b,rfl,hbq⟩:=hq;split at h
  ·rename_i hb
   unfold gM at hb;split at hb
   ·rename_i hty
    rw[<-hbq] at h;exact guard _ (fun w=>by unfold eqGuard;split<;>simp) (gS h hC (fun w=>e9 fun d=>rz d hty _) (fun w=>by cases b<;>simp only[binOp]) (fun w=>by cases b<;>simp only[binOp]))
   ·cases hb
  ·cases h
 ·rename_i p
  obtain⟨i,o⟩:=p;obtain⟨b,_,rfl⟩:=hu;simp only[Vr,Sr] at hv;subst hv;split at h
  ·rename_i hb
   unfold gM at hb;split at hb
   ·rename_i hty
    exact guard _ (fun w=>by unfold eqGuard;split<;>simp) (gS h hC (fun w=>e9 fun d=>ry d hty _) (fun w=>by simp only[binOp]) (fun w=>by simp only[binOp]))
   ·cases hb
  ·cases h
 ·rename_i n1 c1 q n2 c2
  obtain⟨_,_,rfl⟩:=hu
  have hq:∃ b k l,v=.slice b k l/\b.isNone=q.isNone:=by
   rcases q with _|⟨i,o⟩
   ·obtain⟨_,_,hv⟩:=hv;exact⟨none,_,_,hv,rfl⟩
   ·obtain⟨b,k,_,hv,_⟩:=hv;exact⟨_,_,_,hv,rfl⟩
  obtain⟨b,k,l,rfl,hbq⟩:=hq;split at h
  ·rename_i hb
   unfold bd at hb;split at hb
   ·rename_i hty
    rw[<-hbq] at h;exact guard _ (fun w=>by unfold eqGuard;split<;>simp) (gS h hC (fun w=>e9 fun d=>mH d hty _ _ _ _ _) (fun w=>by simp only[binOp]) (fun w=>by simp only[binOp]))
   ·cases hb
  ·cases h
 ·rename_i p n1 c1 n2 c2
  obtain⟨i,o⟩:=p;obtain⟨b,k,_,rfl,_⟩:=hu;obtain⟨_,_,rfl⟩:=hv;split at h
  ·rename_i hb
   unfold bd at hb;split at hb
   ·rename_i hty
    exact guard _ (fun w=>by unfold eqGuard;split<;>simp) (gS h hC (fun w=>e9 fun d=>gW d hty _ _ _ _ _) (fun w=>by simp only[binOp]) (fun w=>by simp only[binOp]))
   ·cases hb
  ·cases h
 ·cases h
def aUn (op:UnOp) (x:V) (ans:List Ans):SO:=
 match op,x with
 | .not,.s (.bool b)=>some (.bool (match b with|true=>false|false=>true),ans,True)
 | .neg,.s (.int k n)=>gT k (mG k (0-n) ans) True
 | .xor,.s (.int k n)=>gT k (jG (fC .xor k (if k.signed then-1 else k.max) n) ans) True
 |_,_=>none
theorem F5 {P:Program} {φ:Ph} {op:UnOp} {x:V} {ans:List Ans} {s:S} {as_:List Ans} {C:Prop} (h:aUn op x ans=some (s,as_,C)) (hC:C) {u:Value} (hu:Vr φ x u):sk P φ (Op.unary op u) s:=by
 intro w;unfold aUn at h;split at h
 ·simp only[Vr,Sr] at hu;subst hu
  simp only[Option.some.injEq,Prod.mk.injEq] at h;obtain⟨rfl,rfl,rfl⟩:=h;rename_i b;exact⟨.bool !b,by simp only[Op.unary,Sem.run_pure],by cases b<;>rfl⟩
 ·simp only[Vr,Sr] at hu;subst hu
  simp only[c_,Option.some.injEq,Prod.mk.injEq] at h;obtain⟨rfl,rfl,rfl⟩:=h;exact⟨_,by simp only[Op.unary,Op.intArith,fx hC.2,Sem.run_pure],rfl⟩
 ·simp only[Vr,Sr] at hu;subst hu
  simp only[c_,Option.some.injEq,Prod.mk.injEq] at h;obtain⟨rfl,rfl,rfl⟩:=h;exact⟨_,by rw[<-dS hC.2];simp only[Op.unary,Op.intBits,fC];rfl,rfl⟩
 ·cases h
def iv (P:Program) (src dst:TypeId) (x:V) (ans:List Ans):SO:=
 match x with
 | .s (.int _ n)=>
   match P.underlying src,P.underlying dst with
   |some _,some (.int k)=>gT k (mG k n ans) True
   |_,_=>none
 | .s (.str l)=>
   match P.underlying src,P.underlying dst with
   |some .string,some .string=>some (.str l,ans,True)
   |_,_=>none
 |_=>none
theorem xm {P:Program} {φ:Ph} {src dst:TypeId} {x:V} {ans:List Ans} {s:S} {as_:List Ans} {C:Prop} (h:iv P src dst x ans=some (s,as_,C)) (hC:C) {u:Value} (hu:Vr φ x u):sk P φ (convert src dst u) s:=by
 intro w;unfold iv at h;split at h
 ·simp only[Vr,Sr] at hu;subst hu
  split at h
  ·rename_i h1 h2
   simp only[c_,Option.some.injEq,Prod.mk.injEq] at h;obtain⟨rfl,rfl,rfl⟩:=h;exact⟨_,by simp only[convert,Sem.run_bind,run_underlying h1,run_underlying h2,Result.andThen_ok,Conv.intToInt,Sem.run_pure,fx hC.2],rfl⟩
  ·cases h
 ·simp only[Vr,Sr] at hu;subst hu
  split at h
  ·rename_i h1 h2
   simp only[Option.some.injEq,Prod.mk.injEq] at h;obtain⟨rfl,rfl,rfl⟩:=h;exact⟨_,by simp only[convert,Sem.run_bind,run_underlying h1,run_underlying h2,Result.andThen_ok,Sem.run_pure],rfl⟩
  ·cases h
 ·cases h
def tT (x:V) (i:Nat):Option V:=match x with| .tup l=>(match l[i]? with|some u=>some (ofU u)|none=>none)|_=>none
theorem DJ {P:Program} {φ:Ph} {x v:V} {i:Nat} (h:tT x i=some v) {u:Value} (hu:Vr φ x u) (w:World):∃ y,(Instr.extract u i).run P w=.ok y w/\Vr φ v y:=by
 unfold tT at h;split at h
 ·obtain⟨xs,rfl,hall⟩:=hu
  split at h
  ·rename_i q hq
   cases h;obtain⟨y,hy,hr⟩:=hall.get hq;exact⟨y,by simp[Instr.extract,hy],yA hr⟩
  ·cases h
 ·cases h
def xg (P:Program) (t:TypeId) (x:V):Option S:=
 match P.underlying t,x with
 |some .string,.s (.str l)=>some (.int .i64 l.length)
 |some (.slice _),.s (.slc _ n _)=>some (.int .i64 n)
 |some (.slice _),.s (.sla _ _ n)=>some (.int .i64 n)
 |some (.slice _),.s .emp=>some (.int .i64 0)
 |some (.array n _),_=>some (.int .i64 n)
 |_,_=>none
theorem DI {P:Program} {φ:Ph} {t:TypeId} {x:V} {s:S} (h:xg P t x=some s) {u:Value} (hu:Vr φ x u) {ts:Array TypeId} {ty:TypeId} (hts:ts[0]? =some t):sk P φ (Builtin.len_ ts ty #[u]) s:=by
 intro w;unfold xg at h;split at h
 ·rename_i hty
  simp only[Vr,Sr] at hu;subst hu;cases h;rename_i l;have e:(⟨l.toArray⟩:ByteArray).size=l.length:=rfl;exact⟨.int .i64 l.length,by simp[Builtin.len_,hts,run_underlying hty,goInt,e],rfl⟩
 ·rename_i q n c hty
  cases h
  have:∃ b k,u=.slice b n k:=by
   rcases q with _|⟨i,o⟩
   ·obtain⟨rfl,_,hv⟩:=hu;exact⟨_,_,hv⟩
   ·obtain⟨b,k,_,hv,_⟩:=hu;exact⟨_,_,hv⟩
  obtain⟨b,k,rfl⟩:=this;exact⟨.int .i64 n,by simp[Builtin.len_,hts,run_underlying hty,goInt],rfl⟩
 ·rename_i i g n hty
  cases h;obtain⟨b,k,_,_,rfl,_⟩:=hu;exact⟨.int .i64 n,by simp[Builtin.len_,hts,run_underlying hty,goInt],rfl⟩
 ·rename_i hty
  cases h;obtain⟨a,rfl⟩:=hu;exact⟨.int .i64 0,by simp[Builtin.len_,hts,run_underlying hty,goInt],rfl⟩
 ·rename_i n e hty
  cases h;exact⟨.int .i64 n,by simp[Builtin.len_,hts,run_underlying hty,goInt],rfl⟩
 ·cases h
def dg (mx:Bool) (x y:V) (ans:List Ans):SO:=
 match x,y with
 | .s (.int k a),.s (.int _ b)=>gT k (jG (match mx with|true=>if b>a then b else a|false=>if b<a then b else a) ans) True
 |_,_=>none
theorem DF {P:Program} {φ:Ph} {x y:V} {ans:List Ans} {s:S} {as_:List Ans} {C:Prop} (h:dg false x y ans=some (s,as_,C)) (hC:C) {u v:Value} (hu:Vr φ x u) (hv:Vr φ y v) {ts:Array TypeId} {ty:TypeId}:
 sk P φ (Builtin.min_ ts ty #[u,v]) s:=by
 intro w;unfold dg at h;split at h
 ·simp only[Vr,Sr] at hu hv;subst hu;subst hv
  simp only[c_,Option.some.injEq,Prod.mk.injEq] at h;obtain⟨rfl,rfl,rfl⟩:=h;exact⟨_,by rw[<-dS hC.2];simp[Builtin.min_,Builtin.min2],rfl⟩
 ·cases h
theorem DH {P:Program} {φ:Ph} {x y:V} {ans:List Ans} {s:S} {as_:List Ans} {C:Prop} (h:dg true x y ans=some (s,as_,C)) (hC:C) {u v:Value} (hu:Vr φ x u) (hv:Vr φ y v) {ts:Array TypeId} {ty:TypeId}:
 sk P φ (Builtin.max_ ts ty #[u,v]) s:=by
 intro w;unfold dg at h;split at h
 ·simp only[Vr,Sr] at hu hv;subst hu;subst hv
  simp only[c_,Option.some.injEq,Prod.mk.injEq] at h;obtain⟨rfl,rfl,rfl⟩:=h;exact⟨_,by rw[<-dS hC.2];simp[Builtin.max_,Builtin.max2],rfl⟩
 ·cases h
theorem OpL.light {P:Program} {o:Oper} {env:List V} {n:Nat} {L:Hp} {v:V}
 (h:∀ φ (a:Act) (w:World),(∀ x∈o.op.operands,Vr φ (ev env x) (a.eval x))->Good φ L w->∃ y,(execOp a.eval o).run P w=.ok (.value y) w/\Vr φ v y):OpL P o env n L v n L:=by
 intro φ a w Q hx hg _;obtain⟨y,hr,hv⟩:=h φ a w hx hg;unfold Oper.wp;rw[hr,Oper.upon_value];exact⟨φ,y,rfl,hv,hg,Stp.refl _ _ _,fun _ _=>rfl⟩
theorem OpL.fresh {P:Program} {o:Oper} {env:List V} {n:Nat} {L:Hp} {v:V} {bl:Bl} (hn:lk L n=none)
 (h:∀ φ (a:Act) (w:World),(∀ x∈o.op.operands,Vr φ (ev env x) (a.eval x))->Good φ L w->
   ∃ y w',(execOp a.eval o).run P w=.ok (.value y) w'/\w'.os=w.os/\w'.tape=w.tape/\w'.output=w.output/\(∃ ob,w'.heap=w.heap.push ob)/\BlAt φ w' (w.heap.size,0) bl/\
     ∀ φ':Ph,φ' n=some (w.heap.size,0)->φ.le φ'->Vr φ' v y):OpL P o env n L v (n+1) (put L n (some bl)):=by
 intro φ a w Q hx hg hf;obtain⟨y,w',hr,h1,h2,h3,⟨ob,h4⟩,h5,h6⟩:=h φ a w hx hg;have hfn:=hf n (Nat.le_refl _) (by omega)
 let φ':Ph:=⟨fun i=>if i=n then some (w.heap.size,0) else φ i,φ.z⟩
 have hle:φ.le φ':=by
  refine⟨fun i b hb=>?_,fun _ _ h=>h⟩;simp only[φ'];split
  ·rename_i e;subst e;rw[hfn] at hb;cases hb
  ·exact hb
 have hsz:w.heap.size<=w'.heap.size:=by rw[h4];simp
 have hkeep:∀ b,b<w.heap.size->w'.heap[b]? =w.heap[b]? :=by
  intro b hb;rw[h4,Array.getElem?_push_lt hb];simp[hb]
 unfold Oper.wp;rw[hr,Oper.upon_value];refine⟨φ',y,rfl,h6 φ' (by simp[φ']) hle,⟨?_,?_,fun b l hb=>?_,hg.gz⟩,⟨h1,h2,h3,hsz,fun b hb _=>hkeep b hb,?_,fun _ _ h=>h,fun _ _ h=> .inl h⟩,?_⟩
 rotate_left 2
 ·have hlt:=hg.fzlt hb
  refine⟨by rw[hkeep b hlt];exact (hg.fz b l hb).1,?_⟩;rintro⟨i,bl,c,hi,hc,hcb,hro⟩;rw[ax] at hi;split at hi
  ·rename_i e;subst e
   simp only[φ',if_true,Option.some.injEq] at hc;subst hc;simp only at hcb;omega
  ·rename_i e
   simp only[φ',if_neg (Ne.symm e)] at hc;exact (hg.fz b l hb).2 ⟨i,bl,c,hi,hc,hcb,hro⟩
 rotate_left 2
 ·intro i bi hi
  rw[ax] at hi;split at hi
  ·rename_i e;subst e;cases hi
   exact⟨(w.heap.size,0),by simp[φ'],h5.mono hle rfl⟩
  ·obtain⟨b,hb,hat⟩:=hg.hr i bi hi
   exact⟨b,hle i b hb,hat.mono hle (hkeep b.1 hat.lt)⟩
 ·intro i j bi bj b b' hi hj hb hb' hbb
  rw[ax] at hi hj
  by_cases ei:n=i<;>by_cases ej:n=j
  ·exact .inl (ei▸ej)
  ·rw[if_neg ej] at hj
   obtain⟨c,hc,hat⟩:=hg.hr j bj hj;have:=hle j c hc;rw[hb'] at this;cases this;subst ei;simp only[φ',if_true,Option.some.injEq] at hb;subst hb;simp only at hbb;have:=hat.lt;omega
  ·rw[if_neg ei] at hi
   obtain⟨c,hc,hat⟩:=hg.hr i bi hi;have:=hle i c hc;rw[hb] at this;cases this;subst ej;simp only[φ',if_true,Option.some.injEq] at hb';subst hb';simp only at hbb;have:=hat.lt;omega
  ·rw[if_neg ei] at hi
   rw[if_neg ej] at hj;simp only[φ',if_neg (Ne.symm ei)] at hb;simp only[φ',if_neg (Ne.symm ej)] at hb';exact hg.inj i j bi bj b b' hi hj hb hb' hbb
 ·intro j bj b hj hb hlt
  rw[ax] at hj;by_cases ej:n=j
  ·subst ej;simp only[φ',if_true,Option.some.injEq] at hb;subst hb;simp only at hlt;omega
  ·rw[if_neg ej] at hj
   simp only[φ',if_neg (Ne.symm ej)] at hb;exact⟨j,bj,b,hj,hb,rfl,id,.inl rfl⟩
 ·intro i hi
  simp only[φ'];rw[if_neg (by omega)]
def cellsOf:V->Option (List S)
 | .s x=>match isJ x with|false=>some [x]|true=>none
 | .agg l=>some l
 |_=>none
theorem mJ {v:Value} (h:eb v=true):v.cells= #[v]:=by cases v<;>first|rfl|cases h
theorem jN {φ:Ph} {v:V} {l:List S} {y:Value} (h:cellsOf v=some l) (hv:Vr φ v y):All2 (Sr φ) l y.cells.toList:=by
 cases v<;>simp only[cellsOf,Option.some.injEq,reduceCtorEq] at h
 ·split at h
  ·rename_i hj
   cases h;have:=Sr.cell hv hj;rw[mJ this];exact⟨hv,trivial⟩
  ·cases h
 subst h
 ·obtain⟨xs,rfl,hall⟩:=hv
  simpa [Value.cells] using hall
def toS:Value->Option S
 | .bool b=>some (.bool b)
 | .int k n=>some (.int k n)
 | .string s=>some (.str s.data.toList)
 | .pointer none=>some (.ptr none)
 | .slice none 0 0=>some (.slc none 0 (some 0))
 | .map none=>some (.map none)
 | .agg _=>none
 | .tuple _=>none
 |_=>some .unk
theorem DP {φ:Ph} {v:Value} {x:S} (h:toS v=some x):Sr φ x v:=by
 unfold toS at h
 split at h<;>simp only[Option.some.injEq,reduceCtorEq] at h
 all_goals subst h
 all_goals first|rfl|exact⟨rfl,rfl,rfl⟩|skip
 ·rename_i h6 h7
  cases v<;>first|rfl|exact (h6 _ rfl).elim|exact (h7 _ rfl).elim
def vH:List Value->Option (List S)
 |[]=>some []
 |v::t=>match toS v,vH t with|some x,some l=>some (x::l)|_,_=>none
theorem sA {φ:Ph}:∀ {vs:List Value} {l:List S},vH vs=some l->All2 (Sr φ) l vs
 |[],l,h=>by simp[vH] at h;subst h;trivial
 |v::t,l,h=>by
  simp only[vH] at h;split at h
  ·rename_i x l' h1 h2
   cases h;exact⟨DP h1,sA h2⟩
  ·cases h
def cx (P:Program) (t:TypeId):Option (List S):=
 match P.info? t with
 |some i=>match i.zero with|some v=>vH v.cells.toList|none=>none
 |none=>none
theorem dV {P:Program} {t:TypeId} {l:List S} (h:cx P t=some l) (w:World):∃ z,(zeroValue t).run P w=.ok z w/\∀ φ,All2 (Sr φ) l z.cells.toList:=by
 unfold cx at h;split at h
 ·rename_i i hi
  split at h
  ·rename_i v hv
   exact⟨v,by simp[zeroValue,typeInfo,hi,hv],fun φ=>sA h⟩
  ·cases h
 ·cases h
def xf (n:Nat) (ty:TypeId) (l:List S) (ans:List Ans):Out:=⟨⟨[],.s (.ptr (some (n,0))),[(n,some {cells:=l,ty})],n+1⟩,ans,True⟩
theorem rQ {φ:Ph} {w w':World} {l:List S} {xs:List Value} {ty:TypeId} (hw:w'.heap=w.heap.push (.cells xs.toArray ty)) (h:All2 (Sr φ) l xs):BlAt φ w' (w.heap.size,0) {cells:=l,ty}:=by
 refine⟨[],xs,[],(0,0),by rw[hw];simp[bC],rfl,by simpa [Bl.ph] using h,fun _=>rfl,fun _ o _=>by simp,⟨fun g z (e:(none:Option (Nat×Nat))=some (g,z))=>(by cases e),fun g (e:(none:Option Nat)=some g)=>(by cases e)⟩⟩
def aU {α:Type} (arr:List α):Nat->List α->List α
 |_,[]=>arr
 |o,v::t=>aU (arr.set o v) (o+1) t
theorem fR {α:Type}:∀ (vs:List α) (arr:List α) (o:Nat),(aU arr o vs).length=arr.length
 |[],_,_=>rfl
 |v::t,arr,o=>by simp only[aU];rw[fR t];simp
theorem sD {φ:Ph}:∀ {l:List S} {vs:List Value} {cs:List S} {arr:List Value} (o:Nat),All2 (Sr φ) cs arr->All2 (Sr φ) l vs->All2 (Sr φ) (aU cs o l) (aU arr o vs)
 |[],[],_,_,_,h,_=>h
 |_::_,_::_,_,_,o,h,h'=>sD (o+1) (h.set h'.1) h'.2
 |[],_::_,_,_,_,_,h=>h.elim
 |_::_,[],_,_,_,_,h=>h.elim
theorem jU {α:Type}:∀ (vs:List α) (arr rest:List α) (o:Nat),o+vs.length<=arr.length->aU (arr++rest) o vs=aU arr o vs++rest
 |[],_,_,_,_=>rfl
 |v::t,arr,rest,o,h=>by
  simp only[aU];rw[List.set_append_left _ _ (by simp at h;omega),jU t _ _ _ (by simp at h |-;omega)]
theorem k8 {α:Type}:∀ (vs:List α) (pre l:List α) (o k:Nat),pre.length=k->aU (pre++l) (o+k) vs=pre++aU l o vs
 |[],_,_,_,_,_=>rfl
 |v::t,pre,l,o,k,h=>by
  simp only[aU];rw[List.set_append_right _ _ (by omega),show o+k+1=(o+1)+k by omega,k8 t pre _ _ k h,show o+k-pre.length=o by omega]
def World.withBlock (w:World) (b:Nat) (ob:Obj):World:={w with heap:=w.heap.setIfInBounds b ob}
theorem my (w:World) (b:Nat) (ob:Obj) (h:b<w.heap.size):(World.withBlock w b ob).heap[b]? =some ob:=by simp[World.withBlock,h]
theorem nL (w:World) (b:Nat) (ob:Obj) (c:Nat) (h:c≠b):(World.withBlock w b ob).heap[c]? =w.heap[c]? :=by simp[World.withBlock,Array.getElem?_setIfInBounds_ne (Ne.symm h)]
theorem mC {w:World} {b o:Nat} {arr:List Value} {ty:TypeId} {fr:Nat×Nat} (hb:w.heap[b]? =some (.cells arr.toArray ty fr)) (v:Value):
 w.setCell ⟨b,o,none⟩ v=World.withBlock w b (.cells (arr.set o v).toArray ty fr):=by
 have hlt:b<w.heap.size:=by
  rcases Nat.lt_or_ge b w.heap.size with h|h
  ·exact h
  ·simp[Array.getElem?_eq_none h] at hb
 unfold World.setCell World.withBlock;congr 1;apply Array.ext_getElem?;intro i;rw[Array.getElem?_modify];by_cases e:b=i
 ·subst e
  rw[if_pos rfl,hb];simp[hlt]
 ·rw[if_neg e,Array.getElem?_setIfInBounds_ne e]
theorem cJ {P:Program} {b o:Nat} {ty:TypeId} {fr:Nat×Nat}:∀ (vs:List Value) (i:Nat) (w:World) (arr:List Value),w.heap[b]? =some (.cells arr.toArray ty fr)->
 (∀ v∈vs,eb v=true)->o+i+vs.length<=arr.length->(∀ x,x<arr.length->(fr.1<=x&&x<fr.2)=false)->
 ∃ w',(storeCells ⟨b,o,none⟩ vs i).run P w=.ok () w'/\w'.os=w.os/\w'.tape=w.tape/\w'.output=w.output/\w'.heap.size=w.heap.size/\w'.heap[b]? =some (.cells (aU arr (o+i) vs).toArray ty fr)/\∀ c,c≠b->w'.heap[c]? =w.heap[c]?
 |[],i,w,arr,hb,_,_,_=>⟨w,by simp[storeCells],rfl,rfl,rfl,rfl,hb,fun _ _=>rfl⟩
 |v::vs,i,w,arr,hb,hc,hl,hfr=>by
  have hlt:b<w.heap.size:=by
   rcases Nat.lt_or_ge b w.heap.size with h|h
   ·exact h
   ·simp[Array.getElem?_eq_none h] at hb
  have hol:o+i<arr.length:=by simp at hl;omega
  have h1:v.oneCell'=true:=by
   have:=hc v (.head _)
   cases v<;>first|rfl|cases this
  have hcell:w.cell? ⟨b,o+i,none⟩=some arr[o+i]:=by simp[World.cell?,hb,hol]
  have hfz:w.frozen? ⟨b,o+i,none⟩=false:=by simp only[World.frozen?,hb];exact hfr _ hol
  obtain⟨w',hr,g1,g2,g3,g4,g5,g6⟩:=cJ (P:=P) (b:=b) (o:=o) vs (i+1) (World.withBlock w b (.cells (arr.set (o+i) v).toArray ty fr)) (arr.set (o+i) v) (my _ _ _ hlt)
   (fun x hx=>hc x (.tail _ hx)) (by simp at hl |-;omega) (by simpa using hfr)
  refine⟨w',?_,g1,g2,g3,?_,?_,?_⟩
  ·simp only[storeCells,aA,Sem.run_bind]
   rw[run_store P w _ v _ h1];simp only[hcell,hfz,Bool.false_eq_true,if_false,Result.andThen_ok];rw[mC hb];exact hr
  ·rw[g4];simp[World.withBlock]
  ·rw[g5];simp only[aU];rw[show o+(i+1)=o+i+1 by omega]
  ·intro c hcb;rw[g6 c hcb,nL _ _ _ _ hcb]
def bD:S->Bool
 | .ptr (some _)=>false
 | .slc (some _) _ _=>false
 | .sla _ _ _=>false
 | .map (some _)=>false
 | .itr _ _=>false
 | .clo _ _=>false
 | .opq _ _ _=>false
 | .junk=>false
 | .row _ _ _=>false
 |_=>true
theorem uy {φ ψ:Ph} (hz:∀ b l,φ.z b=some l->ψ.z b=some l) {x:S} {v:Value} (h:bD x=true) (hs:Sr φ x v):Sr ψ x v:=by
 cases x with
 |unk|bool|int|str|emp|emq|fn|gp|cst=>exact hs
 |frz=>exact Pr.mono hz hs
 |fpt cs j=>obtain⟨b,o,vs,h1,hv,hx⟩:=hs;exact⟨b,o,vs,hz _ _ h1,hv,fun i x hi=>by obtain⟨y,hy,hp⟩:=hx i x hi;exact⟨y,hy,hp.mono hz⟩⟩
 |row=>cases h
 |sla i g n=>cases h
 |map a=>rcases a with _|i<;>first|exact hs|cases h
 |itr r m=>cases h
 |clo f ps=>cases h
 |opq k t K=>cases h
 |junk=>cases h
 |ptr a=>rcases a with _|⟨i,o⟩<;>first|exact hs|cases h
 |slc a n c=>rcases a with _|⟨i,o⟩<;>first|exact hs|cases h
theorem eR {φ ψ:Ph} (hz:∀ b l,φ.z b=some l->ψ.z b=some l):∀ {l:List S} {vs:List Value},l.all bD=true->All2 (Sr φ) l vs->All2 (Sr ψ) l vs
 |[],[],_,_=>trivial
 |_::_,_::_,h,h'=>by
  simp only[List.all_cons,Bool.and_eq_true] at h;exact⟨uy hz h.1 h'.1,eR hz h.2 h'.2⟩
 |[],_::_,_,h=>h.elim
 |_::_,[],_,h=>h.elim
def nJ (x:S):Bool:=match isJ x with|true=>false|false=>true
def aR (bl:Bl) (l:List S):Bool:=match bl.flat with|true=>l.all bD|false=>l.all nJ
theorem jE {bl:Bl} {l:List S} (h:aR bl l=true) {j:Nat} {s:S} (hs:l[j]? =some s):isJ s=false:=by
 have hm:s∈l:=List.mem_of_getElem? hs;unfold aR at h;split at h
 ·have:=List.all_eq_true.1 h s hm
  cases s<;>first|rfl|cases this
 ·have:=List.all_eq_true.1 h s hm
  unfold nJ at this;split at this
  ·cases this
  ·assumption
theorem kZ {φ:Ph} {w w':World} {i:Nat} {b:Nat×Nat} {bl:Bl} (hkd:bl.kind=none) {o:Nat} {l:List S} {vs:List Value} {cs':List S} (hg:Good φ [(i,some bl)] w) (hb:φ i=some b) (hro:bl.ro=false) (hfit:aR bl l=true)
 (hl:All2 (Sr φ) l vs) (hle:o+l.length<=bl.cells.length) (hcs:cs'=aU bl.cells o l)
 (hw:∃ pre xs rest fr,w.heap[b.1]? =some (.cells (pre++(xs++rest)).toArray bl.ty fr)/\pre.length=b.2/\All2 (Sr (bl.ph φ)) bl.cells xs/\(bl.more=false->rest=[])/\(∀ x,x<(pre++(xs++rest)).length->(fr.1<=x&&x<fr.2)=false)/\((∀ g z,bl.gh=some (g,z)->∃ k,φ g=some (k,0)/\k*z<=(xs++rest).length)/\(∀ g,bl.abs=some g->b=(g,0)))/\
   w'.heap[b.1]? =some (.cells (aU (pre++(xs++rest)) (o+b.2) vs).toArray bl.ty fr))
 (h1:w'.os=w.os) (h2:w'.tape=w.tape) (h3:w'.output=w.output) (h4:w'.heap.size=w.heap.size) (h6:∀ c,c≠b.1->w'.heap[c]? =w.heap[c]?):
 Good φ [(i,some {bl with cells:=cs'})] w'/\Stp φ [(i,some bl)] w φ [(i,some {bl with cells:=cs'})] w':=by
 obtain⟨pre,xs,rest,fr,e1,hp,e2,e3,e4,e6,e5⟩:=hw;subst hcs;have hlen:=e2.len;have hvl:=hl.len
 have at':BlAt φ w' b {bl with cells:=aU bl.cells o l}:=by
  refine⟨pre,aU xs o vs,rest,fr,?_,hp,?_,e3,fun _ x hx=>e4 x (by simpa [fR] using hx),fun g z e=>by simpa [fR] using e6.1 g z e,e6.2⟩
  ·rw[show ({bl with cells:=aU bl.cells o l}:Bl).kind=none from hkd];simp only[bC];rw[e5,k8 _ _ _ _ _ hp,jU _ _ _ _ (by omega)]
  ·show All2 (Sr (bl.ph φ)) _ _
   refine sD o e2 ?_;unfold aR at hfit;unfold Bl.ph
   cases hf:bl.flat with
   |false=>simpa [hf] using hl
   |true=>rw[hf] at hfit;exact eR (φ:=φ) (ψ:=⟨fun _=>none,φ.z⟩) (fun _ _ h=>h) hfit hl
 have one:∀ (c:Bl) j bj,lk [(i,some c)] j=some bj->j=i/\bj=c:=by
  intro c j bj hj;rw[ak] at hj;split at hj
  ·rename_i e;cases hj;exact⟨e.symm,rfl⟩
  ·simp[lk] at hj
 refine⟨⟨?_,?_,fun c l hc=>?_,hg.gz⟩,⟨h1,h2,h3,by omega,?_,?_,fun _ _ h=>h,fun _ _ h=> .inl h⟩⟩
 rotate_left 2
 ·have hn:=(hg.fz c l hc).2
  have hne:c≠b.1:=fun e=>hn ⟨i,bl,b,by simp[lk],hb,e.symm,hro⟩
  refine⟨by rw[h6 c hne];exact (hg.fz c l hc).1,?_⟩;rintro⟨j,bj,d,hj,hd,hdc,_⟩;obtain⟨rfl,_⟩:=one _ _ _ hj;rw[hb] at hd;cases hd;exact hne hdc.symm
 rotate_left 2
 ·intro j bj hj
  obtain⟨rfl,rfl⟩:=one _ _ _ hj;exact⟨b,hb,at'⟩
 ·intro j k bj bk c c' hj hk _ _ _
  obtain⟨rfl,_⟩:=one _ _ _ hj;obtain⟨rfl,_⟩:=one _ _ _ hk;exact .inl rfl
 ·intro c _ hn
  exact h6 c fun e=>hn ⟨i,bl,b,by simp[lk],hb,e.symm,hro⟩
 ·intro j bj c hj hc _
  obtain⟨rfl,rfl⟩:=one _ _ _ hj;exact⟨j,bl,c,by simp[lk],hc,rfl,fun e=>e,.inl rfl⟩
end Ab
end Go.Proofs.YtegjgpldfgjoiaaGreatDoor
