import Derived.Test.YtegjgpldfgjoiaaGreatDoorCnJ03
set_option linter.all false
namespace Go.Proofs.YtegjgpldfgjoiaaGreatDoor
namespace Ab
open Go
section
variable {P:Program} {s:S} {t e ty:TypeId} {C:Prop} {φ:Ph} {x:V} {u y:Value} {op:BinOp} {k:IntKind} {z:Int} {b:Bool} {w:World} {ts:Array TypeId}
theorem zE (h1:k.min<=z) (h2:z<=k.max):k.wrap z=z:=by
 cases k<;>simp[IntKind.min,IntKind.max,IntKind.bits,IntKind.signed] at h1 h2<;>simp[IntKind.wrap,IntKind.bits,IntKind.signed]<;>omega
theorem aB (h1: -9223372036854775808<=z) (h2:z<=9223372036854775807):IntKind.i64.wrap z=z:=zE (by grind [IntKind.min,IntKind.bits,IntKind.signed]) (by grind [IntKind.max,IntKind.bits])
theorem aU (h1:0<=z) (h2:z<=18446744073709551615):IntKind.u64.wrap z=z:=zE (by grind [IntKind.min]) (by grind [IntKind.max,IntKind.bits,IntKind.signed])
inductive Ans where
 |dec (d:Bool)
 |keep
 |num (z:Int)
 |idx (k:Nat)
 |mk (k:Nat)
 |val (v:V)
 |cells (l:List S)
 |call (tbl:List Nat) (args0:List V) (L0:Hp) (v0:V) (n0':Nat) (L0':Hp)
 |loop (x:Exit) (env:List V) (n:Nat) (L:Hp)
 |app (r:Nat) (cs:List S)
 |callw (tbl:List Nat) (args0:List V) (L0:Hp) (v0:V) (n0':Nat) (L0':Hp)
 |lazy (l:List Ans) (fin:List (Nat×Bool))
 |eager
 |ldv (v:V)
 |stc (l:List S)
 |ext (args0:List V) (v:V)
 |join (as1 as2:List Ans) (z:Exit) (e:List V) (m:Nat) (M:Hp)
 |win (k h:Nat) (cs:List S)
 |wlz (k h:Nat)
 |stw (cs cells:List S)
structure Out where
 r:R
 ans:List Ans
 C:Prop
def rh (k:IntKind) (raw:Int):List Ans->Int×List Ans×Prop
 | .num z::as_=>(z,as_,k.wrap raw=z)
 |as_=>(raw,as_,k.wrap raw=raw)
def qk (raw:Int):List Ans->Int×List Ans×Prop
 | .num z::as_=>(z,as_,raw=z)
 |as_=>(raw,as_,True)
def jR (b:Bool):List Ans->Bool×List Ans×Prop
 | .dec d::as_=>(d,as_,b=d)
 | .keep::as_=>(b,as_,True)
 |as_=>(b,as_,True)
theorem iS {raw:Int} {ans:List Ans} (h:(rh k raw ans).2.2):k.wrap raw=(rh k raw ans).1:=by
 unfold rh at h |-;split at h<;>exact h
theorem fR {raw:Int} {ans:List Ans} (h:(qk raw ans).2.2):raw=(qk raw ans).1:=by
 unfold qk at h |-;split at h
 ·exact h
 ·rfl
theorem oT {ans:List Ans} (h:(jR b ans).2.2):b=(jR b ans).1:=by
 unfold jR at h |-;split at h
 all_goals grind
abbrev SO:=Option (S×List Ans×Prop)
def kD (k:IntKind) (t:Int×List Ans×Prop) (C:Prop):SO:=match t with|(z,as_,D)=>some (.int k z,as_,C/\D)
def fP (t:Bool×List Ans×Prop):SO:=match t with|(z,as_,D)=>some (.bool z,as_,D)
theorem gI (k:IntKind) (t:Int×List Ans×Prop) (C:Prop):kD k t C=some (.int k t.1,t.2.1,C/\t.2.2):=rfl
theorem tw (t:Bool×List Ans×Prop):fP t=some (.bool t.1,t.2.1,t.2.2):=rfl
def KQ (op:BinOp) (k:IntKind) (a b:Int) (ans:List Ans):SO:=
 match op with
 | .add=>kD k (rh k (a+b) ans) True
 | .sub=>kD k (rh k (a-b) ans) True
 | .mul=>kD k (rh k (a*b) ans) True
 | .quo=>kD k (rh k (a.tdiv b) ans) (b≠0)
 | .rem=>kD k (qk (a.tmod b) ans) (b≠0)
 | .and=>kD k (qk (mf .and k a b) ans) True
 | .or=>kD k (qk (mf .or k a b) ans) True
 | .xor=>kD k (qk (mf .xor k a b) ans) True
 | .andNot=>kD k (qk (mf .andNot k a b) ans) True
 | .eql=>fP (jR (a==b) ans)
 | .neq=>fP (jR (a !=b) ans)
 | .lss=>fP (jR (decide (a<b)) ans)
 | .leq=>fP (jR (decide (a<=b)) ans)
 | .gtr=>fP (jR (decide (a>b)) ans)
 | .geq=>fP (jR (decide (a≥b)) ans)
 |_=>none
def Ll:IntKind->IntKind->Bool
 | .i8,.i8=>true| .i16,.i16=>true| .i32,.i32=>true| .i64,.i64=>true
 | .u8,.u8=>true| .u16,.u16=>true| .u32,.u32=>true| .u64,.u64=>true
 |_,_=>false
theorem tJ {a b:IntKind} (h:Ll a b=true):a=b:=by cases a<;>cases b<;>simp[Ll] at h<;>rfl
def Ge (op:BinOp) (k:IntKind) (a:Int) (k':IntKind) (b:Int) (ans:List Ans):SO:=
 match op with
 | .shl=>kD k (rh k (a*2^(min b.toNat k.bits)) ans) (0<=b)
 | .shr=>kD k (qk (a.fdiv (2^(min b.toNat k.bits))) ans) (0<=b)
 |op=>match Ll k k' with|true=>KQ op k a b ans|false=>none
def MK (P:Program) (m:Sem Value) (s:S):Prop:=∀ (φ:Ph) (w:World),∃ v,m.run P w=.ok v w/\Sr φ s v
theorem Ii {a b:Int} {ans:List Ans} {as_:List Ans} (h:KQ op k a b ans=some (s,as_,C)) (hC:C):
 MK P (binOp op t (.int k a) (.int k b)) s:=by
 intro φ w
 cases op<;>simp only[KQ,gI,tw,Z06,Z0j,reduceCtorEq] at h
 all_goals obtain⟨rfl,rfl,rfl⟩:=h
 case add=>exact⟨_,by simp[binOp,Op.intArith,iS hC.2],rfl⟩
 case sub=>exact⟨_,by simp[binOp,Op.intArith,iS hC.2],rfl⟩
 case mul=>exact⟨_,by simp[binOp,Op.intArith,iS hC.2],rfl⟩
 case quo=>exact⟨_,by simp[binOp,Op.intDiv,hC.1,iS hC.2],rfl⟩
 case rem=>exact⟨_,by simp[binOp,Op.intDiv,hC.1,<-fR hC.2],rfl⟩
 case and=>exact⟨_,by rw[<-fR hC.2];simp only[binOp,Op.intBits,mf,ne_eq,not_true_eq_false,if_false];rfl,rfl⟩
 case or=>exact⟨_,by rw[<-fR hC.2];simp only[binOp,Op.intBits,mf,ne_eq,not_true_eq_false,if_false];rfl,rfl⟩
 case xor=>exact⟨_,by rw[<-fR hC.2];simp only[binOp,Op.intBits,mf,ne_eq,not_true_eq_false,if_false];rfl,rfl⟩
 case andNot=>exact⟨_,by rw[<-fR hC.2];simp only[binOp,Op.intBits,mf,ne_eq,not_true_eq_false,if_false];rfl,rfl⟩
 all_goals exact⟨_,by simp[binOp,Op.intCmp,<-oT hC],rfl⟩
theorem Gd {k':IntKind} {a b:Int} {ans:List Ans} {as_:List Ans} (h:Ge op k a k' b ans=some (s,as_,C)) (hC:C):
 MK P (binOp op t (.int k a) (.int k' b)) s:=by
 unfold Ge at h;split at h
 ·intro φ w
  simp only[gI,Z06,Z0j] at h;obtain⟨rfl,rfl,rfl⟩:=h;obtain⟨h1,h2⟩:=hC;have h1': ¬b<0:=aa;exact⟨_,by simp only[binOp,Op.shift,if_neg h1',iS h2,Z0f],rfl⟩
 ·intro φ w
  simp only[gI,Z06,Z0j] at h;obtain⟨rfl,rfl,rfl⟩:=h;obtain⟨h1,h2⟩:=hC;have h1': ¬b<0:=aa;exact⟨_,by simp only[binOp,Op.shift,if_neg h1',<-fR h2,Z0f],rfl⟩
 all_goals grind [tJ,Ii]
theorem toList_mk (l:List UInt8):(⟨l.toArray⟩:ByteArray).toList=l:=by
 rw[ByteArray.toList_eq]
theorem BS (l l':List UInt8):(⟨l.toArray⟩:ByteArray)++⟨l'.toArray⟩=⟨(l++l').toArray⟩:=by
 apply ByteArray.ext;simp
def uG (op:BinOp) (x y:List UInt8) (ans:List Ans):SO:=
 match op with
 | .add=>some (.str (x++y),ans,((x.length+y.length:Nat):Int)<=9223372036854775807)
 | .eql=>fP (jR (decide (x=y)) ans)
 | .neq=>fP (jR (!decide (x=y)) ans)
 | .lss=>fP (jR (Op.bytesLess x y) ans)
 | .leq=>fP (jR (Op.bytesLess x y||decide (x=y)) ans)
 | .gtr=>fP (jR (!(Op.bytesLess x y||decide (x=y))) ans)
 | .geq=>fP (jR (!Op.bytesLess x y) ans)
 |_=>none
theorem zx {x y:List UInt8} {ans:List Ans} {as_:List Ans} (h:uG op x y ans=some (s,as_,C)) (hC:C):
 MK P (binOp op t (.string ⟨x.toArray⟩) (.string ⟨y.toArray⟩)) s:=by
 intro φ w
 have hb:(x==y)=decide (x=y):=by
  grind
 cases op<;>simp only[uG,tw,Z06,Z0j,reduceCtorEq] at h
 all_goals obtain⟨rfl,rfl,rfl⟩:=h
 case add=>
  refine⟨.string ⟨(x++y).toArray⟩,?_,rfl⟩
  have hs: ¬(((⟨x.toArray⟩:ByteArray).size+(⟨y.toArray⟩:ByteArray).size:Nat):Int)>IntKind.i64.max:=by
   have e1:(⟨x.toArray⟩:ByteArray).size=x.length:=by simp[ByteArray.size]
   have e2:(⟨y.toArray⟩:ByteArray).size=y.length:=by simp[ByteArray.size]
   rw[e1,e2];have:IntKind.i64.max=9223372036854775807:=ac;omega
  simp only[binOp,Op.stringOp,if_neg hs,Z0f,BS]
 all_goals exact⟨_,by simp only[binOp,Op.stringOp,toList_mk,hb,<-oT hC,Z0f],rfl⟩
def xu (op:BinOp) (b:Bool) (ans:List Ans):SO:=
 match op with
 | .eql=>fP (jR b ans)
 | .neq=>fP (jR (!b) ans)
 |_=>none
theorem kA {x:Value} {ans:List Ans} {as_:List Ans} (h:xu op b ans=some (s,as_,C)) (hC:C)
 (he:∀ w,(Op.equal t x y).run P w=.ok b w)
 (h1:∀ w,(binOp .eql t x y).run P w=(do pure (.bool (<-Op.equal t x y)):Sem Value).run P w) (h2:∀ w,(binOp .neq t x y).run P w=(do pure (.bool (!(<-Op.equal t x y))):Sem Value).run P w):
 MK P (binOp op t x y) s:=by
 intro φ w
 cases op<;>simp only[xu,tw,Z06,Z0j,reduceCtorEq] at h
 all_goals obtain⟨rfl,rfl,rfl⟩:=h
 case eql=>exact⟨_,by rw[h1];simp only[Z09,he,Z05,Z0f,<-oT hC],rfl⟩
 case neq=>exact⟨_,by rw[h2];simp only[Z09,he,Z05,Z0f,<-oT hC],rfl⟩
def lW (P:Program) (t:TypeId):Bool:=match P.underlying t with|some .bool=>true|_=>false
def oQ (P:Program) (t:TypeId):Bool:=match P.underlying t with|some (.pointer _)=>true|_=>false
def dV (P:Program) (t:TypeId):Bool:=match P.underlying t with|some (.slice _)=>true|_=>false
theorem run_underlying {d:TypeDesc} (h:P.underlying t=some d):(underlying t).run P w=.ok d w:=by
 simp only[underlying,Z09,run_program,Z05,h,Z0f]
def K7 (P:Program) (op:BinOp) (t:TypeId) (x y:V) (ans:List Ans):SO:=
 match x,y with
 | .s (.int k a),.s (.int k' b)=>Ge op k a k' b ans
 | .s (.str a),.s (.str b)=>uG op a b ans
 | .s (.bool a),.s (.bool b)=>match lW P t with|true=>xu op (a==b) ans|false=>none
 | .s (.ptr none),.s (.ptr q)=>match oQ P t with|true=>xu op q.isNone ans|false=>none
 | .s (.ptr (some _)),.s (.ptr none)=>match oQ P t with|true=>xu op false ans|false=>none
 | .s (.slc none _ _),.s (.slc q _ _)=>match dV P t with|true=>xu op q.isNone ans|false=>none
 | .s (.slc (some _) _ _),.s (.slc none _ _)=>match dV P t with|true=>xu op false ans|false=>none
 |_,_=>none
def xx (P:Program) (φ:Ph) (m:Sem Value) (s:S):Prop:=∀ w,∃ v,m.run P w=.ok v w/\Sr φ s v
section
variable {P:Program} {w:World} {t:TypeId} (d:Nat)
theorem rZ (hty:P.underlying t=some .bool) (a b:Bool):(Op.equalIn (d+1) t (.bool a) (.bool b)).run P w=.ok (a==b) w:=by
 simp only[Op.equalIn,Z09,run_underlying hty,Z05,Z0f]
theorem wO (hty:P.underlying t=some (.pointer e)) (b:Option Addr):(Op.equalIn (d+1) t (.pointer none) (.pointer b)).run P w=.ok b.isNone w:=by
 simp only[Op.equalIn,Z09,run_underlying hty,Z05,Z0f]
theorem wM (hty:P.underlying t=some (.pointer e)) (a:Addr):(Op.equalIn (d+1) t (.pointer (some a)) (.pointer none)).run P w=.ok false w:=by
 simp only[Op.equalIn,Z09,run_underlying hty,Z05,Z0f]
theorem rk (hty:P.underlying t=some (.slice e)) (b:Option Addr) (n m k l:Nat):(Op.equalIn (d+1) t (.slice none n m) (.slice b k l)).run P w=.ok b.isNone w:=by
 simp only[Op.equalIn,Z09,run_underlying hty,Z05,Z0f]
theorem kL (hty:P.underlying t=some (.slice e)) (a:Addr) (n m k l:Nat):(Op.equalIn (d+1) t (.slice (some a) n m) (.slice none k l)).run P w=.ok false w:=by
 simp only[Op.equalIn,Z09,run_underlying hty,Z05,Z0f]
end
theorem ir {x:Value} (h:∀ d,(Op.equalIn (d+1) t x y).run P w=.ok b w):(Op.equal t x y).run P w=.ok b w:=h 9999
theorem B_ {x:Value} (h:∀ d,(Op.equalIn (d+2) t x y).run P w=.ok b w):(Op.equal t x y).run P w=.ok b w:=h 9998
theorem IB {y:V} {ans:List Ans} {as_:List Ans} (h:K7 P op t x y ans=some (s,as_,C)) (hC:C)
 {ox oy:Operand} {u v:Value} (hu:Vr φ x u) (hv:Vr φ y v):xx P φ (do eqGuard op t ox oy u v;binOp op t u v) s:=by
 have guard:∀ (m:Sem Value),(∀ w,(eqGuard op t ox oy u v).run P w=.ok () w)->MK P m s->xx P φ (do eqGuard op t ox oy u v;m) s:=by
  intro m hg hy w;obtain⟨r,h1,h2⟩:=hy φ w;exact⟨r,by simp only[Z09,hg,Z05,h1],h2⟩
 unfold K7 at h;split at h
 ·simp only[Vr,Sr] at hu hv;subst hu;subst hv
  exact guard _ (λw=>by unfold eqGuard;split<;>simp) (Gd h hC)
 ·simp only[Vr,Sr] at hu hv;subst hu;subst hv
  exact guard _ (λw=>by unfold eqGuard;split<;>simp) (zx h hC)
 ·simp only[Vr,Sr] at hu hv;subst hu;subst hv
  split at h
  ·rename_i hb
   unfold lW at hb;split at hb
   ·rename_i hty
    exact guard _ (λw=>by unfold eqGuard;split<;>simp) (kA h hC (λw=>ir λd=>rZ d hty _ _) (λw=>by simp only[binOp]) (λw=>by simp only[binOp]))
   ·cases hb
  ·cases h
 ·rename_i q
  simp only[Vr,Sr] at hu;subst hu
  have hq:∃ b,v=.pointer b/\b.isNone=q.isNone:=by
   rcases q with _|⟨i,o⟩
   ·exact⟨none,hv,rfl⟩
   ·obtain⟨b,_,hv⟩:=hv;exact⟨_,hv,rfl⟩
  obtain⟨b,rfl,hbq⟩:=hq;split at h
  ·rename_i hb
   unfold oQ at hb;split at hb
   ·rename_i hty
    rw[<-hbq] at h;exact guard _ (λw=>by unfold eqGuard;split<;>simp) (kA h hC (λw=>ir λd=>wO d hty _) (λw=>by cases b<;>simp only[binOp]) (λw=>by cases b<;>simp only[binOp]))
   ·cases hb
  ·cases h
 ·rename_i p
  obtain⟨i,o⟩:=p;obtain⟨b,_,rfl⟩:=hu;simp only[Vr,Sr] at hv;subst hv;split at h
  ·rename_i hb
   unfold oQ at hb;split at hb
   ·rename_i hty
    exact guard _ (λw=>by unfold eqGuard;split<;>simp) (kA h hC (λw=>ir λd=>wM d hty _) (λw=>by simp only[binOp]) (λw=>by simp only[binOp]))
   ·cases hb
  ·cases h
 ·rename_i n1 c1 q n2 c2
  obtain⟨_,_,rfl⟩:=hu
  have hq:∃ b k l,v=.slice b k l/\b.isNone=q.isNone:=by
   rcases q with _|⟨i,o⟩
   ·obtain⟨_,_,hv⟩:=hv;exact⟨none,_,_,hv,rfl⟩
   ·obtain⟨b,k,_,hv,_⟩:=hv;exact⟨_,_,_,hv,rfl⟩
  obtain⟨b,k,l,rfl,hbq⟩:=hq;split at h
  ·rename_i hb
   unfold dV at hb;split at hb
   ·rename_i hty
    rw[<-hbq] at h;exact guard _ (λw=>by unfold eqGuard;split<;>simp) (kA h hC (λw=>ir λd=>rk d hty _ _ _ _ _) (λw=>by simp only[binOp]) (λw=>by simp only[binOp]))
   ·cases hb
  ·cases h
 ·rename_i p n1 c1 n2 c2
  obtain⟨i,o⟩:=p;obtain⟨b,k,_,rfl,_⟩:=hu;obtain⟨_,_,rfl⟩:=hv;split at h
  ·rename_i hb
   unfold dV at hb;split at hb
   ·rename_i hty
    exact guard _ (λw=>by unfold eqGuard;split<;>simp) (kA h hC (λw=>ir λd=>kL d hty _ _ _ _ _) (λw=>by simp only[binOp]) (λw=>by simp only[binOp]))
   ·cases hb
  ·cases h
 ·cases h
def aUn (op:UnOp) (x:V) (ans:List Ans):SO:=
 match op,x with
 | .not,.s (.bool b)=>some (.bool (match b with|true=>false|false=>true),ans,True)
 | .neg,.s (.int k n)=>kD k (rh k (0-n) ans) True
 | .xor,.s (.int k n)=>kD k (qk (mf .xor k (if k.signed then-1 else k.max) n) ans) True
 |_,_=>none
theorem K5 {op:UnOp} {ans:List Ans} {as_:List Ans} (h:aUn op x ans=some (s,as_,C)) (hC:C) (hu:Vr φ x u):xx P φ (Op.unary op u) s:=by
 intro w;unfold aUn at h;split at h
 ·simp only[Vr,Sr] at hu;subst hu
  simp only[Z06,Z0j] at h;obtain⟨rfl,rfl,rfl⟩:=h;rename_i b;exact⟨.bool !b,by simp only[Op.unary,Z0f],by cases b<;>rfl⟩
 ·simp only[Vr,Sr] at hu;subst hu
  simp only[gI,Z06,Z0j] at h;obtain⟨rfl,rfl,rfl⟩:=h;exact⟨_,by simp only[Op.unary,Op.intArith,iS hC.2,Z0f],rfl⟩
 ·simp only[Vr,Sr] at hu;subst hu
  simp only[gI,Z06,Z0j] at h;obtain⟨rfl,rfl,rfl⟩:=h;exact⟨_,by rw[<-fR hC.2];simp only[Op.unary,Op.intBits,mf];rfl,rfl⟩
 ·cases h
def uE (P:Program) (src dst:TypeId) (x:V) (ans:List Ans):SO:=
 match x with
 | .s (.int _ n)=>
   match P.underlying src,P.underlying dst with
   |some _,some (.int k)=>kD k (rh k n ans) True
   |_,_=>none
 | .s (.str l)=>
   match P.underlying src,P.underlying dst with
   |some .string,some .string=>some (.str l,ans,True)
   |_,_=>none
 |_=>none
theorem CA {src dst:TypeId} {ans:List Ans} {as_:List Ans} (h:uE P src dst x ans=some (s,as_,C)) (hC:C) (hu:Vr φ x u):xx P φ (convert src dst u) s:=by
 intro w;unfold uE at h;split at h
 ·simp only[Vr,Sr] at hu;subst hu
  split at h
  ·rename_i h1 h2
   simp only[gI,Z06,Z0j] at h;obtain⟨rfl,rfl,rfl⟩:=h;exact⟨_,by simp only[convert,Z09,run_underlying h1,run_underlying h2,Z05,Conv.intToInt,Z0f,iS hC.2],rfl⟩
  ·cases h
 ·simp only[Vr,Sr] at hu;subst hu
  split at h
  ·rename_i h1 h2
   simp only[Z06,Z0j] at h;obtain⟨rfl,rfl,rfl⟩:=h;exact⟨_,by simp only[convert,Z09,run_underlying h1,run_underlying h2,Z05,Z0f],rfl⟩
  ·cases h
 ·cases h
def Iy (x:V) (i:Nat):Option V:=match x with| .tup l=>(match l[i]? with|some u=>some (J1 u)|none=>none)|_=>none
theorem Ix {v:V} {i:Nat} (h:Iy x i=some v) (hu:Vr φ x u) (w:World):∃ y,(Instr.extract u i).run P w=.ok y w/\Vr φ v y:=by
 unfold Iy at h;split at h
 ·obtain⟨xs,rfl,hall⟩:=hu
  split at h
  ·rename_i q hq
   cases h;obtain⟨y,hy,hr⟩:=hall.get hq;exact⟨y,by simp[Instr.extract,hy],DQ hr⟩
  ·cases h
 ·cases h
def K6 (P:Program) (t:TypeId) (x:V):Option S:=
 match P.underlying t,x with
 |some .string,.s (.str l)=>some (.int .i64 l.length)
 |some (.slice _),.s (.slc _ n _)=>some (.int .i64 n)
 |some (.slice _),.s (.sla _ _ n)=>some (.int .i64 n)
 |some (.slice _),.s .emp=>some (.int .i64 0)
 |some (.array n _),_=>some (.int .i64 n)
 |_,_=>none
theorem Iw (h:K6 P t x=some s) (hu:Vr φ x u) (hts:ts[0]? =some t):xx P φ (Builtin.len_ ts ty #[u]) s:=by
 intro w;unfold K6 at h;split at h
 ·rename_i hty
  simp only[Vr,Sr] at hu;subst hu;cases h;rename_i l;have e:(⟨l.toArray⟩:ByteArray).size=l.length:=rfl;exact⟨.int .i64 l.length,by simp[Builtin.len_,hts,run_underlying hty,goInt,e],rfl⟩
 ·rename_i q n c hty
  cases h
  have:∃ b k,u=.slice b n k:=by
   rcases q with _|⟨i,o⟩
   ·obtain⟨rfl,_,hv⟩:=hu;exact⟨_,_,hv⟩
   ·obtain⟨b,k,_,hv,_⟩:=hu;exact⟨_,_,hv⟩
  obtain⟨b,k,rfl⟩:=this;exact⟨.int .i64 n,by simp[Builtin.len_,hts,run_underlying hty,goInt],rfl⟩
 ·rename_i i g n hty
  cases h;obtain⟨b,k,_,_,rfl,_⟩:=hu;exact⟨.int .i64 n,by simp[Builtin.len_,hts,run_underlying hty,goInt],rfl⟩
 ·rename_i hty
  cases h;obtain⟨a,rfl⟩:=hu;exact⟨.int .i64 0,by simp[Builtin.len_,hts,run_underlying hty,goInt],rfl⟩
 ·rename_i n e hty
  cases h;exact⟨.int .i64 n,by simp[Builtin.len_,hts,run_underlying hty,goInt],rfl⟩
 ·cases h
def kz (mx:Bool) (x y:V) (ans:List Ans):SO:=
 match x,y with
 | .s (.int k a),.s (.int _ b)=>kD k (qk (match mx with|true=>if b>a then b else a|false=>if b<a then b else a) ans) True
 |_,_=>none
theorem Iu {y:V} {ans:List Ans} {as_:List Ans} (h:kz false x y ans=some (s,as_,C)) (hC:C) {v:Value} (hu:Vr φ x u) (hv:Vr φ y v):
 xx P φ (Builtin.min_ ts ty #[u,v]) s:=by
 intro w;unfold kz at h;split at h
 ·simp only[Vr,Sr] at hu hv;subst hu;subst hv
  simp only[gI,Z06,Z0j] at h;obtain⟨rfl,rfl,rfl⟩:=h;exact⟨_,by rw[<-fR hC.2];simp[Builtin.min_,Builtin.min2],rfl⟩
 ·cases h
theorem Iv {y:V} {ans:List Ans} {as_:List Ans} (h:kz true x y ans=some (s,as_,C)) (hC:C) {v:Value} (hu:Vr φ x u) (hv:Vr φ y v):
 xx P φ (Builtin.max_ ts ty #[u,v]) s:=by
 intro w;unfold kz at h;split at h
 ·simp only[Vr,Sr] at hu hv;subst hu;subst hv
  simp only[gI,Z06,Z0j] at h;obtain⟨rfl,rfl,rfl⟩:=h;exact⟨_,by rw[<-fR hC.2];simp[Builtin.max_,Builtin.max2],rfl⟩
 ·cases h
end
