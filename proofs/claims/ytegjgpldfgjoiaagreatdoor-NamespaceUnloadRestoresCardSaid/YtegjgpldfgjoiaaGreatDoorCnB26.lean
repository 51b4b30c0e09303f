import Derived.Test.YtegjgpldfgjoiaaGreatDoorCnB25
import Derived.Test.YtegjgpldfgjoiaaGreatDoorCnB08
set_option linter.unusedSimpArgs false
set_option linter.unusedVariables false
namespace Go.Proofs.YtegjgpldfgjoiaaGreatDoor
namespace Ab
open Go
def OutR (P:Program) (o:Oper) (env:List V) (n:Nat) (L:Hp) (r:R):Prop:=
 OpL P o env n (res r.foot L) r.v r.n' (puts (res r.foot L) r.wr)/\n<=r.n'
theorem OutR.of {P:Program} {o:Oper} {env:List V} {n:Nat} {L:Hp} {r:R} {ans as_:List Ans} {C:Prop} (h:aop P o env n L ans=some ⟨r,as_,C⟩) (hC:C):OutR P o env n L r:=dK h hC
def ce (b:Bool):Bool:=match b with|true=>false|false=>true
theorem cv (b:Bool):ce b= !b:=by cases b<;>rfl
def inR (k:IntKind) (z:Int):Bool:=
 match k with
 | .i64=>match z with| .ofNat n=>Nat.ble n 9223372036854775807| .negSucc n=>Nat.ble n 9223372036854775807
 | .u64=>match z with| .ofNat n=>Nat.ble n 18446744073709551615| .negSucc _=>false
 | .u8=>match z with| .ofNat n=>Nat.ble n 255| .negSucc _=>false
 | .u32=>match z with| .ofNat n=>Nat.ble n 4294967295| .negSucc _=>false
 | .i32=>match z with| .ofNat n=>Nat.ble n 2147483647| .negSucc n=>Nat.ble n 2147483647
 |_=>false
def cG (k:IntKind) (z:Int):Int:=match inR k z with|true=>z|false=>k.wrap z
theorem dX (k:IntKind) (z:Int):cG k z=k.wrap z:=by
 unfold cG;split
 ·rename_i h
  symm
  cases k<;>simp only[inR,Bool.false_eq_true] at h
  all_goals
   refine nK ?_ ?_<;>simp only[IntKind.min,IntKind.max,IntKind.bits,IntKind.signed,Bool.false_eq_true,if_false,if_true]<;>cases z<;>first|(simp only[Bool.false_eq_true] at h;done)|(have:=Nat.le_of_ble_eq_true h;simp;try omega)
 ·rfl
def ltI (a b:Int):Bool:=
 match a with
 | .ofNat m=>match b with| .ofNat n=>Nat.blt m n| .negSucc _=>false
 | .negSucc m=>match b with| .ofNat _=>true| .negSucc n=>Nat.blt n m
theorem Ds (m n:Nat):Nat.blt m n=decide (m<n):=by
 cases h:Nat.blt m n with
 |true=>have:=al.1 h;simp[this]
 |false=>
  have: ¬m<n:=fun e=>by rw[al.2 e] at h;cases h
  simp[this]
theorem oJ (a b:Int):ltI a b=decide (a<b):=by
 cases a<;>cases b<;>simp only[ltI,Ds]<;>first|(congr 1;apply propext;constructor<;>intro h<;>omega)|(symm;simp;done)|(symm;simp;omega)
def eqI (a b:Int):Bool:=
 match a with
 | .ofNat m=>match b with| .ofNat n=>Nat.beq m n| .negSucc _=>false
 | .negSucc m=>match b with| .ofNat _=>false| .negSucc n=>Nat.beq m n
theorem pd (a b:Int):eqI a b=(a==b):=by
 have key:∀ m n:Nat,Nat.beq m n=decide (m=n):=fun m n=>by
  by_cases h:m=n
  ·subst h;simp
  ·simp[h,fD h]
 cases a<;>cases b<;>simp only[eqI,key]
 ·rename_i m n;by_cases h:m=n
  ·subst h;simp
  ·have: ¬((Int.ofNat m:Int)=Int.ofNat n):=fun e=>h (by injection e)
   simp only[h,decide_false];symm;rw[beq_eq_false_iff_ne];exact this
 ·symm;rw[beq_eq_false_iff_ne];intro h;cases h
 ·symm;rw[beq_eq_false_iff_ne];intro h;cases h
 ·rename_i m n;by_cases h:m=n
  ·subst h;simp
  ·have: ¬((Int.negSucc m:Int)=Int.negSucc n):=fun e=>h (by injection e)
   simp only[h,decide_false];symm;rw[beq_eq_false_iff_ne];exact this
def gV (z:Int):Option Nat:=match z with| .ofNat n=>some n| .negSucc _=>none
theorem dy {z:Int} {n:Nat} (h:gV z=some n):z=(n:Int):=by cases z<;>simp[gV] at h;subst h;rfl
def qM (op:BinOp) (k:IntKind) (a b:Int):Option S:=
 match op with
 | .add=>some (.int k (cG k (a+b)))
 | .sub=>some (.int k (cG k (a-b)))
 | .mul=>some (.int k (cG k (a*b)))
 | .quo=>match eqI b 0 with|true=>none|false=>some (.int k (cG k (a.tdiv b)))
 | .rem=>match eqI b 0 with|true=>none|false=>some (.int k (a.tmod b))
 | .and=>some (.int k (fC .and k a b))
 | .or=>some (.int k (fC .or k a b))
 | .xor=>some (.int k (fC .xor k a b))
 | .andNot=>some (.int k (fC .andNot k a b))
 | .eql=>some (.bool (eqI a b))
 | .neq=>some (.bool (ce (eqI a b)))
 | .lss=>some (.bool (ltI a b))
 | .leq=>some (.bool (ce (ltI b a)))
 | .gtr=>some (.bool (ltI b a))
 | .geq=>some (.bool (ce (ltI a b)))
 |_=>none
def s8 (op:BinOp) (k:IntKind) (a:Int) (k':IntKind) (b:Int):Option S:=
 match op with
 | .shl=>match gV b with|some m=>some (.int k (cG k (a*2^(min m k.bits))))|none=>none
 | .shr=>match gV b with|some m=>some (.int k (a.fdiv (2^(min m k.bits))))|none=>none
 |op=>match kEq k k' with|true=>qM op k a b|false=>none
theorem zD {op:BinOp} {k:IntKind} {a b:Int} {s:S} (h:qM op k a b=some s):∃ ans as_ C,Dv op k a b ans=some (s,as_,C)/\C:=by
 have nz:eqI b 0=false->b≠0:=fun h=>by rw[pd] at h;simpa using h
 cases op<;>simp only[qM,Option.some.injEq,reduceCtorEq] at h
 case add=>subst h;exact⟨[.num (cG k (a+b))],[],_,rfl,trivial,(dX _ _).symm⟩
 case sub=>subst h;exact⟨[.num (cG k (a-b))],[],_,rfl,trivial,(dX _ _).symm⟩
 case mul=>subst h;exact⟨[.num (cG k (a*b))],[],_,rfl,trivial,(dX _ _).symm⟩
 case quo=>
  split at h
  ·cases h
  ·rename_i hb;cases h;exact⟨[.num (cG k (a.tdiv b))],[],_,rfl,nz hb,(dX _ _).symm⟩
 case rem=>
  split at h
  ·cases h
  ·rename_i hb;cases h;exact⟨[],[],_,rfl,nz hb,trivial⟩
 case and=>subst h;exact⟨[],[],_,rfl,trivial,trivial⟩
 case or=>subst h;exact⟨[],[],_,rfl,trivial,trivial⟩
 case xor=>subst h;exact⟨[],[],_,rfl,trivial,trivial⟩
 case andNot=>subst h;exact⟨[],[],_,rfl,trivial,trivial⟩
 case eql=>subst h;exact⟨[],[],True,by rw[pd];rfl,trivial⟩
 case neq=>subst h;exact⟨[],[],True,by rw[pd,cv];rfl,trivial⟩
 case lss=>subst h;exact⟨[],[],True,by rw[oJ];rfl,trivial⟩
 case leq=>
  subst h;refine⟨[],[],True,?_,trivial⟩;rw[show ce (ltI b a)=decide (a<=b) by rw[oJ,cv];by_cases e:b<a<;>simp[e]<;>omega];rfl
 case gtr=>subst h;exact⟨[],[],True,by rw[oJ];rfl,trivial⟩
 case geq=>
  subst h;refine⟨[],[],True,?_,trivial⟩;rw[show ce (ltI a b)=decide (a≥b) by rw[oJ,cv];by_cases e:a<b<;>simp[e]<;>omega];rfl
theorem CR {op:BinOp} {k:IntKind} {a:Int} {k':IntKind} {b:Int} {s:S} (h:s8 op k a k' b=some s):∃ ans as_ C,sj op k a k' b ans=some (s,as_,C)/\C:=by
 unfold s8 at h;split at h
 ·split at h
  ·rename_i m hm;cases h
   have:=dy hm;subst this;exact⟨[.num (cG k (a*2^(min m k.bits)))],[],_,rfl,by simp[dX]⟩
  ·cases h
 ·split at h
  ·rename_i m hm;cases h
   have:=dy hm;subst this;exact⟨[],[],_,rfl,by simp⟩
  ·cases h
 ·rename_i h1 h2
  split at h
  ·rename_i hk
   obtain⟨ans,as_,C,g1,g2⟩:=zD h;refine⟨ans,as_,C,?_,g2⟩;unfold sj;split
   ·exact absurd rfl h1
   ·exact absurd rfl h2
   ·simp only[hk];exact g1
  ·cases h
def eqB:List UInt8->List UInt8->Bool
 |[],[]=>true
 |a::s,b::t=>match Nat.beq a.toNat b.toNat with|true=>eqB s t|false=>false
 |_,_=>false
theorem tp:∀ (s t:List UInt8),eqB s t=decide (s=t)
 |[],[]=>rfl
 |[],_::_=>by simp[eqB]
 |_::_,[]=>by simp[eqB]
 |a::s,b::t=>by
  simp only[eqB];by_cases h:a.toNat=b.toNat
  ·have hab:a=b:=UInt8.toNat_inj.1 h
   subst hab;simp[tp s t]
  ·rw[fD h]
   have hab: ¬a=b:=fun e=>h (by rw[e])
   simp[hab]
def Fk (op:BinOp) (x y:List UInt8):Option S:=
 match op with
 | .add=>match Nat.ble (x.length+y.length) 9223372036854775807 with|true=>some (.str (x++y))|false=>none
 | .eql=>some (.bool (eqB x y))
 | .neq=>some (.bool (ce (eqB x y)))
 | .lss=>some (.bool (Op.bytesLess x y))
 | .leq=>some (.bool (Op.bytesLess x y||eqB x y))
 | .gtr=>some (.bool (ce (Op.bytesLess x y||eqB x y)))
 | .geq=>some (.bool (ce (Op.bytesLess x y)))
 |_=>none
theorem CN {op:BinOp} {x y:List UInt8} {s:S} (h:Fk op x y=some s):∃ ans as_ C,kP op x y ans=some (s,as_,C)/\C:=by
 cases op<;>simp only[Fk,cv,tp,Option.some.injEq,reduceCtorEq] at h
 case add=>
  split at h
  ·rename_i hb;cases h;exact⟨[],[],_,rfl,by have:=Nat.le_of_ble_eq_true hb;omega⟩
  ·cases h
 all_goals subst h;exact⟨[],[],_,rfl,trivial⟩
def mF (P:Program) (op:BinOp) (t:TypeId) (x y:V):Option S:=
 match x,y with
 | .s (.int k a),.s (.int k' b)=>s8 op k a k' b
 | .s (.str a),.s (.str b)=>Fk op a b
 | .agg l,.agg l'=>
   match P.underlying t with
   |some (.struct fs)=>
    match wP P l l' fs.toList with
    |some b=>
     match ce (P.stoodInHeld t)&&ce (P.eqGuardType P.depth t) with
     |true=>match op with| .eql=>some (.bool b)| .neq=>some (.bool (ce b))|_=>none
     |false=>none
    |none=>none
   |_=>none
 | .s (.bool a),.s (.bool b)=>
   match gk P t with
   |true=>match op with| .eql=>some (.bool (a==b))| .neq=>some (.bool (ce (a==b)))|_=>none
   |false=>none
 | .s (.ptr none),.s (.ptr q)=>
   match gM P t with
   |true=>match op with| .eql=>some (.bool q.isNone)| .neq=>some (.bool (ce q.isNone))|_=>none
   |false=>none
 | .s (.ptr (some _)),.s (.ptr none)=>
   match gM P t with
   |true=>match op with| .eql=>some (.bool false)| .neq=>some (.bool true)|_=>none
   |false=>none
 | .s (.slc none _ _),.s (.slc q _ _)=>
   match bd P t with
   |true=>match op with| .eql=>some (.bool q.isNone)| .neq=>some (.bool (ce q.isNone))|_=>none
   |false=>none
 | .s (.slc (some _) _ _),.s (.slc none _ _)=>
   match bd P t with
   |true=>match op with| .eql=>some (.bool false)| .neq=>some (.bool true)|_=>none
   |false=>none
 |_,_=>none
theorem CU {P:Program} {op:BinOp} {t:TypeId} {x y:V} {s:S} (h:mF P op t x y=some s):∃ ans as_ C,jg P op t x y ans=some (s,as_,C)/\C:=by
 unfold mF at h;split at h
 ·obtain⟨ans,as_,C,h1,h2⟩:=CR h
  exact⟨ans,as_,C,h1,h2⟩
 ·obtain⟨ans,as_,C,h1,h2⟩:=CN h
  exact⟨ans,as_,C,h1,h2⟩
 ·split at h
  ·rename_i fs hty
   split at h
   ·rename_i b hb
    split at h
    ·rename_i hg
     simp only[Bool.and_eq_true,cv,Bool.not_eq_true'] at hg;split at h
     ·cases h;exact⟨[],[],((P.stoodInHeld t=false/\P.eqGuardType P.depth t=false)/\True),by simp only[jg,pE,hty,hb];rfl,hg,trivial⟩
     ·cases h;exact⟨[],[],((P.stoodInHeld t=false/\P.eqGuardType P.depth t=false)/\True),by simp only[jg,pE,hty,hb,cv];rfl,hg,trivial⟩
     ·cases h
    ·cases h
   ·cases h
  ·cases h
 all_goals first|(cases h;done)|skip
 all_goals
  split at h
  case h_2=>cases h
  rename_i hty;split at h
  ·cases h;exact⟨[],[],True,by simp only[jg,BG,hty];rfl,trivial⟩
  ·cases h;exact⟨[],[],True,by simp only[jg,BG,hty,cv];rfl,trivial⟩
  ·cases h
def kUn (op:UnOp) (x:V):Option S:=
 match op,x with
 | .not,.s (.bool b)=>some (.bool (ce b))
 | .neg,.s (.int k n)=>some (.int k (cG k (0-n)))
 | .xor,.s (.int k n)=>some (.int k (fC .xor k (if k.signed then-1 else k.max) n))
 |_,_=>none
theorem Fj {op:UnOp} {x:V} {s:S} (h:kUn op x=some s):∃ ans as_ C,aUn op x ans=some (s,as_,C)/\C:=by
 unfold kUn at h;split at h
 ·cases h;exact⟨[],[],True,rfl,trivial⟩
 ·rename_i k n;cases h;exact⟨[.num (cG k (0-n))],[],_,rfl,trivial,(dX _ _).symm⟩
 ·cases h;exact⟨[],[],_,rfl,trivial,trivial⟩
 ·cases h
def zK (P:Program) (src dst:TypeId) (x:V):Option S:=
 match x with
 | .s (.int _ n)=>
   match P.underlying src,P.underlying dst with
   |some _,some (.int k)=>some (.int k (cG k n))
   |_,_=>none
 | .s (.str l)=>
   match P.underlying src,P.underlying dst with
   |some .string,some .string=>some (.str l)
   |_,_=>none
 |_=>none
theorem zJ {P:Program} {src dst:TypeId} {x:V} {s:S} (h:zK P src dst x=some s):∃ ans as_ C,iv P src dst x ans=some (s,as_,C)/\C:=by
 unfold zK at h;split at h
 ·rename_i kk n
  split at h
  ·rename_i d k h1 h2;cases h;exact⟨[.num (cG k n)],[],(True/\k.wrap n=cG k n),by simp only[iv,h1,h2];rfl,trivial,(dX _ _).symm⟩
  ·cases h
 ·split at h
  ·rename_i h1 h2;cases h;exact⟨[],[],True,by simp only[iv,h1,h2],trivial⟩
  ·cases h
 ·cases h
set_option maxRecDepth 100000
def ic (x:Option V) (d:Nat):Option Nat:=
 match x with
 |none=>some d
 |some (.s (.int _ z))=>gV z
 |_=>none
theorem cC {v:V} {d k:Nat} (h:ic (some v) d=some k):∃ kk,v=.s (.int kk (k:Int)):=by
 unfold ic at h;split at h
 ·rename_i hv;cases hv
 ·rename_i kk z hv;cases hv;exact⟨kk,by rw[dy h]⟩
 ·cases h
theorem cD {d k:Nat} (h:ic none d=some k):k=d:=by simp[ic] at h;exact h.symm
def eU (l:List UInt8) (lo hi:Option V):Option S:=
 match ic hi l.length,ic lo 0 with
 |some h,some k=>
  match Nat.ble h l.length&&Nat.ble k h with
  |true=>
   match hi,lo with
   |none,none=>some (.str l)
   |none,some _=>some (.str (l.drop k))
   |some _,none=>some (.str (l.take h))
   |some _,some _=>some (.str ((l.take h).drop k))
  |false=>none
 |_,_=>none
theorem oR {n:Nat} {l:List UInt8} {lo hi:Option V} {s:S} (h:eU l lo hi=some s):∃ (ks:List Nat) (as_:List Ans) (C:Prop),jS n l lo hi (ks.map .idx)=some ⟨⟨[],.s s,[],n⟩,as_,C⟩/\C:=by
 unfold eU at h;split at h
 ·rename_i hh k e1 e2
  split at h
  ·rename_i hc
   simp only[Bool.and_eq_true] at hc;have c1:=Nat.le_of_ble_eq_true hc.1;have c2:=Nat.le_of_ble_eq_true hc.2;split at h
   ·cases h
    have:=cD e1;have:=cD e2;exact⟨[],[],_,rfl,trivial,trivial⟩
   ·rename_i v
    cases h;have:=cD e1;obtain⟨kk,rfl⟩:=cC e2;subst this;exact⟨[k],[],_,rfl,trivial,rfl,c2⟩
   ·cases h
    have:=cD e2;obtain⟨kk,rfl⟩:=cC e1;exact⟨[hh],[],_,rfl,⟨rfl,c1⟩,trivial⟩
   ·cases h
    obtain⟨kk,rfl⟩:=cC e1;obtain⟨kk',rfl⟩:=cC e2;exact⟨[hh,k],[],_,rfl,⟨rfl,c1⟩,rfl,c2⟩
  ·cases h
 ·cases h
def d_ (i o len:Nat) (cap:Option Nat) (sz:Nat) (lo hi:Option V):Option S:=
 match ic hi len,ic lo 0 with
 |some h,some k=>
  match Nat.ble h (uf cap len)&&Nat.ble k h with
  |true=>
   match lo with
   |none=>some (.slc (some (i,o)) h cap)
   |some _=>
    match (match cap with|some c=>Nat.blt k c|none=>Nat.blt k h) with
    |true=>some (.slc (some (i,dv o (cj k sz))) (h-k) (xN cap k))
    |false=>none
  |false=>none
 |_,_=>none
theorem qJ {n i o len:Nat} {cap:Option Nat} {sz:Nat} {lo hi:Option V} {s:S} (h:d_ i o len cap sz lo hi=some s):∃ (ks:List Nat) (as_:List Ans) (C:Prop),ml n i o len cap sz lo hi (ks.map .idx)=some ⟨⟨[],.s s,[],n⟩,as_,C⟩/\C:=by
 unfold d_ at h;split at h
 ·rename_i hh k e1 e2
  split at h
  ·rename_i hc
   simp only[Bool.and_eq_true] at hc;have c1:=Nat.le_of_ble_eq_true hc.1;have c2:=Nat.le_of_ble_eq_true hc.2;split at h
   ·cases h
    have h2:=cD e2
    cases hi with
    |none=>have:=cD e1;subst this;exact⟨[],[],_,rfl,trivial,trivial⟩
    |some v=>
     obtain⟨kk,rfl⟩:=cC e1;exact⟨[hh],[],_,rfl,⟨rfl,c1⟩,trivial⟩
   ·rename_i v
    split at h
    ·rename_i hl
     cases h
     have hlt:uB cap k hh:=by
      cases cap with
      |some c=>exact al.1 hl
      |none=>exact al.1 hl
     obtain⟨kk',rfl⟩:=cC e2
     cases hi with
     |none=>have:=cD e1;subst this;exact⟨[k,hh-k],[],_,rfl,⟨trivial,rfl,c2⟩,rfl,hlt⟩
     |some u=>
      obtain⟨kk,rfl⟩:=cC e1;exact⟨[hh,k,hh-k],[],_,rfl,⟨⟨rfl,c1⟩,rfl,c2⟩,rfl,hlt⟩
    ·cases h
  ·cases h
 ·cases h
def s9 (P:Program) (t:TypeId) (i g len:Nat) (lo hi:Option V):Option S:=
 match P.underlying t,ic hi len,ic lo 0 with
 |some (.slice e),some h,some 0=>match aF P e,Nat.ble h len with|some _,true=>some (.sla i g h)|_,_=>none
 |_,_,_=>none
theorem iQ {x:Option V} {d k:Nat} (h:ic x d=some k):∃ A,bdV x k d=some A/\A:=by
 cases x with
 |none=>exact⟨k=d,rfl,cD h⟩
 |some v=>obtain⟨kk,rfl⟩:=cC h;exact⟨_,rfl,rfl⟩
theorem ww {P:Program} {env:List V} {n:Nat} {L:Hp} {t:TypeId} {x:Operand} {lo hi:Option Operand} {i g len:Nat} {s:S} {o:Oper} (ho:o.op=.slice t x lo hi none) (hx:ev env x=.s (.sla i g len))
 (h:s9 P t i g len (lo.map (ev env)) (hi.map (ev env))=some s):OutR P o env n L ⟨[],.s s,[],n⟩:=by
 unfold s9 at h;split at h
 ·rename_i e hh hty e1 e2
  split at h
  ·rename_i sz hsz hle
   cases h;have hle:=Nat.le_of_ble_eq_true hle;obtain⟨A,hA,cA⟩:=iQ e2;obtain⟨B,hB,cB⟩:=iQ e1;refine⟨OpL.light fun φ a w hop hg=>?_,Nat.le_refl _⟩;have g1:=hop x (by simp[ho,Op.operands]);rw[hx] at g1;obtain⟨b,c,hb,hgc,hv,hlc⟩:=g1;have r1:=gB (P:=P) (w:=w) (top:=hh) (code:=.sliceB) (fun y hy=>hop y (by subst hy;simp[ho,Op.operands])) hA cA (Nat.zero_le _);have r2:=gB (P:=P) (w:=w) (top:=c) (code:=.sliceAcap) (fun y hy=>hop y (by subst hy;simp[ho,Op.operands])) hB cB (by omega)
   have hsb:(Instr.sliceBounds true len c (lo.map a.eval) (hi.map a.eval) none).run P w=.ok (0,hh,c) w:=by
    unfold Instr.sliceBounds
    cases hi<;>cases lo<;>simp_all
   refine⟨.slice (some ⟨b.1,b.2,none⟩) hh c,?_,b,c,hb,hgc,rfl,by omega⟩;simp only[execOp,ho,hv,Option.map_none,Instr.sliceAt,Instr.slice,Sem.run_bind,run_underlying hty,Result.andThen_ok,hsb,ao hsz,Option.map_some,aA,Sem.run_pure]
   split<;>simp
  ·cases h
 ·cases h
def s7 (P:Program) (t:TypeId) (lo hi:Option V):Bool:=
 match P.underlying t,ic hi 0,ic lo 0 with
 |some (.slice e),some 0,some 0=>(aF P e).isSome
 |_,_,_=>false
theorem wt {P:Program} {env:List V} {n:Nat} {L:Hp} {t:TypeId} {x:Operand} {lo hi:Option Operand} {len:Nat} {cap:Option Nat} {o:Oper} (ho:o.op=.slice t x lo hi none) (hx:ev env x=.s (.slc none len cap))
 (h:s7 P t (lo.map (ev env)) (hi.map (ev env))=true):OutR P o env n L ⟨[],.s (.slc none 0 (some 0)),[],n⟩:=by
 unfold s7 at h;split at h
 ·rename_i e hty e1 e2
  cases hsz:aF P e with
  |none=>rw[hsz] at h;cases h
  |some sz=>
  obtain⟨A,hA,cA⟩:=iQ e2;obtain⟨B,hB,cB⟩:=iQ e1;refine⟨OpL.light fun φ a w hop hg=>?_,Nat.le_refl _⟩;have g1:=hop x (by simp[ho,Op.operands]);rw[hx] at g1;obtain⟨_,_,hv⟩:=g1;have r1:=gB (P:=P) (w:=w) (top:=0) (code:=.sliceB) (fun y hy=>hop y (by subst hy;simp[ho,Op.operands])) hA cA (Nat.zero_le _);have r2:=gB (P:=P) (w:=w) (top:=0) (code:=.sliceAcap) (fun y hy=>hop y (by subst hy;simp[ho,Op.operands])) hB cB (by omega)
  have hsb:(Instr.sliceBounds true 0 0 (lo.map a.eval) (hi.map a.eval) none).run P w=.ok (0,0,0) w:=by
   unfold Instr.sliceBounds
   cases hi<;>cases lo<;>simp_all
  refine⟨.slice none 0 0,?_,rfl,rfl,rfl⟩;simp only[execOp,ho,hv,Option.map_none,Instr.sliceAt,Instr.slice,Sem.run_bind,run_underlying hty,Result.andThen_ok,hsb,ao hsz,Option.map_some,aA,Sem.run_pure];simp
 ·cases h
def lK (P:Program) (n:Nat) (t:TypeId) (x:V) (lo hi mx:Option V):Option S:=
 match mx with
 |some _=>none
 |none=>
  match x with
  | .s (.str l)=>match P.underlying t with|some .string=>eU l lo hi|_=>none
  | .s (.sla i g len)=>
    match s9 P t i g len lo hi with
    |some s=>some s
    |none=>match P.underlying t with|some (.slice e)=>(match aF P e with|some sz=>d_ i 0 len none sz lo hi|none=>none)|_=>none
  | .s (.slc (some (i,o)) len cap)=>match P.underlying t with|some (.slice e)=>(match aF P e with|some sz=>d_ i o len cap sz lo hi|none=>none)|_=>none
  | .s (.slc none len cap)=>match s7 P t lo hi with|true=>some (.slc none 0 (some 0))|false=>none
  |_=>none
theorem kB (x:Option V) (d:Nat):ic (x.map wkV) d=ic x d:=by
 cases x with
 |none=>rfl
 |some v=>cases v with
  |s x=>cases x<;>rfl
  |_=>rfl
theorem ws {P:Program} {env:List V} {n:Nat} {L:Hp} {t:TypeId} {x:Operand} {lo hi mx:Option Operand} {s:S} {o:Oper} (ho:o.op=.slice t x lo hi mx)
 (h:lK P n t (ev env x) (lo.map (ev env)) (hi.map (ev env)) (mx.map (ev env))=some s):OutR P o env n L ⟨[],.s s,[],n⟩:=by
 have hmx:mx=none:=by
  cases mx with
  |none=>rfl
  |some _=>simp[lK] at h
 subst hmx
 have wkb:∀ (y:Option Operand),(y.map fun z=>wkV (ev env z))=(y.map (ev env)).map wkV:=fun y=>by cases y<;>rfl
 have go:∀ (ks:List Nat) (as_:List Ans) (C:Prop),gE P n t (wkV (ev env x)) (lo.map fun y=>wkV (ev env y)) (hi.map fun y=>wkV (ev env y)) none (ks.map .idx)=some ⟨⟨[],.s s,[],n⟩,as_,C⟩->C->OutR P o env n L ⟨[],.s s,[],n⟩:=by
  intro ks as_ C hs hC;refine OutR.of (ans:=ks.map .idx) (as_:=as_) (C:=C) ?_ hC;simp only[aop,ho,Option.map_none]
  cases ks<;>exact hs
 simp only[lK,Option.map_none] at h
 have slc:∀ (i o' len:Nat) (cap:Option Nat) (e:TypeId) (sz:Nat),wkV (ev env x)=.s (.slc (some (i,o')) len cap)->P.underlying t=some (.slice e)->aF P e=some sz->d_ i o' len cap sz (lo.map (ev env)) (hi.map (ev env))=some s->OutR P o env n L ⟨[],.s s,[],n⟩:=by
  intro i o' len cap e sz hx hty hsz hk
  have hk':d_ i o' len cap sz ((lo.map (ev env)).map wkV) ((hi.map (ev env)).map wkV)=some s:=by
   unfold d_ at hk |-;rw[kB,kB]
   cases hlo:lo.map (ev env)<;>rw[hlo] at hk<;>exact hk
  obtain⟨ks,as_,C,h1,h2⟩:=qJ (n:=n) hk';exact go ks as_ C (by simp only[gE,hty,hx,hsz,wkb];exact h1) h2
 split at h
 ·rename_i l hx
  split at h
  ·rename_i hty
   have hk':eU l ((lo.map (ev env)).map wkV) ((hi.map (ev env)).map wkV)=some s:=by
    unfold eU at h |-;rw[kB,kB]
    cases hlo:lo.map (ev env)<;>cases hhi:hi.map (ev env)<;>rw[hlo,hhi] at h<;>exact h
   obtain⟨ks,as_,C,h1,h2⟩:=oR (n:=n) hk';exact go ks as_ C (by rw[show wkV (ev env x)=.s (.str l) by rw[hx];rfl];simp only[gE,hty,wkb];exact h1) h2
  ·cases h
 ·rename_i i g len hx
  split at h
  ·rename_i s' hf
   cases h;exact ww ho hx hf
  ·split at h
   ·rename_i e hty
    split at h
    ·rename_i sz hsz
     exact slc i 0 len none e sz (by rw[hx];rfl) hty hsz h
    ·cases h
   ·cases h
 ·rename_i i o' len cap hx
  split at h
  ·rename_i e hty
   split at h
   ·rename_i sz hsz
    exact slc i o' len cap e sz (by rw[hx];rfl) hty hsz h
   ·cases h
  ·cases h
 ·rename_i len cap hx
  split at h
  ·rename_i hn
   cases h;exact wt ho hx hn
  ·cases h
 ·cases h
def CT (P:Program) (t:TypeId) (x ix:V):Option S:=
 match ix with
 | .s (.int _ z)=>
   match gV z with
   |some k=>
    match P.underlying t with
    |some (.slice e)=>
     match x,aF P e with
     | .s (.slc (some (i,o)) len _),some sz=>match Nat.blt k len with|true=>some (.ptr (some (i,dv o (cj k sz))))|false=>none
     | .s (.sla i _ len),some sz=>match Nat.blt k len with|true=>some (.ptr (some (i,cj k sz)))|false=>none
     |_,_=>none
    |some (.array len e)=>
     match x,aF P e with
     | .s (.ptr (some (i,o))),some sz=>match Nat.blt k len with|true=>some (.ptr (some (i,dv o (cj k sz))))|false=>none
     | .s (.gp g o),some sz=>match Nat.blt k len with|true=>some (.gp g (dv o (cj k sz)))|false=>none
     |_,_=>none
    |_=>none
   |none=>none
 |_=>none
theorem CS {P:Program} {env:List V} {n:Nat} {L:Hp} {t:TypeId} {x ix:Operand} {s:S} {o:Oper} (ho:o.op=.indexAddr t x ix) (h:CT P t (ev env x) (ev env ix)=some s):OutR P o env n L ⟨[],.s s,[],n⟩:=by
 unfold CT at h;split at h
 ·rename_i kk z hix
  split at h
  ·rename_i k hk
   have hz:=dy hk;subst hz;split at h
   ·rename_i e hty
    split at h
    ·rename_i i off len c sz hx hsz
     split at h
     ·rename_i hlt
      cases h;have hlt:=al.1 hlt;refine OutR.of (ans:=[]) (as_:=[]) (C:=0<=(k:Int)/\(k:Int)<(len:Int)) ?_ ⟨by omega,by omega⟩;simp only[aop,ho,cy,hix,hx,wkV,wkS,hty,hsz,fI,cn];simp
     ·cases h
    ·rename_i i g len sz hx hsz
     split at h
     ·rename_i hlt
      cases h;have hlt:=al.1 hlt;refine OutR.of (ans:=[]) (as_:=[]) (C:=0<=(k:Int)/\(k:Int)<(len:Int)) ?_ ⟨by omega,by omega⟩;simp only[aop,ho,cy,hix,hx,wkV,wkS,hty,hsz,fI,cn,aV,Nat.zero_add];simp
     ·cases h
    ·cases h
   ·rename_i len e hty
    split at h
    ·rename_i i off sz hx hsz
     split at h
     ·rename_i hlt
      cases h;have hlt:=al.1 hlt;refine OutR.of (ans:=[]) (as_:=[]) (C:=0<=(k:Int)/\(k:Int)<(len:Int)) ?_ ⟨by omega,by omega⟩;simp only[aop,ho,cy,hix,hx,wkV,wkS,hty,hsz,fI,cn];simp
     ·cases h
    ·rename_i g off sz hx hsz
     split at h
     ·rename_i hlt
      cases h;have hlt:=al.1 hlt;refine⟨OpL.light fun φ a w hop _=>?_,Nat.le_refl _⟩;have g1:=hop x (by simp[ho,Op.operands]);have g2:=hop ix (by simp[ho,Op.operands]);rw[hx] at g1;rw[hix] at g2;simp only[Vr,Sr] at g1 g2;refine⟨.pointer (some ⟨g,dv off (cj k sz),none⟩),?_,rfl⟩;simp only[execOp,ho,g1,g2,Instr.indexAt,Instr.sureAddr,asIntOf,Sem.run_bind,Sem.run_pure,run_underlying hty,Result.andThen_ok,ao hsz,aA,aV,aX];rw[if_pos ⟨by omega,by omega⟩];simp[ao hsz,aA]
     ·cases h
    ·cases h
   ·cases h
  ·cases h
 ·cases h
def oT (P:Program) (t:TypeId) (x ix:V):Option S:=
 match x,ix with
 | .s (.str l),.s (.int _ z)=>
   match gV z,P.underlying t with
   |some k,some .string=>match l[k]? with|some b=>some (.int .u8 (Int.ofNat b.toNat))|none=>none
   |_,_=>none
 |_,_=>none
theorem wu {P:Program} {env:List V} {n:Nat} {L:Hp} {t:TypeId} {x ix:Operand} {s:S} {o:Oper} (ho:o.op=.index t x ix) (h:oT P t (ev env x) (ev env ix)=some s):OutR P o env n L ⟨[],.s s,[],n⟩:=by
 unfold oT at h;split at h
 ·rename_i l kk z hx hix
  split at h
  ·rename_i k hk hty
   have hz:=dy hk;subst hz;split at h
   ·rename_i b hb
    cases h
    have hlt:k<l.length:=by
     rcases Nat.lt_or_ge k l.length with h|h
     ·exact h
     ·simp[List.getElem?_eq_none h] at hb
    refine OutR.of (ans:=[]) (as_:=[]) (C:=0<=(k:Int)/\(k:Int)<(l.length:Int)) ?_ ⟨by omega,by omega⟩
    have hg:l.getD k 0=b:=by simp[List.getD_eq_getElem?_getD,hb]
    simp only[aop,ho,mp,hix,hx,hty,fI,cn,Int.toNat_natCast,hg];rfl
   ·cases h
  ·cases h
 ·cases h
def uL (P:Program) (n:Nat) (L:Hp) (t:TypeId) (x:V):Option R:=
 match x with
 | .s (.ptr (some (i,o)))=>
   match lk L i,tyS P t with
   |some bl,some (ag,sz)=>match gi ag sz bl o with|some v=>some ⟨[i],v,[],n⟩|none=>none
   |_,_=>none
 | .s (.gp g o)=>
   match GS g,tyS P t with
   |some cs,some (ag,sz)=>match rm ag sz cs o with|some v=>some ⟨[],v,[],n⟩|none=>none
   |_,_=>none
 |_=>none
theorem zC {P:Program} {env:List V} {n:Nat} {L:Hp} {t:TypeId} {x:Operand} {r:R} {o:Oper} (ho:o.op=.load t x) (h:uL P n L t (ev env x)=some r):OutR P o env n L r:=by
 unfold uL at h;split at h
 ·rename_i i off hx
  split at h
  ·rename_i bl ag sz hl ht
   split at h
   ·rename_i v hld
    cases h;refine⟨OpL.light fun φ a w hop hg=>?_,Nat.le_refl _⟩;have g1:=hop x (by simp[ho,Op.operands]);rw[hx] at g1;obtain⟨b,hb,hv⟩:=g1;obtain⟨b',hb',hat⟩:=hg.hr i bl (by rw[aE];simp[hl]);rw[hb] at hb';cases hb';obtain⟨y,hy,hr⟩:=fU hat ht hld;exact⟨y,by simp only[execOp,ho,hv,Instr.loadAt,Instr.sureAddr,Sem.run_bind,Sem.run_pure,Result.andThen_ok,hy],hr⟩
   ·cases h
  ·cases h
 ·rename_i g off hx
  split at h
  ·rename_i cs ag sz hcs ht
   split at h
   ·rename_i v hv
    cases h;refine⟨OpL.light fun φ a w hop hg=>?_,Nat.le_refl _⟩;have g1:=hop x (by simp[ho,Op.operands]);rw[hx] at g1;simp only[Vr,Sr] at g1;obtain⟨vs,hz,hall⟩:=hg.gz g cs hcs
    have hf:Sr φ (.fpt cs off) (a.eval x):=⟨g,0,vs,hz,by rw[g1,Nat.zero_add],fun i y hi=>by rw[Nat.zero_add];exact hall.get hi⟩
    obtain⟨ad,hu,y,hy,hr⟩:=n_ hg hf ht hv;exact⟨y,by simp only[execOp,ho,hu,Instr.loadAt,Instr.sureAddr,Sem.run_bind,Sem.run_pure,Result.andThen_ok,hy],hr⟩
   ·cases h
  ·cases h
 ·cases h
def oQ (P:Program) (n:Nat) (L:Hp) (t:TypeId) (x v:V):Option R:=
 match x with
 | .s (.ptr (some (i,o)))=>
   match lk L i,aF P t,cellsOf v with
   |some bl,some sz,some l=>
    match Nat.beq l.length sz&&ce bl.ro&&aR bl l&&bl.kind.isNone&&Nat.ble (o+l.length) bl.cells.length with
    |true=>frc (aU bl.cells o l) [] fun cs=>some ⟨[i],.undef,[(i,some {bl with cells:=cs})],n⟩
    |false=>none
   |_,_,_=>none
 |_=>none
theorem wo {P:Program} {env:List V} {n:Nat} {L:Hp} {t:TypeId} {x y:Operand} {r:R} {o:Oper} (ho:o.op=.store t x y) (h:oQ P n L t (ev env x) (ev env y)=some r):OutR P o env n L r:=by
 unfold oQ at h;split at h
 ·rename_i i off hx
  split at h
  ·rename_i bl sz l hl hsz hcl
   split at h
   ·rename_i hc
    rw[aQ] at h;cases h;simp only[Bool.and_eq_true] at hc;obtain⟨hc,hle⟩:=hc;have hle:=Nat.le_of_ble_eq_true hle;rw[cv] at hc
    have hck:(Nat.beq l.length sz&& !bl.ro&&aR bl l&&bl.kind.isNone)=true:=by simp only[Bool.and_eq_true];exact hc
    cases hsy:bl.sym with
    |true=>
     refine OutR.of (ans:=[.cells (aU bl.cells off l)]) (as_:=[]) (C:=off+l.length<=bl.cells.length/\aU bl.cells off l=aU bl.cells off l) ?_ ⟨hle,rfl⟩;simp only[aop,ho,dL,hx,hl,hsz,hcl,hck,hsy]
    |false=>
     refine OutR.of (ans:=[.stc (aU bl.cells off l)]) (as_:=[]) (C:=off+l.length<=bl.cells.length/\aU bl.cells off l=aU bl.cells off l) ?_ ⟨hle,rfl⟩;simp only[aop,ho,dL,hx,hl,hsz,hcl,hck,hsy]
   ·cases h
  ·cases h
 ·cases h
end Ab
end Go.Proofs.YtegjgpldfgjoiaaGreatDoor
