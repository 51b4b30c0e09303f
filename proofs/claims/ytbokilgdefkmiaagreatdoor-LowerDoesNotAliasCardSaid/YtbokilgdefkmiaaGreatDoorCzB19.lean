import Derived.Test.YtbokilgdefkmiaaGreatDoorCzB18
import Derived.Test.YtbokilgdefkmiaaGreatDoorCzB08
set_option linter.unusedSimpArgs false
set_option linter.unusedVariables false
namespace Go.Proofs.YtbokilgdefkmiaaGreatDoor
namespace Ab
open Go
def OutR (P:Program) (o:Oper) (env:List V) (n:Nat) (L:Hp) (r:R):Prop:=
 OpL P o env n (res r.foot L) r.v r.n' (puts (res r.foot L) r.wr)∧n≤r.n'
theorem OutR.of {P:Program} {o:Oper} {env:List V} {n:Nat} {L:Hp} {r:R} {ans as_:List Ans} {C:Prop} (h:aop P o env n L ans=some ⟨r,as_,C⟩) (hC:C):OutR P o env n L r:=aop_ok h hC
def notB (b:Bool):Bool:=match b with|true=>false|false=>true
theorem notB_eq (b:Bool):notB b= !b:=by cases b<;>rfl
def inR (k:IntKind) (z:Int):Bool:=
 match k with
 | .i64=>match z with| .ofNat n=>Nat.ble n 9223372036854775807| .negSucc n=>Nat.ble n 9223372036854775807
 | .u64=>match z with| .ofNat n=>Nat.ble n 18446744073709551615| .negSucc _=>false
 | .u8=>match z with| .ofNat n=>Nat.ble n 255| .negSucc _=>false
 | .u32=>match z with| .ofNat n=>Nat.ble n 4294967295| .negSucc _=>false
 | .i32=>match z with| .ofNat n=>Nat.ble n 2147483647| .negSucc n=>Nat.ble n 2147483647
 |_=>false
def wrapF (k:IntKind) (z:Int):Int:=match inR k z with|true=>z|false=>k.wrap z
theorem wrapF_eq (k:IntKind) (z:Int):wrapF k z=k.wrap z:=by
 unfold wrapF;split
 ·rename_i h
  symm
  cases k<;>simp only[inR,Bool.false_eq_true] at h
  all_goals
   refine wrap_in ?_ ?_<;>simp only[IntKind.min,IntKind.max,IntKind.bits,IntKind.signed,Bool.false_eq_true,if_false,if_true]<;>cases z<;>first|(simp only[Bool.false_eq_true] at h;done)|(have:=Nat.le_of_ble_eq_true h;simp;try omega)
 ·rfl
def ltI (a b:Int):Bool:=
 match a with
 | .ofNat m=>match b with| .ofNat n=>Nat.blt m n| .negSucc _=>false
 | .negSucc m=>match b with| .ofNat _=>true| .negSucc n=>Nat.blt n m
theorem blt_dec (m n:Nat):Nat.blt m n=decide (m<n):=by
 cases h:Nat.blt m n with
 |true=>have:=blt_iff.1 h;simp[this]
 |false=>
  have: ¬m<n:=fun e=>by rw[blt_iff.2 e] at h;cases h
  simp[this]
theorem ltI_eq (a b:Int):ltI a b=decide (a<b):=by
 cases a<;>cases b<;>simp only[ltI,blt_dec]<;>first|(congr 1;apply propext;constructor<;>intro h<;>omega)|(symm;simp;done)|(symm;simp;omega)
def eqI (a b:Int):Bool:=
 match a with
 | .ofNat m=>match b with| .ofNat n=>Nat.beq m n| .negSucc _=>false
 | .negSucc m=>match b with| .ofNat _=>false| .negSucc n=>Nat.beq m n
theorem eqI_eq (a b:Int):eqI a b=(a==b):=by
 have key:∀ m n:Nat,Nat.beq m n=decide (m=n):=fun m n=>by
  by_cases h:m=n
  ·subst h;simp
  ·simp[h,beq_no h]
 cases a<;>cases b<;>simp only[eqI,key]
 ·rename_i m n;by_cases h:m=n
  ·subst h;simp
  ·have: ¬((Int.ofNat m:Int)=Int.ofNat n):=fun e=>h (by injection e)
   simp only[h,decide_false];symm;rw[beq_eq_false_iff_ne];exact this
 ·symm;rw[beq_eq_false_iff_ne];intro h;cases h
 ·symm;rw[beq_eq_false_iff_ne];intro h;cases h
 ·rename_i m n;by_cases h:m=n
  ·subst h;simp
  ·have: ¬((Int.negSucc m:Int)=Int.negSucc n):=fun e=>h (by injection e)
   simp only[h,decide_false];symm;rw[beq_eq_false_iff_ne];exact this
def natOf (z:Int):Option Nat:=match z with| .ofNat n=>some n| .negSucc _=>none
theorem natOf_eq {z:Int} {n:Nat} (h:natOf z=some n):z=(n:Int):=by cases z<;>simp[natOf] at h;subst h;rfl
def kIntE (op:BinOp) (k:IntKind) (a b:Int):Option S:=
 match op with
 | .add=>some (.int k (wrapF k (a+b)))
 | .sub=>some (.int k (wrapF k (a-b)))
 | .mul=>some (.int k (wrapF k (a*b)))
 | .quo=>match eqI b 0 with|true=>none|false=>some (.int k (wrapF k (a.tdiv b)))
 | .rem=>match eqI b 0 with|true=>none|false=>some (.int k (a.tmod b))
 | .and=>some (.int k (bitV .and k a b))
 | .or=>some (.int k (bitV .or k a b))
 | .xor=>some (.int k (bitV .xor k a b))
 | .andNot=>some (.int k (bitV .andNot k a b))
 | .eql=>some (.bool (eqI a b))
 | .neq=>some (.bool (notB (eqI a b)))
 | .lss=>some (.bool (ltI a b))
 | .leq=>some (.bool (notB (ltI b a)))
 | .gtr=>some (.bool (ltI b a))
 | .geq=>some (.bool (notB (ltI a b)))
 |_=>none
def kInt (op:BinOp) (k:IntKind) (a:Int) (k':IntKind) (b:Int):Option S:=
 match op with
 | .shl=>match natOf b with|some m=>some (.int k (wrapF k (a*2^(min m k.bits))))|none=>none
 | .shr=>match natOf b with|some m=>some (.int k (a.fdiv (2^(min m k.bits))))|none=>none
 |op=>match kEq k k' with|true=>kIntE op k a b|false=>none
theorem kIntE_ok {op:BinOp} {k:IntKind} {a b:Int} {s:S} (h:kIntE op k a b=some s):∃ ans as_ C,binI op k a b ans=some (s,as_,C)∧C:=by
 have nz:eqI b 0=false→b≠0:=fun h=>by rw[eqI_eq] at h;simpa using h
 cases op<;>simp only[kIntE,Option.some.injEq,reduceCtorEq] at h
 case add=>subst h;exact⟨[.num (wrapF k (a+b))],[],_,rfl,trivial,(wrapF_eq _ _).symm⟩
 case sub=>subst h;exact⟨[.num (wrapF k (a-b))],[],_,rfl,trivial,(wrapF_eq _ _).symm⟩
 case mul=>subst h;exact⟨[.num (wrapF k (a*b))],[],_,rfl,trivial,(wrapF_eq _ _).symm⟩
 case quo=>
  split at h
  ·cases h
  ·rename_i hb;cases h;exact⟨[.num (wrapF k (a.tdiv b))],[],_,rfl,nz hb,(wrapF_eq _ _).symm⟩
 case rem=>
  split at h
  ·cases h
  ·rename_i hb;cases h;exact⟨[],[],_,rfl,nz hb,trivial⟩
 case and=>subst h;exact⟨[],[],_,rfl,trivial,trivial⟩
 case or=>subst h;exact⟨[],[],_,rfl,trivial,trivial⟩
 case xor=>subst h;exact⟨[],[],_,rfl,trivial,trivial⟩
 case andNot=>subst h;exact⟨[],[],_,rfl,trivial,trivial⟩
 case eql=>subst h;exact⟨[],[],True,by rw[eqI_eq];rfl,trivial⟩
 case neq=>subst h;exact⟨[],[],True,by rw[eqI_eq,notB_eq];rfl,trivial⟩
 case lss=>subst h;exact⟨[],[],True,by rw[ltI_eq];rfl,trivial⟩
 case leq=>
  subst h;refine⟨[],[],True,?_,trivial⟩;rw[show notB (ltI b a)=decide (a≤b) by rw[ltI_eq,notB_eq];by_cases e:b<a<;>simp[e]<;>omega];rfl
 case gtr=>subst h;exact⟨[],[],True,by rw[ltI_eq];rfl,trivial⟩
 case geq=>
  subst h;refine⟨[],[],True,?_,trivial⟩;rw[show notB (ltI a b)=decide (a≥b) by rw[ltI_eq,notB_eq];by_cases e:a<b<;>simp[e]<;>omega];rfl
theorem kInt_ok {op:BinOp} {k:IntKind} {a:Int} {k':IntKind} {b:Int} {s:S} (h:kInt op k a k' b=some s):∃ ans as_ C,aBinI op k a k' b ans=some (s,as_,C)∧C:=by
 unfold kInt at h;split at h
 ·split at h
  ·rename_i m hm;cases h
   have:=natOf_eq hm;subst this;exact⟨[.num (wrapF k (a*2^(min m k.bits)))],[],_,rfl,by simp[wrapF_eq]⟩
  ·cases h
 ·split at h
  ·rename_i m hm;cases h
   have:=natOf_eq hm;subst this;exact⟨[],[],_,rfl,by simp⟩
  ·cases h
 ·rename_i h1 h2
  split at h
  ·rename_i hk
   obtain⟨ans,as_,C,g1,g2⟩:=kIntE_ok h;refine⟨ans,as_,C,?_,g2⟩;unfold aBinI;split
   ·exact absurd rfl h1
   ·exact absurd rfl h2
   ·simp only[hk];exact g1
  ·cases h
def eqB:List UInt8→List UInt8→Bool
 |[],[]=>true
 |a::s,b::t=>match Nat.beq a.toNat b.toNat with|true=>eqB s t|false=>false
 |_,_=>false
theorem eqB_eq:∀ (s t:List UInt8),eqB s t=decide (s=t)
 |[],[]=>rfl
 |[],_::_=>by simp[eqB]
 |_::_,[]=>by simp[eqB]
 |a::s,b::t=>by
  simp only[eqB];by_cases h:a.toNat=b.toNat
  ·have hab:a=b:=UInt8.toNat_inj.1 h
   subst hab;simp[eqB_eq s t]
  ·rw[beq_no h]
   have hab: ¬a=b:=fun e=>h (by rw[e])
   simp[hab]
def kStr (op:BinOp) (x y:List UInt8):Option S:=
 match op with
 | .add=>match Nat.ble (x.length+y.length) 9223372036854775807 with|true=>some (.str (x++y))|false=>none
 | .eql=>some (.bool (eqB x y))
 | .neq=>some (.bool (notB (eqB x y)))
 | .lss=>some (.bool (Op.bytesLess x y))
 | .leq=>some (.bool (Op.bytesLess x y||eqB x y))
 | .gtr=>some (.bool (notB (Op.bytesLess x y||eqB x y)))
 | .geq=>some (.bool (notB (Op.bytesLess x y)))
 |_=>none
theorem kStr_ok {op:BinOp} {x y:List UInt8} {s:S} (h:kStr op x y=some s):∃ ans as_ C,aBinStr op x y ans=some (s,as_,C)∧C:=by
 cases op<;>simp only[kStr,notB_eq,eqB_eq,Option.some.injEq,reduceCtorEq] at h
 case add=>
  split at h
  ·rename_i hb;cases h;exact⟨[],[],_,rfl,by have:=Nat.le_of_ble_eq_true hb;omega⟩
  ·cases h
 all_goals subst h;exact⟨[],[],_,rfl,trivial⟩
def kBin (P:Program) (op:BinOp) (t:TypeId) (x y:V):Option S:=
 match x,y with
 | .s (.int k a),.s (.int k' b)=>kInt op k a k' b
 | .s (.str a),.s (.str b)=>kStr op a b
 | .agg l,.agg l'=>
   match P.underlying t with
   |some (.struct fs)=>
    match eqFs P l l' fs.toList with
    |some b=>
     match notB (P.stoodInHeld t)&&notB (P.eqGuardType P.depth t) with
     |true=>match op with| .eql=>some (.bool b)| .neq=>some (.bool (notB b))|_=>none
     |false=>none
    |none=>none
   |_=>none
 | .s (.bool a),.s (.bool b)=>
   match isBoolTy P t with
   |true=>match op with| .eql=>some (.bool (a==b))| .neq=>some (.bool (notB (a==b)))|_=>none
   |false=>none
 | .s (.ptr none),.s (.ptr q)=>
   match isPtrTy P t with
   |true=>match op with| .eql=>some (.bool q.isNone)| .neq=>some (.bool (notB q.isNone))|_=>none
   |false=>none
 | .s (.ptr (some _)),.s (.ptr none)=>
   match isPtrTy P t with
   |true=>match op with| .eql=>some (.bool false)| .neq=>some (.bool true)|_=>none
   |false=>none
 | .s (.slc none _ _),.s (.slc q _ _)=>
   match isSliceTy P t with
   |true=>match op with| .eql=>some (.bool q.isNone)| .neq=>some (.bool (notB q.isNone))|_=>none
   |false=>none
 | .s (.slc (some _) _ _),.s (.slc none _ _)=>
   match isSliceTy P t with
   |true=>match op with| .eql=>some (.bool false)| .neq=>some (.bool true)|_=>none
   |false=>none
 |_,_=>none
theorem kBin_ok {P:Program} {op:BinOp} {t:TypeId} {x y:V} {s:S} (h:kBin P op t x y=some s):∃ ans as_ C,aBin2 P op t x y ans=some (s,as_,C)∧C:=by
 unfold kBin at h;split at h
 ·obtain⟨ans,as_,C,h1,h2⟩:=kInt_ok h
  exact⟨ans,as_,C,h1,h2⟩
 ·obtain⟨ans,as_,C,h1,h2⟩:=kStr_ok h
  exact⟨ans,as_,C,h1,h2⟩
 ·split at h
  ·rename_i fs hty
   split at h
   ·rename_i b hb
    split at h
    ·rename_i hg
     simp only[Bool.and_eq_true,notB_eq,Bool.not_eq_true'] at hg;split at h
     ·cases h;exact⟨[],[],((P.stoodInHeld t=false∧P.eqGuardType P.depth t=false)∧True),by simp only[aBin2,aEqAgg,hty,hb];rfl,hg,trivial⟩
     ·cases h;exact⟨[],[],((P.stoodInHeld t=false∧P.eqGuardType P.depth t=false)∧True),by simp only[aBin2,aEqAgg,hty,hb,notB_eq];rfl,hg,trivial⟩
     ·cases h
    ·cases h
   ·cases h
  ·cases h
 all_goals first|(cases h;done)|skip
 all_goals
  split at h
  case h_2=>cases h
  rename_i hty;split at h
  ·cases h;exact⟨[],[],True,by simp only[aBin2,aBin,hty];rfl,trivial⟩
  ·cases h;exact⟨[],[],True,by simp only[aBin2,aBin,hty,notB_eq];rfl,trivial⟩
  ·cases h
def kUn (op:UnOp) (x:V):Option S:=
 match op,x with
 | .not,.s (.bool b)=>some (.bool (notB b))
 | .neg,.s (.int k n)=>some (.int k (wrapF k (0-n)))
 | .xor,.s (.int k n)=>some (.int k (bitV .xor k (if k.signed then-1 else k.max) n))
 |_,_=>none
theorem kUn_ok {op:UnOp} {x:V} {s:S} (h:kUn op x=some s):∃ ans as_ C,aUn op x ans=some (s,as_,C)∧C:=by
 unfold kUn at h;split at h
 ·cases h;exact⟨[],[],True,rfl,trivial⟩
 ·rename_i k n;cases h;exact⟨[.num (wrapF k (0-n))],[],_,rfl,trivial,(wrapF_eq _ _).symm⟩
 ·cases h;exact⟨[],[],_,rfl,trivial,trivial⟩
 ·cases h
def kConv (P:Program) (src dst:TypeId) (x:V):Option S:=
 match x with
 | .s (.int _ n)=>
   match P.underlying src,P.underlying dst with
   |some _,some (.int k)=>some (.int k (wrapF k n))
   |_,_=>none
 | .s (.str l)=>
   match P.underlying src,P.underlying dst with
   |some .string,some .string=>some (.str l)
   |_,_=>none
 |_=>none
theorem kConv_ok {P:Program} {src dst:TypeId} {x:V} {s:S} (h:kConv P src dst x=some s):∃ ans as_ C,aConvI P src dst x ans=some (s,as_,C)∧C:=by
 unfold kConv at h;split at h
 ·rename_i kk n
  split at h
  ·rename_i d k h1 h2;cases h;exact⟨[.num (wrapF k n)],[],(True∧k.wrap n=wrapF k n),by simp only[aConvI,h1,h2];rfl,trivial,(wrapF_eq _ _).symm⟩
  ·cases h
 ·split at h
  ·rename_i h1 h2;cases h;exact⟨[],[],True,by simp only[aConvI,h1,h2],trivial⟩
  ·cases h
 ·cases h
set_option maxRecDepth 100000
def kBnd (x:Option V) (d:Nat):Option Nat:=
 match x with
 |none=>some d
 |some (.s (.int _ z))=>natOf z
 |_=>none
theorem kBnd_some {v:V} {d k:Nat} (h:kBnd (some v) d=some k):∃ kk,v=.s (.int kk (k:Int)):=by
 unfold kBnd at h;split at h
 ·rename_i hv;cases hv
 ·rename_i kk z hv;cases hv;exact⟨kk,by rw[natOf_eq h]⟩
 ·cases h
theorem kBnd_none {d k:Nat} (h:kBnd none d=some k):k=d:=by simp[kBnd] at h;exact h.symm
def kSliceStr (l:List UInt8) (lo hi:Option V):Option S:=
 match kBnd hi l.length,kBnd lo 0 with
 |some h,some k=>
  match Nat.ble h l.length&&Nat.ble k h with
  |true=>
   match hi,lo with
   |none,none=>some (.str l)
   |none,some _=>some (.str (l.drop k))
   |some _,none=>some (.str (l.take h))
   |some _,some _=>some (.str ((l.take h).drop k))
  |false=>none
 |_,_=>none
theorem kSliceStr_ok {n:Nat} {l:List UInt8} {lo hi:Option V} {s:S} (h:kSliceStr l lo hi=some s):∃ (ks:List Nat) (as_:List Ans) (C:Prop),aSliceStr n l lo hi (ks.map .idx)=some ⟨⟨[],.s s,[],n⟩,as_,C⟩∧C:=by
 unfold kSliceStr at h;split at h
 ·rename_i hh k e1 e2
  split at h
  ·rename_i hc
   simp only[Bool.and_eq_true] at hc;have c1:=Nat.le_of_ble_eq_true hc.1;have c2:=Nat.le_of_ble_eq_true hc.2;split at h
   ·cases h
    have:=kBnd_none e1;have:=kBnd_none e2;exact⟨[],[],_,rfl,trivial,trivial⟩
   ·rename_i v
    cases h;have:=kBnd_none e1;obtain⟨kk,rfl⟩:=kBnd_some e2;subst this;exact⟨[k],[],_,rfl,trivial,rfl,c2⟩
   ·cases h
    have:=kBnd_none e2;obtain⟨kk,rfl⟩:=kBnd_some e1;exact⟨[hh],[],_,rfl,⟨rfl,c1⟩,trivial⟩
   ·cases h
    obtain⟨kk,rfl⟩:=kBnd_some e1;obtain⟨kk',rfl⟩:=kBnd_some e2;exact⟨[hh,k],[],_,rfl,⟨rfl,c1⟩,rfl,c2⟩
  ·cases h
 ·cases h
def kSliceSl (i o len:Nat) (cap:Option Nat) (sz:Nat) (lo hi:Option V):Option S:=
 match kBnd hi len,kBnd lo 0 with
 |some h,some k=>
  match Nat.ble h (topOf cap len)&&Nat.ble k h with
  |true=>
   match lo with
   |none=>some (.slc (some (i,o)) h cap)
   |some _=>
    match (match cap with|some c=>Nat.blt k c|none=>Nat.blt k h) with
    |true=>some (.slc (some (i,plus o (times k sz))) (h-k) (subCap cap k))
    |false=>none
  |false=>none
 |_,_=>none
theorem kSliceSl_ok {n i o len:Nat} {cap:Option Nat} {sz:Nat} {lo hi:Option V} {s:S} (h:kSliceSl i o len cap sz lo hi=some s):∃ (ks:List Nat) (as_:List Ans) (C:Prop),aSliceSl n i o len cap sz lo hi (ks.map .idx)=some ⟨⟨[],.s s,[],n⟩,as_,C⟩∧C:=by
 unfold kSliceSl at h;split at h
 ·rename_i hh k e1 e2
  split at h
  ·rename_i hc
   simp only[Bool.and_eq_true] at hc;have c1:=Nat.le_of_ble_eq_true hc.1;have c2:=Nat.le_of_ble_eq_true hc.2;split at h
   ·cases h
    have h2:=kBnd_none e2
    cases hi with
    |none=>have:=kBnd_none e1;subst this;exact⟨[],[],_,rfl,trivial,trivial⟩
    |some v=>
     obtain⟨kk,rfl⟩:=kBnd_some e1;exact⟨[hh],[],_,rfl,⟨rfl,c1⟩,trivial⟩
   ·rename_i v
    split at h
    ·rename_i hl
     cases h
     have hlt:ltCap cap k hh:=by
      cases cap with
      |some c=>exact blt_iff.1 hl
      |none=>exact blt_iff.1 hl
     obtain⟨kk',rfl⟩:=kBnd_some e2
     cases hi with
     |none=>have:=kBnd_none e1;subst this;exact⟨[k,hh-k],[],_,rfl,⟨trivial,rfl,c2⟩,rfl,hlt⟩
     |some u=>
      obtain⟨kk,rfl⟩:=kBnd_some e1;exact⟨[hh,k,hh-k],[],_,rfl,⟨⟨rfl,c1⟩,rfl,c2⟩,rfl,hlt⟩
    ·cases h
  ·cases h
 ·cases h
def kFront (P:Program) (t:TypeId) (i g len:Nat) (lo hi:Option V):Option S:=
 match P.underlying t,kBnd hi len,kBnd lo 0 with
 |some (.slice e),some h,some 0=>match elemSz P e,Nat.ble h len with|some _,true=>some (.sla i g h)|_,_=>none
 |_,_,_=>none
theorem kBnd_bdV {x:Option V} {d k:Nat} (h:kBnd x d=some k):∃ A,bdV x k d=some A∧A:=by
 cases x with
 |none=>exact⟨k=d,rfl,kBnd_none h⟩
 |some v=>obtain⟨kk,rfl⟩:=kBnd_some h;exact⟨_,rfl,rfl⟩
theorem kFront_ok {P:Program} {env:List V} {n:Nat} {L:Hp} {t:TypeId} {x:Operand} {lo hi:Option Operand} {i g len:Nat} {s:S} {o:Oper} (ho:o.op=.slice t x lo hi none) (hx:ev env x=.s (.sla i g len))
 (h:kFront P t i g len (lo.map (ev env)) (hi.map (ev env))=some s):OutR P o env n L ⟨[],.s s,[],n⟩:=by
 unfold kFront at h;split at h
 ·rename_i e hh hty e1 e2
  split at h
  ·rename_i sz hsz hle
   cases h;have hle:=Nat.le_of_ble_eq_true hle;obtain⟨A,hA,cA⟩:=kBnd_bdV e2;obtain⟨B,hB,cB⟩:=kBnd_bdV e1;refine⟨OpL.light fun φ a w hop hg=>?_,Nat.le_refl _⟩;have g1:=hop x (by simp[ho,Op.operands]);rw[hx] at g1;obtain⟨b,c,hb,hgc,hv,hlc⟩:=g1;have r1:=bdV_ok (P:=P) (w:=w) (top:=hh) (code:=.sliceB) (fun y hy=>hop y (by subst hy;simp[ho,Op.operands])) hA cA (Nat.zero_le _);have r2:=bdV_ok (P:=P) (w:=w) (top:=c) (code:=.sliceAcap) (fun y hy=>hop y (by subst hy;simp[ho,Op.operands])) hB cB (by omega)
   have hsb:(Instr.sliceBounds true len c (lo.map a.eval) (hi.map a.eval) none).run P w=.ok (0,hh,c) w:=by
    unfold Instr.sliceBounds
    cases hi<;>cases lo<;>simp_all
   refine⟨.slice (some ⟨b.1,b.2,none⟩) hh c,?_,b,c,hb,hgc,rfl,by omega⟩;simp only[execOp,ho,hv,Option.map_none,Instr.sliceAt,Instr.slice,Sem.run_bind,run_underlying hty,Result.andThen_ok,hsb,elemSz_ok hsz,Option.map_some,addr_add,Sem.run_pure]
   split<;>simp
  ·cases h
 ·cases h
def kNilSl (P:Program) (t:TypeId) (lo hi:Option V):Bool:=
 match P.underlying t,kBnd hi 0,kBnd lo 0 with
 |some (.slice e),some 0,some 0=>(elemSz P e).isSome
 |_,_,_=>false
theorem kNilSl_ok {P:Program} {env:List V} {n:Nat} {L:Hp} {t:TypeId} {x:Operand} {lo hi:Option Operand} {len:Nat} {cap:Option Nat} {o:Oper} (ho:o.op=.slice t x lo hi none) (hx:ev env x=.s (.slc none len cap))
 (h:kNilSl P t (lo.map (ev env)) (hi.map (ev env))=true):OutR P o env n L ⟨[],.s (.slc none 0 (some 0)),[],n⟩:=by
 unfold kNilSl at h;split at h
 ·rename_i e hty e1 e2
  cases hsz:elemSz P e with
  |none=>rw[hsz] at h;cases h
  |some sz=>
  obtain⟨A,hA,cA⟩:=kBnd_bdV e2;obtain⟨B,hB,cB⟩:=kBnd_bdV e1;refine⟨OpL.light fun φ a w hop hg=>?_,Nat.le_refl _⟩;have g1:=hop x (by simp[ho,Op.operands]);rw[hx] at g1;obtain⟨_,_,hv⟩:=g1;have r1:=bdV_ok (P:=P) (w:=w) (top:=0) (code:=.sliceB) (fun y hy=>hop y (by subst hy;simp[ho,Op.operands])) hA cA (Nat.zero_le _);have r2:=bdV_ok (P:=P) (w:=w) (top:=0) (code:=.sliceAcap) (fun y hy=>hop y (by subst hy;simp[ho,Op.operands])) hB cB (by omega)
  have hsb:(Instr.sliceBounds true 0 0 (lo.map a.eval) (hi.map a.eval) none).run P w=.ok (0,0,0) w:=by
   unfold Instr.sliceBounds
   cases hi<;>cases lo<;>simp_all
  refine⟨.slice none 0 0,?_,rfl,rfl,rfl⟩;simp only[execOp,ho,hv,Option.map_none,Instr.sliceAt,Instr.slice,Sem.run_bind,run_underlying hty,Result.andThen_ok,hsb,elemSz_ok hsz,Option.map_some,addr_add,Sem.run_pure];simp
 ·cases h
def kSlice (P:Program) (n:Nat) (t:TypeId) (x:V) (lo hi mx:Option V):Option S:=
 match mx with
 |some _=>none
 |none=>
  match x with
  | .s (.str l)=>match P.underlying t with|some .string=>kSliceStr l lo hi|_=>none
  | .s (.sla i g len)=>
    match kFront P t i g len lo hi with
    |some s=>some s
    |none=>match P.underlying t with|some (.slice e)=>(match elemSz P e with|some sz=>kSliceSl i 0 len none sz lo hi|none=>none)|_=>none
  | .s (.slc (some (i,o)) len cap)=>match P.underlying t with|some (.slice e)=>(match elemSz P e with|some sz=>kSliceSl i o len cap sz lo hi|none=>none)|_=>none
  | .s (.slc none len cap)=>match kNilSl P t lo hi with|true=>some (.slc none 0 (some 0))|false=>none
  |_=>none
theorem kBnd_wk (x:Option V) (d:Nat):kBnd (x.map wkV) d=kBnd x d:=by
 cases x with
 |none=>rfl
 |some v=>cases v with
  |s x=>cases x<;>rfl
  |_=>rfl
theorem kSlice_ok {P:Program} {env:List V} {n:Nat} {L:Hp} {t:TypeId} {x:Operand} {lo hi mx:Option Operand} {s:S} {o:Oper} (ho:o.op=.slice t x lo hi mx)
 (h:kSlice P n t (ev env x) (lo.map (ev env)) (hi.map (ev env)) (mx.map (ev env))=some s):OutR P o env n L ⟨[],.s s,[],n⟩:=by
 have hmx:mx=none:=by
  cases mx with
  |none=>rfl
  |some _=>simp[kSlice] at h
 subst hmx
 have wkb:∀ (y:Option Operand),(y.map fun z=>wkV (ev env z))=(y.map (ev env)).map wkV:=fun y=>by cases y<;>rfl
 have go:∀ (ks:List Nat) (as_:List Ans) (C:Prop),aSlice P n t (wkV (ev env x)) (lo.map fun y=>wkV (ev env y)) (hi.map fun y=>wkV (ev env y)) none (ks.map .idx)=some ⟨⟨[],.s s,[],n⟩,as_,C⟩→C→OutR P o env n L ⟨[],.s s,[],n⟩:=by
  intro ks as_ C hs hC;refine OutR.of (ans:=ks.map .idx) (as_:=as_) (C:=C) ?_ hC;simp only[aop,ho,Option.map_none]
  cases ks<;>exact hs
 simp only[kSlice,Option.map_none] at h
 have slc:∀ (i o' len:Nat) (cap:Option Nat) (e:TypeId) (sz:Nat),wkV (ev env x)=.s (.slc (some (i,o')) len cap)→P.underlying t=some (.slice e)→elemSz P e=some sz→kSliceSl i o' len cap sz (lo.map (ev env)) (hi.map (ev env))=some s→OutR P o env n L ⟨[],.s s,[],n⟩:=by
  intro i o' len cap e sz hx hty hsz hk
  have hk':kSliceSl i o' len cap sz ((lo.map (ev env)).map wkV) ((hi.map (ev env)).map wkV)=some s:=by
   unfold kSliceSl at hk ⊢;rw[kBnd_wk,kBnd_wk]
   cases hlo:lo.map (ev env)<;>rw[hlo] at hk<;>exact hk
  obtain⟨ks,as_,C,h1,h2⟩:=kSliceSl_ok (n:=n) hk';exact go ks as_ C (by simp only[aSlice,hty,hx,hsz,wkb];exact h1) h2
 split at h
 ·rename_i l hx
  split at h
  ·rename_i hty
   have hk':kSliceStr l ((lo.map (ev env)).map wkV) ((hi.map (ev env)).map wkV)=some s:=by
    unfold kSliceStr at h ⊢;rw[kBnd_wk,kBnd_wk]
    cases hlo:lo.map (ev env)<;>cases hhi:hi.map (ev env)<;>rw[hlo,hhi] at h<;>exact h
   obtain⟨ks,as_,C,h1,h2⟩:=kSliceStr_ok (n:=n) hk';exact go ks as_ C (by rw[show wkV (ev env x)=.s (.str l) by rw[hx];rfl];simp only[aSlice,hty,wkb];exact h1) h2
  ·cases h
 ·rename_i i g len hx
  split at h
  ·rename_i s' hf
   cases h;exact kFront_ok ho hx hf
  ·split at h
   ·rename_i e hty
    split at h
    ·rename_i sz hsz
     exact slc i 0 len none e sz (by rw[hx];rfl) hty hsz h
    ·cases h
   ·cases h
 ·rename_i i o' len cap hx
  split at h
  ·rename_i e hty
   split at h
   ·rename_i sz hsz
    exact slc i o' len cap e sz (by rw[hx];rfl) hty hsz h
   ·cases h
  ·cases h
 ·rename_i len cap hx
  split at h
  ·rename_i hn
   cases h;exact kNilSl_ok ho hx hn
  ·cases h
 ·cases h
def kIdx (P:Program) (t:TypeId) (x ix:V):Option S:=
 match ix with
 | .s (.int _ z)=>
   match natOf z with
   |some k=>
    match P.underlying t with
    |some (.slice e)=>
     match x,elemSz P e with
     | .s (.slc (some (i,o)) len _),some sz=>match Nat.blt k len with|true=>some (.ptr (some (i,plus o (times k sz))))|false=>none
     | .s (.sla i _ len),some sz=>match Nat.blt k len with|true=>some (.ptr (some (i,times k sz)))|false=>none
     |_,_=>none
    |some (.array len e)=>
     match x,elemSz P e with
     | .s (.ptr (some (i,o))),some sz=>match Nat.blt k len with|true=>some (.ptr (some (i,plus o (times k sz))))|false=>none
     | .s (.gp g o),some sz=>match Nat.blt k len with|true=>some (.gp g (plus o (times k sz)))|false=>none
     |_,_=>none
    |_=>none
   |none=>none
 |_=>none
theorem kIdx_ok {P:Program} {env:List V} {n:Nat} {L:Hp} {t:TypeId} {x ix:Operand} {s:S} {o:Oper} (ho:o.op=.indexAddr t x ix) (h:kIdx P t (ev env x) (ev env ix)=some s):OutR P o env n L ⟨[],.s s,[],n⟩:=by
 unfold kIdx at h;split at h
 ·rename_i kk z hix
  split at h
  ·rename_i k hk
   have hz:=natOf_eq hk;subst hz;split at h
   ·rename_i e hty
    split at h
    ·rename_i i off len c sz hx hsz
     split at h
     ·rename_i hlt
      cases h;have hlt:=blt_iff.1 hlt;refine OutR.of (ans:=[]) (as_:=[]) (C:=0≤(k:Int)∧(k:Int)<(len:Int)) ?_ ⟨by omega,by omega⟩;simp only[aop,ho,aIndexAddr,hix,hx,wkV,wkS,hty,hsz,idxOf,lt_eq];simp
     ·cases h
    ·rename_i i g len sz hx hsz
     split at h
     ·rename_i hlt
      cases h;have hlt:=blt_iff.1 hlt;refine OutR.of (ans:=[]) (as_:=[]) (C:=0≤(k:Int)∧(k:Int)<(len:Int)) ?_ ⟨by omega,by omega⟩;simp only[aop,ho,aIndexAddr,hix,hx,wkV,wkS,hty,hsz,idxOf,lt_eq,plus_eq,Nat.zero_add];simp
     ·cases h
    ·cases h
   ·rename_i len e hty
    split at h
    ·rename_i i off sz hx hsz
     split at h
     ·rename_i hlt
      cases h;have hlt:=blt_iff.1 hlt;refine OutR.of (ans:=[]) (as_:=[]) (C:=0≤(k:Int)∧(k:Int)<(len:Int)) ?_ ⟨by omega,by omega⟩;simp only[aop,ho,aIndexAddr,hix,hx,wkV,wkS,hty,hsz,idxOf,lt_eq];simp
     ·cases h
    ·rename_i g off sz hx hsz
     split at h
     ·rename_i hlt
      cases h;have hlt:=blt_iff.1 hlt;refine⟨OpL.light fun φ a w hop _=>?_,Nat.le_refl _⟩;have g1:=hop x (by simp[ho,Op.operands]);have g2:=hop ix (by simp[ho,Op.operands]);rw[hx] at g1;rw[hix] at g2;simp only[Vr,Sr] at g1 g2;refine⟨.pointer (some ⟨g,plus off (times k sz),none⟩),?_,rfl⟩;simp only[execOp,ho,g1,g2,Instr.indexAt,Instr.sureAddr,asIntOf,Sem.run_bind,Sem.run_pure,run_underlying hty,Result.andThen_ok,elemSz_ok hsz,addr_add,plus_eq,times_eq];rw[if_pos ⟨by omega,by omega⟩];simp[elemSz_ok hsz,addr_add]
     ·cases h
    ·cases h
   ·cases h
  ·cases h
 ·cases h
def kIndex (P:Program) (t:TypeId) (x ix:V):Option S:=
 match x,ix with
 | .s (.str l),.s (.int _ z)=>
   match natOf z,P.underlying t with
   |some k,some .string=>match l[k]? with|some b=>some (.int .u8 (Int.ofNat b.toNat))|none=>none
   |_,_=>none
 |_,_=>none
theorem kIndex_ok {P:Program} {env:List V} {n:Nat} {L:Hp} {t:TypeId} {x ix:Operand} {s:S} {o:Oper} (ho:o.op=.index t x ix) (h:kIndex P t (ev env x) (ev env ix)=some s):OutR P o env n L ⟨[],.s s,[],n⟩:=by
 unfold kIndex at h;split at h
 ·rename_i l kk z hx hix
  split at h
  ·rename_i k hk hty
   have hz:=natOf_eq hk;subst hz;split at h
   ·rename_i b hb
    cases h
    have hlt:k<l.length:=by
     rcases Nat.lt_or_ge k l.length with h|h
     ·exact h
     ·simp[List.getElem?_eq_none h] at hb
    refine OutR.of (ans:=[]) (as_:=[]) (C:=0≤(k:Int)∧(k:Int)<(l.length:Int)) ?_ ⟨by omega,by omega⟩
    have hg:l.getD k 0=b:=by simp[List.getD_eq_getElem?_getD,hb]
    simp only[aop,ho,aIndex,hix,hx,hty,idxOf,lt_eq,Int.toNat_natCast,hg];rfl
   ·cases h
  ·cases h
 ·cases h
def kLoad (P:Program) (n:Nat) (L:Hp) (t:TypeId) (x:V):Option R:=
 match x with
 | .s (.ptr (some (i,o)))=>
   match lk L i,tyS P t with
   |some bl,some (ag,sz)=>match ldAt ag sz bl o with|some v=>some ⟨[i],v,[],n⟩|none=>none
   |_,_=>none
 | .s (.gp g o)=>
   match GS g,tyS P t with
   |some cs,some (ag,sz)=>match fldAt ag sz cs o with|some v=>some ⟨[],v,[],n⟩|none=>none
   |_,_=>none
 |_=>none
theorem kLoad_ok {P:Program} {env:List V} {n:Nat} {L:Hp} {t:TypeId} {x:Operand} {r:R} {o:Oper} (ho:o.op=.load t x) (h:kLoad P n L t (ev env x)=some r):OutR P o env n L r:=by
 unfold kLoad at h;split at h
 ·rename_i i off hx
  split at h
  ·rename_i bl ag sz hl ht
   split at h
   ·rename_i v hld
    cases h;refine⟨OpL.light fun φ a w hop hg=>?_,Nat.le_refl _⟩;have g1:=hop x (by simp[ho,Op.operands]);rw[hx] at g1;obtain⟨b,hb,hv⟩:=g1;obtain⟨b',hb',hat⟩:=hg.hr i bl (by rw[lk_res];simp[hl]);rw[hb] at hb';cases hb';obtain⟨y,hy,hr⟩:=run_loadVar hat ht hld;exact⟨y,by simp only[execOp,ho,hv,Instr.loadAt,Instr.sureAddr,Sem.run_bind,Sem.run_pure,Result.andThen_ok,hy],hr⟩
   ·cases h
  ·cases h
 ·rename_i g off hx
  split at h
  ·rename_i cs ag sz hcs ht
   split at h
   ·rename_i v hv
    cases h;refine⟨OpL.light fun φ a w hop hg=>?_,Nat.le_refl _⟩;have g1:=hop x (by simp[ho,Op.operands]);rw[hx] at g1;simp only[Vr,Sr] at g1;obtain⟨vs,hz,hall⟩:=hg.gz g cs hcs
    have hf:Sr φ (.fpt cs off) (a.eval x):=⟨g,0,vs,hz,by rw[g1,Nat.zero_add],fun i y hi=>by rw[Nat.zero_add];exact hall.get hi⟩
    obtain⟨ad,hu,y,hy,hr⟩:=run_fld hg hf ht hv;exact⟨y,by simp only[execOp,ho,hu,Instr.loadAt,Instr.sureAddr,Sem.run_bind,Sem.run_pure,Result.andThen_ok,hy],hr⟩
   ·cases h
  ·cases h
 ·cases h
def kStore (P:Program) (n:Nat) (L:Hp) (t:TypeId) (x v:V):Option R:=
 match x with
 | .s (.ptr (some (i,o)))=>
   match lk L i,elemSz P t,cellsOf v with
   |some bl,some sz,some l=>
    match Nat.beq l.length sz&&notB bl.ro&&fitsIn bl l&&bl.kind.isNone&&Nat.ble (o+l.length) bl.cells.length with
    |true=>frc (setL bl.cells o l) [] fun cs=>some ⟨[i],.undef,[(i,some {bl with cells:=cs})],n⟩
    |false=>none
   |_,_,_=>none
 |_=>none
theorem kStore_ok {P:Program} {env:List V} {n:Nat} {L:Hp} {t:TypeId} {x y:Operand} {r:R} {o:Oper} (ho:o.op=.store t x y) (h:kStore P n L t (ev env x) (ev env y)=some r):OutR P o env n L r:=by
 unfold kStore at h;split at h
 ·rename_i i off hx
  split at h
  ·rename_i bl sz l hl hsz hcl
   split at h
   ·rename_i hc
    rw[frc_eq] at h;cases h;simp only[Bool.and_eq_true] at hc;obtain⟨hc,hle⟩:=hc;have hle:=Nat.le_of_ble_eq_true hle;rw[notB_eq] at hc
    have hck:(Nat.beq l.length sz&& !bl.ro&&fitsIn bl l&&bl.kind.isNone)=true:=by simp only[Bool.and_eq_true];exact hc
    cases hsy:bl.sym with
    |true=>
     refine OutR.of (ans:=[.cells (setL bl.cells off l)]) (as_:=[]) (C:=off+l.length≤bl.cells.length∧setL bl.cells off l=setL bl.cells off l) ?_ ⟨hle,rfl⟩;simp only[aop,ho,aStore,hx,hl,hsz,hcl,hck,hsy]
    |false=>
     refine OutR.of (ans:=[.stc (setL bl.cells off l)]) (as_:=[]) (C:=off+l.length≤bl.cells.length∧setL bl.cells off l=setL bl.cells off l) ?_ ⟨hle,rfl⟩;simp only[aop,ho,aStore,hx,hl,hsz,hcl,hck,hsy]
   ·cases h
  ·cases h
 ·cases h
end Ab
end Go.Proofs.YtbokilgdefkmiaaGreatDoor
