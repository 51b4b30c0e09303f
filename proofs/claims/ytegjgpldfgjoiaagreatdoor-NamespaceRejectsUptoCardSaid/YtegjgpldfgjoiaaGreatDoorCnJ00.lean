import Derived.WalkKit
import Derived.Orders
import Derived.KernelRfl
set_option linter.all false
namespace Go.Proofs.YtegjgpldfgjoiaaGreatDoor
section
open Go
abbrev Z00:= @List.getD_eq_getElem?_getD
abbrev Z01:= @List.getElem?_eq_getElem
abbrev Z02:= @Nat.le_refl
abbrev Z03:= @List.length_append
abbrev Z04:= @List.length_cons
abbrev Z05:= @Result.andThen_ok
abbrev Z06:= @Option.some.injEq
abbrev Z07:= @Bool.and_eq_true
abbrev Z08:= @Nat.zero_le
abbrev Z09:= @Sem.run_bind
abbrev Z0a:= @Nat.lt_or_ge
abbrev Z0b:= @List.getElem?_eq_none
abbrev Z0c:= @Nat.zero_add
abbrev Z0d:= @List.map_append
abbrev Z0e:= @List.length_nil
abbrev Z0f:= @Sem.run_pure
abbrev Z0g:= @List.flatMap_cons
abbrev Z0h:= @List.mem_cons
abbrev Z0i:= @List.all_eq_true
abbrev Z0j:= @Prod.mk.injEq
abbrev Z0k:= @List.drop_eq_getElem_cons
abbrev Z0l:= @Bool.false_eq_true
abbrev Z0m:= @List.mem_singleton
abbrev Z0n:= @List.length_singleton
abbrev Z0o:= @True.intro
abbrev Z0p:= @Nat.add_zero
abbrev Z0q:= @Nat.eq_of_beq_eq_true
abbrev Z0r:= @List.flatMap_append
abbrev Z0s:= @List.getElem_mem
abbrev Z0t:= @List.getElem?_map
abbrev Z0u:= @List.append_nil
abbrev Z0v:= @Bool.not_eq_true'
abbrev Z0w:= @List.mem_append
abbrev Z0x:= @List.getElem?_append_left
abbrev Z0y:= @List.mem_cons_of_mem
abbrev Z0z:= @List.length_map
abbrev Z10:= @List.drop_eq_nil_of_le
abbrev Z11:= @List.getElem?_cons_zero
abbrev Z12:= @Int.toNat_natCast
abbrev Z13:= @List.map_cons
abbrev Z14:= @List.append_assoc
abbrev Z15:= @List.eq_nil_of_length_eq_zero
abbrev Z16:= @List.replicate_succ
abbrev Z17:= @List.mem_cons_self
abbrev Z18:= @List.length_set
abbrev Z19:= @List.length_take
abbrev Z1a:= @List.getElem?_toArray
abbrev Z1b:= @List.all_cons
abbrev Z1c:= @Option.some.inj
abbrev Z1d:= @List.mem_map
abbrev Z1e:= @List.nil_append
abbrev Z1f:= @List.getElem?_append_right
abbrev Z1g:= @List.all_append
abbrev Z1h:= @Bool.or_eq_true
abbrev Z1i:= @List.getElem?_set
abbrev Z1j:= @Option.map_some
abbrev Z1k:= @Nat.le_of_lt
abbrev Z1l:= @List.take_of_length_le
abbrev Z1m:= @Nat.not_lt_zero
abbrev Z1n:= @Nat.succ_pos
abbrev Z1o:= @Nat.le_add_right
abbrev Z1p:= @Nat.mul_one
abbrev Z1q:= @Go.MapKept.run_getObj_map
abbrev Z1r:= @Bool.true_and
abbrev Z1s:= @List.length_pos_iff
abbrev Z1t:= @Nat.lt_succ_self
abbrev Z1u:= @List.length_drop
abbrev Z1v:= @List.take_length
abbrev Z1w:= @Nat.mul_le_mul_right
abbrev Z1x:= @Array.getD_eq_getD_getElem?
abbrev Z1y:= @Nat.le_of_ble_eq_true
abbrev Z1z:= @Nat.le_trans
abbrev Z20:= @List.mem_range'_1
abbrev Z21:= @Nat.eq_zero_or_pos
abbrev Z22:= @Option.getD_some
abbrev Z23:= @List.getElem?_cons_succ
abbrev Z24:= @Nat.zero_mul
abbrev Z25:= @List.cons_append
abbrev Z26:= @List.getElem?_range
abbrev Z27:= @List.getD_cons_succ
abbrev Z28:= @Array.length_toList
abbrev Z29:= @List.mem_range
abbrev Z2a:= @Int.eq_ofNat_of_zero_le
abbrev Z2b:= @Option.isSome_none
abbrev Z2c:= @Bool.false_and
abbrev Z2d:= @List.mem_filter
abbrev Z2e:= @List.length_range
abbrev Z2f:= @Bool.not_false
abbrev Z2g:= @Option.map_none
abbrev Z2h:= @List.mem_flatMap
abbrev Z2i:= @List.ext_getElem?
abbrev Z2j:= @List.set_cons_succ
abbrev Z2k:= @List.getElem?_drop
abbrev Z2l:= @Int.le_refl
abbrev Z2m:= @List.take_append_drop
abbrev Z2n:= @Nat.beq_refl
abbrev Z2o:= @List.filter_cons
abbrev Z2p:= @List.pairwise_map
abbrev Z2q:= @Nat.add_mul
abbrev Z2r:= @List.mem_iff_getElem
abbrev Z2s:= @List.foldl_cons
abbrev Z2t:= @DataW.trod_lt
abbrev Z2u:= @List.all_nil
abbrev Z2v:= @List.pairwise_cons
abbrev Z2w:= @List.getElem?_take
abbrev Z2x:= @List.mem_of_mem_take
abbrev Z2y:= @Bool.or_eq_false_iff
abbrev Z2z:= @Bool.not_true
abbrev Z30:= @Nat.sub_zero
abbrev Z31:= @List.range'_succ
abbrev Z33:= @List.mem_or_eq_of_mem_set
abbrev Z34:= @List.getD_cons_zero
abbrev Z35:= @List.singleton_append
abbrev Z36:= @List.length_replicate
abbrev Z37:= @List.length_filter_le
abbrev Z38:= @Array.mem_of_getElem?
abbrev Z39:= @UInt8.toNat_inj
abbrev Z3a:= @List.range_succ
abbrev Z3b:= @List.mem_replicate
abbrev Z3c:= @List.mem_append_left
abbrev Z3d:= @List.map_nil
abbrev Z3e:= @Bool.true_or
abbrev Z3f:= @List.drop_zero
abbrev Z3g:= @Nat.lt_trichotomy
abbrev Z3h:= @WideShapes.sorted_perm
abbrev Z3j:= @List.ext_getElem
abbrev Z3k:= @List.set_cons_zero
abbrev Z3m:= @Bool.and_true
abbrev Z3n:= @Array.mem_toList_iff
abbrev Z3o:= @List.take_append_of_le_length
abbrev Z3p:= @List.nodup_append
abbrev Z3q:= @Oper.upon_value
abbrev Z3r:= @Nat.sub_self
abbrev Z3s:= @Nat.le_succ
abbrev Z3t:= @List.not_mem_nil
abbrev Z3u:= @List.map_toArray
abbrev Z3v:= @Array.ext'
abbrev Z3w:= @Nat.lt_of_lt_of_le
abbrev Z3x:= @Bool.true_eq_false
abbrev Z3y:= @Nat.ble_eq_true_of_le
abbrev Z3z:= @List.size_toArray
abbrev Z40:= @Nat.lt_irrefl
abbrev Z41:= @Bool.or_false
abbrev Z42:= @List.any_eq_true
abbrev Z43:= @List.getElem?_replicate
abbrev Z44:= @Iff.rfl
abbrev Z45:= @Nat.min_eq_left
abbrev Z46:= @Bool.false_or
abbrev Z47:= @List.mem_append_right
abbrev Z48:= @Ne.symm
abbrev Z49:= @List.take_add_one
abbrev Z4a:= @List.foldl_append
abbrev Z4b:= @List.any_eq_false
abbrev Z4c:= @Classical.not_not
abbrev Z4d:= @Calls.mono
abbrev Z4e:= @DataW.trod_int
abbrev Z4f:= @Bool.and_false
abbrev Z4g:= @List.range_eq_range'
abbrev Z4i:= @List.mem_of_getElem?
abbrev Z4j:= @List.exists_cons_of_ne_nil
abbrev Z4k:= @Nat.add_comm
abbrev Z4l:= @List.map_set
abbrev Z4m:= @Bool.or_true
abbrev Z4n:= @Go.MapKept.run_setObj_map
abbrev Z4o:= @Classical.byContradiction
abbrev Z4p:= @List.set_eq_of_length_le
abbrev Z4r:= @List.nodup_cons
abbrev Z4s:= @List.cons.injEq
abbrev Z4t:= @Nat.add_sub_cancel
abbrev Z4u:= @List.length_eq_zero_iff
abbrev Z4v:= @Oper.wp_mono
abbrev Z4w:= @List.flatten_cons
abbrev Z4x:= @List.filter_eq_nil_iff
abbrev Z4y:= @List.set_append_right
abbrev Z4z:= @Array.getElem?_toList
abbrev Z50:= @List.range'_zero
abbrev Z51:= @List.flatten_nil
abbrev Z52:= @Nat.add_assoc
abbrev Z54:= @List.drop_append_of_le_length
abbrev Z56:= @List.mem_zipIdx_iff_getElem?
abbrev Z57:= @List.mergeSort_perm
abbrev Z59:= @List.drop_succ_cons
abbrev Z5a:= @Nat.le_of_eq
abbrev Z5b:= @List.nodup_nil
abbrev Z5c:= @List.drop_drop
abbrev Z5d:= @Nat.lt_of_lt_of_eq
abbrev Z5e:= @List.length_range'
abbrev Z5f:= @Int.natCast_nonneg
abbrev Z5g:= @Int.tdiv_eq_ediv_of_nonneg
abbrev Z5h:= @List.pairwise_iff_getElem
abbrev Z5i:= @List.Pairwise.nil
abbrev Z5k:= @DataW.trod_string
abbrev Z5l:= @Int.tdiv_le_self
abbrev Z5m:= @List.set_set
abbrev Z5n:= @Int.zero_add
abbrev Z5o:= @List.length_eq_one_iff
abbrev Z5p:= @ByteArray.data_extract
abbrev Z5r:= @Int.tdiv_nonneg
abbrev Z5s:= @Int.emod_nonneg
abbrev Z5t:= @Bool.eq_iff_iff
abbrev Z5u:= @List.count_cons_of_ne
abbrev Z5v:= @Array.getElem?_modify
abbrev Z5w:= @Oper.upon_skip
abbrev Z5x:= @List.foldl_nil
abbrev Z5y:= @Int.mul_nonneg
abbrev Z5z:= @List.range'_append_1
theorem aa {G:Prop} (h:G:=by omega):G:=h
theorem ae {G:Prop} (h:G:=by grind):G:=h
theorem ac {G:Prop} (h:G:=by decide):G:=h
theorem aK {G:Prop} (h:G:=by kernel_rfl):G:=h
theorem aq {G:Prop} (h:G:=by simp):G:=h
end
namespace Ab
open Go
section
variable {v:Value} {w:World} {z:Nat->Option (List Value)} {b:Nat}
def All2 {α β:Type} (R:α->β->Prop):List α->List β->Prop
 |[],[]=>True
 |a::as_,b::bs=>R a b/\All2 R as_ bs
 |_,_=>False
section
variable {α β:Type} {R R':α->β->Prop}
theorem All2.len:∀ {as_:List α} {bs:List β},All2 R as_ bs->bs.length=as_.length
 |[],[],_=>rfl
 |_::_,_::_,h=>by simp[All2.len h.2]
 |[],_::_,h=>h.elim
 |_::_,[],h=>h.elim
theorem All2.mono (hr:∀ a b,R a b->R' a b):∀ {as_:List α} {bs:List β},All2 R as_ bs->All2 R' as_ bs
 |[],[],_=>trivial
 |_::_,_::_,h=>⟨hr _ _ h.1,All2.mono hr h.2⟩
 |[],_::_,h=>h.elim
 |_::_,[],h=>h.elim
theorem All2.get:∀ {as_:List α} {bs:List β} {i:Nat} {a:α},All2 R as_ bs->as_[i]? =some a->∃ b,bs[i]? =some b/\R a b
 |[],[],i,a,_,h=>by grind
 |x::_,y::_,0,a,h,he=>⟨y,rfl,by simp at he;exact he▸h.1⟩
 |_::_,_::_,i+1,a,h,he=>by simpa using All2.get h.2 (by simpa using he)
 |[],_::_,_,_,h,_=>h.elim
 |_::_,[],_,_,h,_=>h.elim
theorem All2.get' {as_:List α} {bs:List β} {i:Nat} {b:β} (h:All2 R as_ bs) (hb:bs[i]? =some b):∃ a,as_[i]? =some a/\R a b:=by
 have hl:=h.len
 have hi:i<bs.length:=by
  grind
 have ha:as_[i]? =some (as_[i]'aa):=aq
 grind [h.get]
theorem All2.set:∀ {as_:List α} {bs:List β} {i:Nat} {a:α} {b:β},All2 R as_ bs->R a b->All2 R (as_.set i a) (bs.set i b)
 |[],[],_,_,_,_,_=>by grind
 |_::_,_::_,0,_,_,h,hr=>by simp only[Z3k];exact⟨hr,h.2⟩
 |_::_,_::_,i+1,_,_,h,hr=>by simp only[Z2j];exact⟨h.1,All2.set h.2 hr⟩
 |[],_::_,_,_,_,h,_=>h.elim
 |_::_,[],_,_,_,h,_=>h.elim
theorem All2.append:∀ {as_:List α} {bs:List β} {cs:List α} {ds:List β},All2 R as_ bs->All2 R cs ds->All2 R (as_++cs) (bs++ds)
 |[],[],_,_,_,h=>by grind
 |_::_,_::_,_,_,h,h'=>⟨h.1,All2.append h.2 h'⟩
 |[],_::_,_,_,h,_=>h.elim
 |_::_,[],_,_,h,_=>h.elim
theorem All2.take:∀ {as_:List α} {bs:List β} (n:Nat),All2 R as_ bs->All2 R (as_.take n) (bs.take n)
 |_,_,0,_=>by simp[All2]
 |[],[],_+1,_=>by grind
 |_::_,_::_,n+1,h=>⟨h.1,All2.take n h.2⟩
 |[],_::_,_+1,h=>h.elim
 |_::_,[],_+1,h=>h.elim
theorem All2.drop:∀ {as_:List α} {bs:List β} (n:Nat),All2 R as_ bs->All2 R (as_.drop n) (bs.drop n)
 |_,_,0,h=>by grind
 |[],[],_+1,_=>by grind
 |_::_,_::_,n+1,h=>by simpa using All2.drop n h.2
 |[],_::_,_+1,h=>h.elim
 |_::_,[],_+1,h=>h.elim
theorem All2.of_get:∀ {as_:List α} {bs:List β},bs.length=as_.length->(∀ (i:Nat) a b,as_[i]? =some a->bs[i]? =some b->R a b)->All2 R as_ bs
 |[],[],_,_=>trivial
 |a::as_,b::bs,hl,h=>⟨h 0 a b rfl rfl,All2.of_get ae λi x y hx hy=>h (i+1) x y ae ae⟩
 |[],_::_,hl,_=>by grind
 |_::_,[],hl,_=>by grind
end
structure Ph where
 f:Nat->Option (Nat×Nat)
 /--what a frozen block holds:one that is never written again -/
 z:Nat->Option (List Value)
instance:CoeFun Ph λ_=>Nat->Option (Nat×Nat):=⟨Ph.f⟩
abbrev Ph.ren (φ:Ph) (r:Nat->Nat):Ph:=⟨λi=>φ (r i),φ.z⟩
structure Ph.le (φ φ':Ph):Prop where
 f:∀ i b,φ i=some b->φ' i=some b
 z:∀ b l,φ.z b=some l->φ'.z b=some l
instance {φ φ':Ph}:CoeFun (Ph.le φ φ') λ_=>∀ i b,φ i=some b->φ' i=some b:=⟨Ph.le.f⟩
theorem Ph.le_refl (φ:Ph):φ.le φ:=⟨λ_ _ h=>h,λ_ _ h=>h⟩
def mf (op:BinOp) (k:IntKind) (x y:Int):Int:=
 match op with
 | .and=>k.wrap (BitVec.ofInt k.bits x&&&BitVec.ofInt k.bits y).toNat
 | .or=>k.wrap (BitVec.ofInt k.bits x|||BitVec.ofInt k.bits y).toNat
 | .xor=>k.wrap (BitVec.ofInt k.bits x^^^BitVec.ofInt k.bits y).toNat
 |_=>k.wrap (BitVec.ofInt k.bits x&&&~~~(BitVec.ofInt k.bits y)).toNat
inductive Tm where
 |v (i:Nat)
 |c (z:Nat)
 |bin (o:BinOp) (k:IntKind) (a b:Tm)
def DZ (z:Int):Option Nat:=match z with| .ofNat n=>some n| .negSucc _=>none
def tmE (o:BinOp) (k:IntKind) (a b:Int):Option Int:=
 match o with
 | .add=>some (k.wrap (a+b))
 | .sub=>some (k.wrap (a-b))
 | .mul=>some (k.wrap (a*b))
 | .rem=>some (a.tmod b)
 | .and=>some (mf .and k a b)
 | .or=>some (mf .or k a b)
 | .xor=>some (mf .xor k a b)
 | .andNot=>some (mf .andNot k a b)
 |_=>none
def ev1:Option (Nat×Nat)->Option Nat
 |some (z,0)=>some z
 |_=>none
def ev2 (o:BinOp) (k:IntKind):Option Nat->Option Nat->Option Nat
 |some x,some y=>(tmE o k ((x:Nat):Int) ((y:Nat):Int)).bind DZ
 |_,_=>none
def Tm.ev (φ:Ph):Tm->Option Nat
 | .v i=>ev1 (φ i)
 | .c z=>some z
 | .bin o k a b=>ev2 o k (a.ev φ) (b.ev φ)
def Tm.lt (n:Nat):Tm->Bool
 | .v i=>Nat.blt i n
 | .c _=>true
 | .bin _ _ a b=>a.lt n&&b.lt n
def Tm.ren (r:Nat->Nat):Tm->Tm
 | .v i=> .v (r i)
 | .c z=> .c z
 | .bin o k a b=> .bin o k (a.ren r) (b.ren r)
theorem EY {x:Option (Nat×Nat)} {z:Nat} (h:ev1 x=some z):x=some (z,0):=by
 unfold ev1 at h;split at h
 all_goals grind
theorem EX {o:BinOp} {k:IntKind} {x y:Option Nat} {z:Nat} (h:ev2 o k x y=some z):∃ a b,x=some a/\y=some b/\(tmE o k ((a:Nat):Int) ((b:Nat):Int)).bind DZ=some z:=by
 unfold ev2 at h;split at h
 all_goals grind
theorem Tm.ev_mono {φ φ':Ph} (hl:φ.le φ'):∀ {t:Tm} {z:Nat},t.ev φ=some z->t.ev φ'=some z
 | .v i,z,h=>by
   have:=EY h;simp only[Tm.ev,hl _ _ this];rfl
 | .c _,z,h=>h
 | .bin o k a b,z,h=>by
   obtain⟨x,y,hx,hy,he⟩:=EX h;simp only[Tm.ev,Tm.ev_mono hl hx,Tm.ev_mono hl hy];exact he
theorem Tm.ev_ren {φ:Ph} {r:Nat->Nat}:∀ {t:Tm},(t.ren r).ev φ=t.ev (φ.ren r)
 | .v i=>rfl
 | .c _=>rfl
 | .bin o k a b=>by simp only[Tm.ren,Tm.ev,Tm.ev_ren]
structure Kn where
 lo:Nat
 hi:Nat
 m:Option (Nat×Nat):=none
def Kn.ok (K:Kn) (z:Nat):Prop:=K.lo<=z/\z<=K.hi/\∀ d r,K.m=some (d,r)->z%d=r
inductive S where
 |unk
 |bool (b:Bool)
 |int (k:IntKind) (n:Int)
 |str (l:List UInt8)
 |ptr (a:Option (Nat×Nat))
 |slc (a:Option (Nat×Nat)) (len:Nat) (cap:Option Nat)
 /--a slice from block i's begin on,of n elements;its capacity is what the number g stands for -/
 |sla (i g n:Nat)
 /--a slice of no element and no room that is not nil -/
 |emp
 /--nothing is known,not even that it is one cell -/
 |junk
 /--a map:nil,or the one that the number stands for -/
 |map (a:Option Nat)
 /--a function by its number,with nothing bound -/
 |fn (f:Nat)
 /--a place in a block that is known itself -/
 |gp (g o:Nat)
 /--an iterator over a map:the block r,whose map the number m stands for (m is a hint) -/
 |itr (r m:Nat)
 /--a function with places bound -/
 |clo (f:Nat) (ps:List (Nat×Nat))
 /--an integer that is not looked at:what the term comes to;what is known of it -/
 |opq (k:IntKind) (t:Tm) (K:Kn)
 /--a slice of n elements of sz cells whose block is never written again;the cells of element k are 'get k' -/
 |frz (get:Nat->List S) (sz n:Nat)
 /--a place in such a block:cell j of an element -/
 |fpt (cs:List S) (j:Nat)
 /--a slice of no element that is not nil -/
 |emq
 /--nil if n is 0,else as_ sla -/
 |row (i g n:Nat)
 /--one value,as_ it is -/
 |cst (v:Value)
def GS:Nat->Option (List S):=fun
 |1=>some [.str [83,99,111,112,101],.str [110,68],.str [68,101,118,105,99,101],.str [115,68],.str [80,111,119,101,114,82,101,115,111,117,114,99,101],.str [115,105,105,68],.str [78,97,109,101],.str [115,100],.str [77,101,116,104,111,100],.str [115,105,105,105,83],.str [79,112,101,114,97,116,105,111,110,82,101,103,105,111,110],.str [115,105,105,105],.str [70,105,101,108,100],.str [110,105,105,70],.str [73,110,100,101,120,70,105,101,108,100],.str [110,110,105,105,70],.str [85,110,105,116],.str [115,105],.str [83,107,105,112],.str [105],.str [77,117,116,101,120],.str [115,105],.str [69,118,101,110,116],.str [115]]
 |2=>some [.str [83,116,111,114,101],.str [101,116],.str [73,102],.str [101,83],.str [87,104,105,108,101],.str [101,83],.str [82,101,116,117,114,110],.str [],.str [66,114,101,97,107],.str [],.str [67,111,110,116,105,110,117,101],.str [],.str [82,101,108,101,97,115,101],.str [110],.str [83,105,103,110,97,108],.str [110],.str [82,101,115,101,116],.str [110],.str [83,108,101,101,112],.str [101],.str [78,111,116,105,102,121],.str [110,101],.str [65,99,113,117,105,114,101],.str [110,105],.str [87,97,105,116],.str [110,101]]
 |3=>some [.str [65,100,100],.str [101,101],.str [83,117,98,116,114,97,99,116],.str [101,101],.str [77,117,108,116,105,112,108,121],.str [101,101],.str [68,105,118,105,100,101],.str [101,101],.str [77,111,100],.str [101,101],.str [65,110,100],.str [101,101],.str [79,114],.str [101,101],.str [88,111,114],.str [101,101],.str [83,104,105,102,116,76,101,102,116],.str [101,101],.str [83,104,105,102,116,82,105,103,104,116],.str [101,101],.str [76,65,110,100],.str [101,101],.str [76,79,114],.str [101,101],.str [76,69,113,117,97,108],.str [101,101],.str [76,76,101,115,115],.str [101,101],.str [76,71,114,101,97,116,101,114],.str [101,101],.str [67,111,110,99,97,116,101,110,97,116,101],.str [101,101],.str [73,110,100,101,120],.str [101,101],.str [78,111,116],.str [101],.str [76,78,111,116],.str [101],.str [83,105,122,101,79,102],.str [101],.str [84,111,73,110,116,101,103,101,114],.str [101],.str [84,111,66,117,102,102,101,114],.str [101],.str [84,111,72,101,120,83,116,114,105,110,103],.str [101],.str [84,111,68,101,99,105,109,97,108,83,116,114,105,110,103],.str [101],.str [68,101,114,101,102,79,102],.str [101],.str [82,101,102,79,102],.str [116],.str [67,111,110,100,82,101,102,79,102],.str [110],.str [79,98,106,101,99,116,84,121,112,101],.str [116],.str [77,105,100],.str [101,101,101]]
 |_=>none
inductive U where
 |s (x:S)
 |agg (l:List S)
inductive V where
 |any
 |undef
 |s (x:S)
 |agg (l:List S)
 |tup (l:List U)
 /--a slice of m elements of sz cells,from the element k on,of the slice over block i with the capacity g -/
 |w (i g sz k m:Nat)
def gu:Value->Bool
 | .agg _=>false
 | .tuple _=>false
 |_=>true
inductive Pr (z:Nat->Option (List Value)):S->Value->Prop
 |bool (b:Bool):Pr z (.bool b) (.bool b)
 |int (k:IntKind) (n:Int):Pr z (.int k n) (.int k n)
 |str (l:List UInt8):Pr z (.str l) (.string ⟨l.toArray⟩)
 |unk (v:Value) (h:gu v=true):Pr z .unk v
 |cst (v:Value) (h:gu v=true):Pr z (.cst v) v
 |nil (get:Nat->List S) (sz:Nat) (a:Option Addr) (k:Nat) (hk:a=none->k=0):Pr z (.frz get sz 0) (.slice a 0 k)
 |frz (get:Nat->List S) (sz n b o k:Nat) (vs:List Value) (hz:z b=some vs) (hn:n<=k) (val:Nat->Nat->Value)
  (hl:∀ i,i<n->(get i).length=sz) (hv:∀ i j x,i<n->(get i)[j]? =some x->vs[o+(i*sz+j)]? =some (val i j)) (hx:∀ i j x,i<n->(get i)[j]? =some x->Pr z x (val i j)):
  Pr z (.frz get sz n) (.slice (some ⟨b,o,none⟩) n k)
theorem Pr.mono {z':Nat->Option (List Value)} (hz:∀ b l,z b=some l->z' b=some l) {x:S} (h:Pr z x v):Pr z' x v:=by
 induction h with
 |bool b=>exact .bool b
 |int k n=>exact .int k n
 |str l=>exact .str l
 |unk v h=>exact .unk v h
 |cst v h=>exact .cst v h
 |nil get sz a k hk=>exact .nil get sz a k hk
 |frz get sz n b o k vs h1 hn val hl hv hx ih=>exact .frz get sz n b o k vs (hz _ _ h1) hn val hl hv ih
def GzOK (z:Nat->Option (List Value)):Prop:=∀ g cs,GS g=some cs->∃ vs,z g=some vs/\All2 (Pr z) cs vs
theorem GzOK.mono {z':Nat->Option (List Value)} (hz:∀ b l,z b=some l->z' b=some l) (h:GzOK z):GzOK z':=λg cs hg=>by
 obtain⟨vs,h1,h2⟩:=h g cs hg;exact⟨vs,hz _ _ h1,h2.mono λ_ _=>Pr.mono hz⟩
theorem Pr.cell {x:S} (h:Pr z x v):gu v=true:=by
 cases h<;>first|rfl|assumption
def PtrR (φ:Ph) (p:Nat×Nat) (v:Value):Prop:=∃ b,φ p.1=some b/\v=.pointer (some ⟨b.1,p.2+b.2,none⟩)
theorem PtrR.mono {φ φ':Ph} (hl:φ.le φ') {p:Nat×Nat} (h:PtrR φ p v):PtrR φ' p v:=by obtain⟨b,hb,hv⟩:=h;exact⟨b,hl _ _ hb,hv⟩
def Sr (φ:Ph):S->Value->Prop
 | .unk,v=>gu v=true
 | .cst u,v=>v=u/\gu v=true
 | .bool b,v=>v=.bool b
 | .int k n,v=>v=.int k n
 | .str l,v=>v=.string ⟨l.toArray⟩
 | .ptr none,v=>v=.pointer none
 | .ptr (some (i,o)),v=>∃ b,φ i=some b/\v=.pointer (some ⟨b.1,o+b.2,none⟩)
 | .slc none n c,v=>n=0/\c=some 0/\v=.slice none 0 0
 | .slc (some (i,o)) n c,v=>∃ b k,φ i=some b/\v=.slice (some ⟨b.1,o+b.2,none⟩) n k/\n<=k/\(c=none\/c=some k)
 | .sla i g n,v=>∃ b k,φ i=some b/\φ g=some (k,0)/\v=.slice (some ⟨b.1,b.2,none⟩) n k/\n<=k
 | .emp,v=>∃ a,v=.slice (some a) 0 0
 | .emq,v=>∃ a k,v=.slice (some a) 0 k
 | .junk,_=>True
 | .map none,v=>v=.map none
 | .map (some i),v=>∃ b,φ i=some b/\b.2=0/\v=.map (some b.1)
 | .fn f,v=>v=.func (.func f) #[] #[]
 | .gp g o,v=>v=.pointer (some ⟨g,o,none⟩)
 | .itr r _,v=>∃ b,φ r=some b/\b.2=0/\v=.pointer (some ⟨b.1,0,none⟩)
 | .clo f ps,v=>∃ vs:List Value,v=.func (.func f) #[] vs.toArray/\All2 (PtrR φ) ps vs
 | .opq k t K,v=>∃ z,t.ev φ=some z/\K.ok z/\v=.int k ((z:Nat):Int)
 | .frz get sz n,v=>Pr φ.z (.frz get sz n) v
 | .fpt cs j,v=>∃ (b o:Nat) (vs:List Value),φ.z b=some vs/\v=.pointer (some ⟨b,o+j,none⟩)/\∀ i x,cs[i]? =some x->∃ y,vs[o+i]? =some y/\Pr φ.z x y
 | .row i g n,v=>(n=0/\v=.slice none 0 0)\/(0<n/\∃ b k,φ i=some b/\φ g=some (k,0)/\v=.slice (some ⟨b.1,b.2,none⟩) n k/\n<=k)
def Az:S->Bool
 | .junk=>true
 |_=>false
theorem Sr.cell {φ:Ph} {x:S} (h:Sr φ x v) (hj:Az x=false):gu v=true:=by
 cases x with
 |junk=>cases hj
 |emp=>obtain⟨a,h⟩:=h;subst h;rfl
 |emq=>obtain⟨a,k,h⟩:=h;subst h;rfl
 |map a=>
  rcases a with _|i
  ·simp only[Sr] at h;subst h;rfl
  ·obtain⟨b,_,_,h⟩:=h;subst h;rfl
 |fn f=>simp only[Sr] at h;subst h;rfl
 |gp g o=>simp only[Sr] at h;subst h;rfl
 |itr r m=>obtain⟨b,_,_,h⟩:=h;subst h;rfl
 |clo f ps=>obtain⟨vs,h,_⟩:=h;subst h;rfl
 |opq k t K=>obtain⟨z,_,_,h⟩:=h;subst h;rfl
 |frz get sz n=>exact Pr.cell h
 |fpt cs j=>obtain⟨b,o,vs,_,h,_⟩:=h;subst h;rfl
 |row i g n=>rcases h with ⟨_,h⟩|⟨_,b,k,_,_,h,_⟩<;>(subst h;rfl)
 |sla i g n=>obtain⟨b,k,_,_,h,_⟩:=h;subst h;rfl
 |unk=>exact h
 |cst u=>exact h.2
 |bool b=>simp[Sr] at h;subst h;rfl
 |int k n=>simp[Sr] at h;subst h;rfl
 |str l=>simp[Sr] at h;subst h;rfl
 |ptr a=>
  rcases a with _|⟨i,o⟩
  ·simp only[Sr] at h;subst h;rfl
  ·obtain⟨b,_,h⟩:=h;subst h;rfl
 |slc a n c=>
  rcases a with _|⟨i,o⟩
  ·obtain⟨_,_,h⟩:=h;subst h;rfl
  ·obtain⟨b,k,_,h,_⟩:=h;subst h;rfl
theorem Sr.mono {φ φ':Ph} (hl:φ.le φ') {x:S} (h:Sr φ x v):Sr φ' x v:=by
 cases x with
 |unk|bool|int|str|junk|emp|emq|fn|gp|cst=>exact h
 |sla i g n=>obtain⟨b,k,hb,hg,hv⟩:=h;exact⟨b,k,hl _ _ hb,hl _ _ hg,hv⟩
 |map a=>
  rcases a with _|i
  ·exact h
  ·obtain⟨b,hb,hv⟩:=h;exact⟨b,hl _ _ hb,hv⟩
 |itr r m=>obtain⟨b,hb,hv⟩:=h;exact⟨b,hl _ _ hb,hv⟩
 |clo f ps=>obtain⟨vs,hv,ha⟩:=h;exact⟨vs,hv,ha.mono λ_ _=>PtrR.mono hl⟩
 |opq k t K=>obtain⟨z,hb,hv⟩:=h;exact⟨z,Tm.ev_mono hl hb,hv⟩
 |frz get sz n=>exact Pr.mono hl.z h
 |fpt cs j=>obtain⟨b,o,vs,hz,hv,hx⟩:=h;exact⟨b,o,vs,hl.z _ _ hz,hv,λi x hi=>by obtain⟨y,hy,hp⟩:=hx i x hi;exact⟨y,hy,hp.mono hl.z⟩⟩
 |row i g n=>
  rcases h with h|⟨hn,b,k,hb,hg,hv⟩
  ·exact .inl h
  ·exact .inr ⟨hn,b,k,hl _ _ hb,hl _ _ hg,hv⟩
 |ptr a=>
  rcases a with _|⟨i,o⟩
  ·exact h
  ·obtain⟨b,hb,hv⟩:=h;exact⟨b,hl _ _ hb,hv⟩
 |slc a n c=>
  rcases a with _|⟨i,o⟩
  ·exact h
  ·obtain⟨b,k,hb,hv⟩:=h;exact⟨b,k,hl _ _ hb,hv⟩
def Ur (φ:Ph):U->Value->Prop
 | .s x,v=>Sr φ x v
 | .agg l,v=>∃ xs:List Value,v=.agg xs.toArray/\All2 (Sr φ) l xs
def Vr (φ:Ph):V->Value->Prop
 | .any,_=>True
 | .undef,v=>v=Go.undef
 | .s x,v=>Sr φ x v
 | .agg l,v=>∃ xs:List Value,v=.agg xs.toArray/\All2 (Sr φ) l xs
 | .tup l,v=>∃ xs:List Value,v=.tuple xs.toArray/\All2 (Ur φ) l xs
 | .w i g sz k m,v=>∃ b c,φ i=some b/\φ g=some (c,0)/\v=.slice (some ⟨b.1,if c=k then b.2 else b.2+k*sz,none⟩) m (c-k)/\k+m<=c
theorem Ur.mono {φ φ':Ph} (hl:φ.le φ') {x:U} (h:Ur φ x v):Ur φ' x v:=by
 cases x with
 |s x=>exact Sr.mono hl h
 |agg l=>obtain⟨xs,hv,ha⟩:=h;exact⟨xs,hv,ha.mono λ_ _=>Sr.mono hl⟩
theorem Vr.mono {φ φ':Ph} (hl:φ.le φ') {x:V} (h:Vr φ x v):Vr φ' x v:=by
 cases x with
 |any=>trivial
 |undef=>exact h
 |s x=>exact Sr.mono hl h
 |agg l=>obtain⟨xs,hv,ha⟩:=h;exact⟨xs,hv,ha.mono λ_ _=>Sr.mono hl⟩
 |tup l=>obtain⟨xs,hv,ha⟩:=h;exact⟨xs,hv,ha.mono λ_ _=>Ur.mono hl⟩
 |w i g sz k m=>obtain⟨b,c,hb,hg,hv⟩:=h;exact⟨b,c,hl _ _ hb,hl _ _ hg,hv⟩
structure MapK where
 w:Nat
 agg:Bool
 born:List Nat
 clock:Nat
 /--an iterator:w since when,born what it has seen,clock when it last stepped;its one cell is the map -/
 it:Bool:=false
def L7:List Value->Option Nat
 | .map r::_=>r
 |_=>none
def yP (agg:Bool) (w:Nat):List Nat->List Value->List MapEntry
 |b::bs,k::t=>{key:=k,val:=(match agg with|true=> .agg (t.take w).toArray|false=>(t.take w).headD default),born:=b}::yP agg w bs (t.drop w)
 |_,_=>[]
def di:Option MapK->List Value->TypeId->Nat×Nat->Obj
 |none,l,ty,fr=> .cells l.toArray ty fr
 |some m,l,_,_=>match m.it with|false=> .map (yP m.agg m.w m.born l).toArray m.clock|true=> .mapIter (L7 l) m.w m.born.toArray m.clock
structure Bl where
 cells:List S
 ty:TypeId
 more:Bool:=false
 ro:Bool:=false
 sym:Bool:=false
 flat:Bool:=false
 gh:Option (Nat×Nat):=none
 kind:Option MapK:=none
 /--the block itself,where it is known:a package variable's -/
 abs:Option Nat:=none
def Bl.ph (bl:Bl) (φ:Ph):Ph:=match bl.flat with|true=>⟨λ_=>none,φ.z⟩|false=>φ
theorem Bl.ph_le (bl:Bl) {φ φ':Ph} (h:φ.le φ'):(bl.ph φ).le (bl.ph φ'):=by
 unfold Bl.ph;cases bl.flat
 ·exact h
 ·exact⟨λ_ _ h=>h,h.z⟩
theorem Bl.ph_le_self (bl:Bl) (φ:Ph):(bl.ph φ).le φ:=by
 unfold Bl.ph;cases bl.flat
 ·exact Ph.le_refl _
 ·exact⟨λi b h=>(by cases h),λ_ _ h=>h⟩
theorem Bl.ph_z (bl:Bl) (φ:Ph):(bl.ph φ).z=φ.z:=by unfold Bl.ph;cases bl.flat<;>rfl
def BlAt (φ:Ph) (w:World) (b:Nat×Nat) (bl:Bl):Prop:=
 ∃ (pre xs rest:List Value) (fr:Nat×Nat),w.heap[b.1]? =some (di bl.kind (pre++(xs++rest)) bl.ty fr)/\pre.length=b.2/\All2 (Sr (bl.ph φ)) bl.cells xs/\
   (bl.more=false->rest=[])/\(bl.ro=false->∀ o,o<(pre++(xs++rest)).length->(fr.1<=o&&o<fr.2)=false)/\
   ((∀ g z,bl.gh=some (g,z)->∃ k,φ g=some (k,0)/\k*z<=(xs++rest).length)/\(∀ g,bl.abs=some g->b=(g,0)))
theorem BlAt.mono {φ φ':Ph} (hl:φ.le φ') {w':World} {b:Nat×Nat} {bl:Bl} (hw:w'.heap[b.1]? =w.heap[b.1]?) (h:BlAt φ w b bl):BlAt φ' w' b bl:=by
 obtain⟨pre,xs,rest,fr,h1,hp,h2,h3,h4,h5⟩:=h;exact⟨pre,xs,rest,fr,hw▸h1,hp,h2.mono λ_ _=>Sr.mono (bl.ph_le hl),h3,h4,λg z e=>by obtain⟨k,hk,hz⟩:=h5.1 g z e;exact⟨k,hl _ _ hk,hz⟩,h5.2⟩
theorem BlAt.lt {φ:Ph} {b:Nat×Nat} {bl:Bl} (h:BlAt φ w b bl):b.1<w.heap.size:=by
 obtain⟨pre,xs,rest,fr,h1,_⟩:=h
 grind
abbrev Hp:=List (Nat×Option Bl)
def lk:Hp->Nat->Option Bl
 |[],_=>none
 |(j,b)::t,i=>match Nat.beq j i with|true=>b|false=>lk t i
def put:Hp->Nat->Option Bl->Hp
 |[],i,b=>[(i,b)]
 |(j,c)::t,i,b=>match Nat.beq j i with|true=>(j,b)::t|false=>(j,c)::put t i b
def aA:Hp->Hp->Hp
 |L,[]=>L
 |L,(i,b)::r=>aA (put L i b) r
theorem nC {j i:Nat} (h: ¬j=i):Nat.beq j i=false:=by
 cases e:Nat.beq j i with
 |false=>rfl
 |true=>exact absurd (Z0q e) h
theorem aY (j:Nat) (b:Option Bl) (t:Hp) (i:Nat):lk ((j,b)::t) i=if j=i then b else lk t i:=by
 simp only[lk];by_cases h:j=i
 ·simp[h]
 ·simp[h,nC h]
theorem aC (L:Hp) (i:Nat) (b:Option Bl) (j:Nat):lk (put L i b) j=if i=j then b else lk L j:=by
 induction L with
 |nil=>simp[put,aY,lk]
 |cons x t ih=>
  obtain⟨k,c⟩:=x;simp only[put];by_cases h:k=i
  ·subst h
   simp only[Z2n,aY]
   split<;>rfl
  all_goals grind [aY,nC]
def Wr (φ:Ph) (L:Hp) (b:Nat):Prop:=∃ i bl c,lk L i=some bl/\φ i=some c/\c.1=b/\bl.ro=false
structure Good (φ:Ph) (L:Hp) (w:World):Prop where
 hr:∀ i bl,lk L i=some bl->∃ b,φ i=some b/\BlAt φ w b bl
 inj:∀ i j bl bl' b b',lk L i=some bl->lk L j=some bl'->φ i=some b->φ j=some b'->b.1=b'.1->i=j\/(bl.ro=true/\bl'.ro=true)
 fz:∀ b l,φ.z b=some l->(∃ ty fr,w.heap[b]? =some (.cells l.toArray ty fr))/\ ¬Wr φ L b
 gz:GzOK φ.z
theorem Good.fzlt {φ:Ph} {L:Hp} (h:Good φ L w) {l:List Value} (hb:φ.z b=some l):b<w.heap.size:=by
 obtain⟨⟨ty,fr,e⟩,_⟩:=h.fz b l hb
 grind
structure Stp (φ:Ph) (L:Hp) (w:World) (φ':Ph) (L':Hp) (w':World):Prop where
 os:w'.os=w.os
 tape:w'.tape=w.tape
 output:w'.output=w.output
 size:w.heap.size<=w'.heap.size
 keep:∀ b,b<w.heap.size-> ¬Wr φ L b->w'.heap[b]? =w.heap[b]?
 fresh:∀ j bl b,lk L' j=some bl->φ' j=some b->b.1<w.heap.size->∃ k bl' c,lk L k=some bl'/\φ k=some c/\c.1=b.1/\(bl'.ro=true->bl.ro=true)/\(k=j\/bl'.ro=false)
 zle:∀ b l,φ.z b=some l->φ'.z b=some l
 zfr:∀ b l,φ'.z b=some l->φ.z b=some l\/w.heap.size<=b\/Wr φ L b
theorem Stp.refl (φ:Ph) (L:Hp) (w:World):Stp φ L w φ L w:=
 ⟨rfl,rfl,rfl,Z02 _,λ_ _ _=>rfl,λj bl b h hb _=>⟨j,bl,b,h,hb,rfl,id,.inl rfl⟩,λ_ _ h=>h,λ_ _ h=> .inl h⟩
theorem Stp.wr_back {φ φ₁:Ph} {L L₁:Hp} {w₁:World} (h:Stp φ L w φ₁ L₁ w₁) (hb:b<w.heap.size) (hw:Wr φ₁ L₁ b):Wr φ L b:=by
 obtain⟨i,bl,c,hi,hp,rfl,hro⟩:=hw;obtain⟨j,bl',c',hj,hpj,hc,hr,_⟩:=h.fresh i bl c hi hp hb;exact⟨j,bl',c',hj,hpj,hc,by cases e:bl'.ro with|false=>rfl|true=>rw[hr e] at hro;exact hro⟩
theorem Stp.trans {φ φ₁ φ₂:Ph} {L L₁ L₂:Hp} {w₁ w₂:World} (h:Stp φ L w φ₁ L₁ w₁) (k:Stp φ₁ L₁ w₁ φ₂ L₂ w₂):Stp φ L w φ₂ L₂ w₂ where
 os:=k.os.trans h.os
 tape:=k.tape.trans h.tape
 output:=k.output.trans h.output
 size:=Z1z h.size k.size
 keep b hb hn:=by
  rw[k.keep b (Z3w hb h.size) (λhw=>hn (h.wr_back hb hw)),h.keep b hb hn]
 fresh j bl b hj hp hb:=by
  obtain⟨i,bl',c,hi,hpi,hc,hr,ho⟩:=k.fresh j bl b hj hp (Z3w hb h.size)
  grind [h.fresh]
 zle b l hb:=k.zle b l (h.zle b l hb)
 zfr b l hb:=by
  rcases k.zfr b l hb with h1|h1|h1
  ·exact h.zfr b l h1
  ·exact .inr (.inl (Z1z h.size h1))
  ·rcases Z0a b w.heap.size with hlt|hge
   ·exact .inr (.inr (h.wr_back hlt h1))
   all_goals grind
def xy (L M:Hp):Prop:=∀ i bl,lk L i=some bl->lk M i=some bl
theorem Wr.sub {φ:Ph} {L M:Hp} (hs:xy L M) (h:Wr φ L b):Wr φ M b:=by
 obtain⟨i,bl,c,hi,h⟩:=h;exact⟨i,bl,c,hs i bl hi,h⟩
theorem Good.sub {φ:Ph} {L M:Hp} (h:Good φ M w) (hs:xy L M):Good φ L w:=
 ⟨λi bl hi=>h.hr i bl (hs i bl hi),λi j bl bl' b b' hi hj=>h.inj i j bl bl' b b' (hs i bl hi) (hs j bl' hj),λb l hb=>⟨(h.fz b l hb).1,λhw=>(h.fz b l hb).2 (hw.sub hs)⟩,h.gz⟩
theorem frame {φ φ':Ph} {L L' M M':Hp} {w':World} (hM:Good φ M w) (hs:xy L M) (h':Good φ' L' w') (st:Stp φ L w φ' L' w') (hl:φ.le φ')
 (hM':∀ i bl,lk M' i=some bl->lk L' i=some bl\/(lk L i=none/\lk M i=some bl)):Good φ' M' w'/\Stp φ M w φ' M' w':=by
 have out:∀ i bl,lk L i=none->lk M i=some bl->∃ b,φ i=some b/\b.1<w.heap.size/\ ¬Wr φ L b.1/\BlAt φ w b bl:=by
  intro i bl hn hm;obtain⟨b,hb,hat⟩:=hM.hr i bl hm;refine⟨b,hb,hat.lt,?_,hat⟩;rintro⟨j,bl',c,hj,hpj,hc,hro⟩
  rcases hM.inj i j bl bl' b c hm (hs j bl' hj) hb hpj hc.symm with rfl|⟨_,e⟩
  all_goals grind
 have cross:∀ i j bl bl' b b',lk L i=none->lk M i=some bl->φ i=some b->lk L' j=some bl'->φ' j=some b'->b.1=b'.1->bl.ro=true/\bl'.ro=true:=by
  intro i j bl bl' b b' hn hm hb hj hpj hbb;obtain⟨b₀,hb₀,hlt,hnw,_⟩:=out i bl hn hm;rw[hb] at hb₀;cases hb₀;obtain⟨k,bk,c,hk,hpk,hc,hr,_⟩:=st.fresh j bl' b' hj hpj (hbb▸hlt)
  rcases hM.inj i k bl bk b c hm (hs k bk hk) hb hpk (hbb.trans hc.symm) with rfl|⟨e1,e2⟩
  all_goals grind
 have hlt:∀ b l,φ'.z b=some l->∀ i bl c,lk L i=none->lk M i=some bl->φ' i=some c->c.1=b->bl.ro=false->False:=by
  intro b l hb i bl c hn hm hc hcb hro;obtain⟨b₁,hb₁,hlt₁,hnw,_⟩:=out i bl hn hm;have e:=hl _ _ hb₁;rw[hc] at e;cases e;subst hcb
  rcases st.zfr _ l hb with h|h|h
  ·exact (hM.fz _ l h).2 ⟨i,bl,c,hm,hb₁,rfl,hro⟩
  all_goals grind
 refine⟨⟨λi bl hi=>?_,λi j bl bl' b b' hi hj hb hb' hbb=>?_,λb l hb=>⟨(h'.fz b l hb).1,?_⟩,h'.gz⟩,⟨st.os,st.tape,st.output,st.size,λb hb hn=>?_,λj bl b hj hp hb=>?_,st.zle,λb l hb=>?_⟩⟩
 rotate_left 2
 ·rintro⟨i,bl,c,hi,hc,hcb,hro⟩
  rcases hM' i bl hi with h|⟨hn,hm⟩
  ·exact (h'.fz b l hb).2 ⟨i,bl,c,h,hc,hcb,hro⟩
  all_goals grind
 rotate_left 2
 ·rcases st.zfr b l hb with h|h|h
  ·exact .inl h
  ·grind
  ·exact .inr (.inr (h.sub hs))
 ·rcases hM' i bl hi with h|⟨hn,hm⟩
  ·exact h'.hr i bl h
  ·obtain⟨b,hb,hlt,hnw,hat⟩:=out i bl hn hm
   exact⟨b,hl _ _ hb,hat.mono hl (st.keep b.1 hlt hnw)⟩
 ·rcases hM' i bl hi with h|⟨hn,hm⟩<;>rcases hM' j bl' hj with k|⟨kn,km⟩
  ·grind [h'.inj]
  ·obtain⟨b₂,hb₂,_⟩:=out j bl' kn km
   have e:=hl _ _ hb₂;rw[hb'] at e;cases e
   grind
  ·obtain⟨b₁,hb₁,_⟩:=out i bl hn hm
   have e:=hl _ _ hb₁;rw[hb] at e;cases e
   grind
  ·obtain⟨b₁,hb₁,_⟩:=out i bl hn hm
   obtain⟨b₂,hb₂,_⟩:=out j bl' kn km;have e:=hl _ _ hb₁;rw[hb] at e;cases e;have e:=hl _ _ hb₂;rw[hb'] at e;cases e
   grind [hM.inj]
 ·refine st.keep b hb λ⟨i,bl,c,hi,hp,hc,hro⟩=>hn ⟨i,bl,c,hs i bl hi,hp,hc,hro⟩
 ·rcases hM' j bl hj with h|⟨hn,hm⟩
  ·obtain⟨k,bk,c,hk,hpk,hc,hr⟩:=st.fresh j bl b h hp hb
   exact⟨k,bk,c,hs k bk hk,hpk,hc,hr⟩
  ·obtain⟨b₁,hb₁,_⟩:=out j bl hn hm
   have e:=hl _ _ hb₁;rw[hp] at e;cases e
   grind
end
