/-
  The quick machine, part 7: maps; zeros appended.
-/
import Derived.Test.YtgbkllbaojkfmaaGreatDoorKf
import Derived.MapKept
set_option linter.unusedSimpArgs false
set_option linter.unusedVariables false
namespace Go.Proofs.YtgbkllbaojkfmaaGreatDoor
namespace Ab
open Go
set_option maxRecDepth 100000

/-! ### maps whose keys are integers or strings -/
def keyOK (d : TypeDesc) (x : S) : Bool :=
  match d, x with
  | .int k, .int k' _ => kEq k k'
  | .string, .str _ => true
  | _, _ => false
def sameK (a b : S) : Option Bool :=
  match a, b with
  | .int k x, .int k' y => match kEq k k' with | true => some (eqI x y) | false => none
  | .str x, .str y => some (eqB x y)
  | _, _ => none
def findK (key : S) (w : Nat) : List Nat → List S → Nat → Option (Option (Nat × List S))
  | _ :: bs, k :: t, i =>
    match Nat.ble w t.length with
    | true =>
      match sameK key k with
      | some true => some (some (i, t.take w))
      | some false => findK key w bs (t.drop w) (Nat.succ i)
      | none => none
    | false => none
  | [], [], _ => some none
  | _, _, _ => none
def valOf (agg : Bool) (l : List S) : Option V := match agg with | true => some (.agg l) | false => match l with | [x] => (match isJ x with | false => some (.s x) | true => none) | _ => none
def withOk (commaOk : Bool) (v : V) (ok : Bool) : Option V :=
  match commaOk with
  | false => some v
  | true => match toU v with | some u => some (.tup [u, .s (.bool ok)]) | none => none

def zeroIs (P : Program) (t : TypeId) (ag : Bool) : Bool :=
  match P.info? t with
  | some i => match i.zero with | some v => (match v with | .agg _ => ag | .tuple _ => false | _ => notB ag) | none => false
  | none => false
def kLookup (P : Program) (n : Nat) (L : Hp) (t : TypeId) (x ix : V) (commaOk : Bool) : Option R :=
  match P.underlying t with
  | some (.map kt et) =>
    match P.underlying kt, tyS P et, zeroOf P et with
    | some d, some (ag, sz), some zs =>
      match ix with
      | .s key =>
        match keyOK d key && zeroIs P et ag with
        | true =>
          match x with
          | .s (.map none) => match valOf ag zs with | some v => (match withOk commaOk v false with | some v => some ⟨[], v, [], n⟩ | none => none) | none => none
          | .s (.map (some i)) =>
            match lk L i with
            | some bl =>
              match bl.kind with
              | some m =>
                match (m.agg == ag) && Nat.beq m.w sz && notB bl.more && notB m.it with
                | true =>
                  match findK key sz m.born bl.cells 0 with
                  | some none => match valOf ag zs with | some v => (match withOk commaOk v false with | some v => some ⟨[i], v, [], n⟩ | none => none) | none => none
                  | some (some (_, l)) => match valOf ag l with | some v => (match withOk commaOk v true with | some v => some ⟨[i], v, [], n⟩ | none => none) | none => none
                  | none => none
                | false => none
              | none => none
            | none => none
          | _ => none
        | false => none
      | _ => none
    | _, _, _ => none
  | _ => none

def kMapUp (P : Program) (n : Nat) (L : Hp) (t : TypeId) (x ix y : V) : Option R :=
  match P.underlying t with
  | some (.map kt et) =>
    match P.underlying kt, tyS P et with
    | some d, some (ag, sz) =>
      match ix, x, cellsOf y with
      | .s key, .s (.map (some i)), some l =>
        match lk L i with
        | some bl =>
          match bl.kind with
          | some m =>
            match keyOK d key && (m.agg == ag) && Nat.beq m.w sz && notB bl.more && notB bl.ro && notB bl.flat && Nat.beq l.length sz && (match y with | .agg _ => ag | _ => notB ag) && l.all nJ && bl.gh.isNone && notB m.it with
            | true =>
              match findK key sz m.born bl.cells 0 with
              | some none => frc (bl.cells ++ (key :: l)) [] fun cs => frc (m.born ++ [m.clock]) [] fun born => some ⟨[i], .undef, [(i, some { bl with cells := cs, kind := some ⟨m.w, m.agg, born, m.clock + 1, false⟩ })], n⟩
              | some (some (j, _)) => frc (setL bl.cells (j * (sz + 1)) (key :: l)) [] fun cs => some ⟨[i], .undef, [(i, some { bl with cells := cs })], n⟩
              | none => none
            | false => none
          | none => none
        | none => none
      | _, _, _ => none
    | _, _ => none
  | _ => none

def kMakeMap (P : Program) (n : Nat) (t : TypeId) (r : Option V) : Option R :=
  match P.underlying t with
  | some (.map kt et) =>
    match tyS P et, (match r with | none => true | some _ => false) with
    | some (ag, sz), true => some ⟨[], .s (.map (some n)), [(n, some { cells := [], ty := 0, kind := some ⟨sz, ag, [], 0, false⟩ })], n + 1⟩
    | _, _ => none
  | _ => none

/-! ### zeros appended to nil -/
def kAppZ (P : Program) (ts : Array TypeId) (n : Nat) (d x : V) : Option R :=
  match ts[0]?, ts[1]? with
  | some t, some tx =>
    match P.underlying t, P.underlying tx with
    | some (.slice e), some (.int _) =>
      match P.info? e, zeroOf P e with
      | some inf, some zs =>
        match d, x with
        | .s (.slc none _ _), .s (.int _ z) =>
          match natOf z with
          | some m =>
            match Nat.beq inf.size zs.length && Nat.ble 1 m && Nat.ble 1 inf.size && Nat.ble (m * inf.bytes) 140737488355328 && Nat.ble m 140737488355328 with
            | true => frc (rep m zs) [] fun cs => some ⟨[], .s (.sla n (n + 1) m), [(n, some { cells := cs, ty := e, more := true, gh := some (n + 1, inf.size) })], n + 2⟩
            | false => none
          | none => none
        | _, _ => none
      | _, _ => none
    | _, _ => none
  | _, _ => none

/-- len of a map -/
def entN (w : Nat) : List Nat → List S → Nat → Option Nat
  | [], _, k => some k
  | _ :: bs, _ :: t, k => match Nat.ble w t.length with | true => entN w bs (t.drop w) (Nat.succ k) | false => none
  | _ :: _, [], _ => none
def kLenM (P : Program) (ts : Array TypeId) (n : Nat) (L : Hp) (x : V) : Option R :=
  match ts[0]? with
  | some t =>
    match P.underlying t, x with
    | some (.map _ _), .s (.map none) => some ⟨[], .s (.int .i64 0), [], n⟩
    | some (.map _ _), .s (.map (some i)) =>
      match lk L i with
      | some bl =>
        match bl.kind, bl.more with
        | some m, false => (match m.it with | true => none | false => match entN m.w m.born bl.cells 0 with | some k => frcN k fun k => some ⟨[i], .s (.int .i64 (.ofNat k)), [], n⟩ | none => none)
        | _, _ => none
      | none => none
    | _, _ => none
  | none => none

/-! ### iterators -/
def entL (w : Nat) : List Nat → List S → Option (List (Nat × S × List S))
  | [], _ => some []
  | b :: bs, k :: t => match Nat.ble w t.length with | true => (match entL w bs (t.drop w) with | some r => some ((b, k, t.take w) :: r) | none => none) | false => none
  | _ :: _, [] => none
def kRange (P : Program) (n : Nat) (L : Hp) (t : TypeId) (x : V) : Option R :=
  match P.underlying t, x with
  | some (.map _ _), .s (.map none) => some ⟨[], .s (.itr n n), [(n, some { cells := [.map none], ty := 0, kind := some ⟨0, false, [], 0, true⟩ })], n + 1⟩
  | some (.map _ _), .s (.map (some i)) =>
    match lk L i with
    | some bl => match bl.kind with | some m => (match m.it || Nat.beq i n with | false => some ⟨[i], .s (.itr n i), [(n, some { cells := [.map (some i)], ty := 0, kind := some ⟨m.clock, false, [], m.clock, true⟩ })], n + 1⟩ | true => none) | none => none
    | none => none
  | _, _ => none
def okIt (b : Bl) : Bool := notB b.more && notB b.ro && notB b.flat && b.gh.isNone
def unsp (k m : MapK) : Bool := notB (nilB k.born) && notB (nilB m.born) && geAll k.clock m.born
def leftL (seen : List Nat) : List (Nat × S × List S) → List (Nat × S × List S)
  | [] => []
  | e :: t => match seen.elem e.1 with | true => leftL seen t | false => e :: leftL seen t
def tup3 (b : Bool) (x y : V) : Option V := match toU x, toU y with | some u, some v => some (.tup [.s (.bool b), u, v]) | _, _ => none
def tup2 (x y : V) : Option V := match toU x, toU y with | some u, some v => some (.tup [u, v]) | _, _ => none
def kNext (n : Nat) (L : Hp) (x : V) (isString : Bool) : Option R :=
  match isString, x with
  | false, .s (.itr r i) =>
    match lk L r with
    | some b =>
      match b.kind with
      | some k =>
        match k.it && notB b.more, b.cells with
        | true, [.map none] => some ⟨[r], .tup [.s (.bool false)], [], n⟩
        | true, [.map (some j)] =>
          match Nat.beq j i && notB (Nat.beq r i), lk L i with
          | true, some bl =>
            match bl.kind with
            | some m =>
              match notB m.it && notB bl.more && notB (unsp k m), entL m.w m.born bl.cells with
              | true, some es =>
                match leftL k.born es with
                | [] => some ⟨[r, i], .tup [.s (.bool false)], [], n⟩
                | [e] =>
                  match Nat.blt e.1 k.w && okIt b && notB (isJ e.2.1), valOf m.agg e.2.2 with
                  | true, some v => (match tup3 true (.s e.2.1) v with | some u => frc (k.born ++ [e.1]) [] fun born => some ⟨[r, i], u, [(r, some { b with kind := some ⟨k.w, k.agg, born, m.clock, true⟩ })], n⟩ | none => none)
                  | _, _ => none
                | _ => none
              | _, _ => none
            | none => none
          | _, _ => none
        | _, _ => none
      | none => none
    | none => none
  | _, _ => none
def lastN : List Nat → Option Nat
  | [] => none
  | [x] => some x
  | _ :: y :: t => lastN (y :: t)
def findB (s : Nat) : List (Nat × S × List S) → Option (Nat × S × List S)
  | [] => none
  | e :: t => match Nat.beq e.1 s with | true => some e | false => findB s t
def kEntry (n : Nat) (L : Hp) (x : V) : Option R :=
  match x with
  | .s (.itr r i) =>
    match lk L r, lk L i with
    | some b, some bl =>
      match b.kind, bl.kind with
      | some k, some m =>
        match k.it && notB b.more && notB m.it && notB bl.more && Nat.beq m.clock k.clock, b.cells with
        | true, [.map (some j)] =>
          match Nat.beq j i, lastN k.born, entL m.w m.born bl.cells with
          | true, some s, some es =>
            match findB s es with
            | some e =>
              match notB (isJ e.2.1), valOf m.agg e.2.2 with
              | true, some v => (match tup2 (.s e.2.1) v with | some u => some ⟨[r, i], u, [], n⟩ | none => none)
              | _, _ => none
            | none => none
          | _, _, _ => none
        | _, _ => none
      | _, _ => none
    | _, _ => none
  | _ => none
def kDel (P : Program) (ts : Array TypeId) (n : Nat) (L : Hp) (x ix : V) : Option R :=
  match ts[0]? with
  | some t =>
    match P.underlying t with
    | some (.map kt et) =>
      match P.underlying kt, ix, x with
      | some d, .s key, .s (.map (some i)) =>
        match lk L i with
        | some bl =>
          match bl.kind with
          | some m =>
            match keyOK d key && notB m.it && okIt bl && Nat.ble (m.born.length * (m.w + 1)) bl.cells.length with
            | true =>
              match findK key m.w m.born bl.cells 0 with
              | some none => some ⟨[i], .tup [], [(i, some bl)], n⟩
              | some (some (j, _)) => frc (bl.cells.take (j * (m.w + 1)) ++ bl.cells.drop ((j + 1) * (m.w + 1))) [] fun cs => frc (m.born.take j ++ m.born.drop (j + 1)) [] fun born => some ⟨[i], .tup [], [(i, some { bl with cells := cs, kind := some ⟨m.w, m.agg, born, m.clock, false⟩ })], n⟩
              | none => none
            | false => none
          | none => none
        | none => none
      | _, _, _ => none
    | _ => none
  | none => none

def maxI (a b : Int) : Int := match ltI a b with | true => b | false => a
def kMax3 (x y z : V) : Option S :=
  match x, y, z with
  | .s (.int k a), .s (.int _ b), .s (.int _ c) => some (.int k (maxI (maxI a b) c))
  | _, _, _ => none

/-! ### opaque integers -/
def isU (k : IntKind) : Bool := match k with | .u8 => true | .u64 => true | .u32 => true | .u16 => true | _ => false
def maxN (k : IntKind) : Nat :=
  match k with
  | .u8 => 255 | .u16 => 65535 | .u32 => 4294967295 | .u64 => 18446744073709551615
  | .i8 => 127 | .i16 => 32767 | .i32 => 2147483647 | .i64 => 9223372036854775807
def mkO (k : IntKind) (t : Tm) (lo hi : Nat) : Option S := match Nat.beq lo hi with | true => some (.int k (.ofNat lo)) | false => some (.opq k t ⟨lo, hi, none⟩)
def boolO (b : Option Bool) : Option S := match b with | some b => some (.bool b) | none => none
def notO (b : Option Bool) : Option S := match b with | some b => some (.bool (notB b)) | none => none
def ltK (K K' : Kn) : Option Bool := match Nat.blt K.hi K'.lo with | true => some true | false => match Nat.ble K'.hi K.lo with | true => some false | false => none
def fullO (op : BinOp) (k : IntKind) (t t' : Tm) : Option S := match isU k with | true => mkO k (.bin op k t t') 0 (maxN k) | false => none
def kOpq (op : BinOp) (k : IntKind) (t : Tm) (K : Kn) (t' : Tm) (K' : Kn) : Option S :=
  match op with
  | .eql => boolO (eqK t t' K K')
  | .neq => notO (eqK t t' K K')
  | .lss => boolO (ltK K K')
  | .gtr => boolO (ltK K' K)
  | .leq => notO (ltK K' K)
  | .geq => notO (ltK K K')
  | .add => match Nat.ble (K.hi + K'.hi) (maxN k) with | true => mkO k (.bin .add k t t') (K.lo + K'.lo) (K.hi + K'.hi) | false => fullO .add k t t'
  | .sub => match Nat.ble K'.hi K.lo && Nat.ble K.hi (maxN k) with | true => mkO k (.bin .sub k t t') (K.lo - K'.hi) (K.hi - K'.lo) | false => fullO .sub k t t'
  | .mul => match Nat.ble (K.hi * K'.hi) (maxN k) with | true => mkO k (.bin .mul k t t') (K.lo * K'.lo) (K.hi * K'.hi) | false => fullO .mul k t t'
  | .or => fullO .or k t t'
  | .xor => fullO .xor k t t'
  | .andNot => fullO .andNot k t t'
  | .and =>
    match Nat.beq K'.lo 1 && Nat.beq K'.hi 1 && isU k, K.m with
    | true, some (d, r) => (match Nat.beq d 2 with | true => some (.int k (.ofNat r)) | false => fullO .and k t t')
    | _, _ => fullO .and k t t'
  | .rem =>
    match Nat.beq K'.lo K'.hi && Nat.ble 1 K'.lo with
    | true =>
      match Nat.blt K.hi K'.lo with
      | true => some (.opq k t K)
      | false =>
        match K.m with
        | some (d, r) => (match Nat.beq d K'.lo with | true => some (.int k (.ofNat r)) | false => mkO k (.bin .rem k t t') 0 (K'.lo - 1))
        | none => mkO k (.bin .rem k t t') 0 (K'.lo - 1)
    | false => none
  | _ => none
def kOpqB (op : BinOp) (x y : V) : Option S :=
  match x, y with
  | .s a, .s b =>
    match knO a, knO b with
    | some (k, t, K), some (k', t', K') => match kEq k k' with | true => kOpq op k t K t' K' | false => none
    | _, _ => none
  | _, _ => none
def kOpqC (P : Program) (src dst : TypeId) (x : V) : Option S :=
  match x with
  | .s (.opq _ t K) => match P.underlying src, P.underlying dst with | some _, some (.int k) => (match Nat.ble K.hi (maxN k) with | true => some (.opq k t K) | false => none) | _, _ => none
  | _ => none
/-- a function literal; what it captures are places -/
def capP : List V → Option (List (Nat × Nat))
  | [] => some []
  | .s (.ptr (some p)) :: t => match capP t with | some r => some (p :: r) | none => none
  | _ => none
def kFunc (fn : Fn) (first : Array Operand) (cap : List V) : Option S :=
  match fn with
  | .func f =>
    match first.size == 0, cap with
    | true, [] => some (.fn f)
    | true, cap => (match capP cap with | some ps => some (.clo f ps) | none => none)
    | _, _ => none
  | _ => none

def kx (P : Program) (o : Oper) (g : Operand → V) (n : Nat) (L : Hp) : Option R :=
  match o.op with
  | .lookup t x ix ok => kLookup P n L t (g x) (g ix) ok
  | .mapUpdate t m k v => kMapUp P n L t (g m) (g k) (g v)
  | .makeMap t r => kMakeMap P n t (r.map g)
  | .makeFunc fn a b => lgt n (kFunc fn a (b.toList.map g))
  | .range t x => kRange P n L t (g x)
  | .next x s => kNext n L (g x) s
  | .entry x => kEntry n L (g x)
  | .binOp op t x y _ => match kBin P op t (wkV (g x)) (wkV (g y)) with | some s => lgt n (some s) | none => lgt n (kOpqB op (g x) (g y))
  | .convert src dst x => match kop P o g n L with | some r => some r | none => lgt n (kOpqC P src dst (g x))
  | .call c =>
    match kop P o g n L with
    | some r => some r
    | none => match c.callee, c.args.toList with | .builtin .append, [x, y] => kAppZ P c.argTypes n (g x) (g y) | .builtin .len, [x] => kLenM P c.argTypes n L (g x) | .builtin .delete, [x, y] => kDel P c.argTypes n L (g x) (g y) | .builtin .max, [x, y, z] => lgt n (kMax3 (g x) (g y) (g z)) | _, _ => none
  | _ => kop P o g n L

end Ab
end Go.Proofs.YtgbkllbaojkfmaaGreatDoor
