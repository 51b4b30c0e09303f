/-
  The quick machine, part 7: maps; zeros appended.
-/
import Derived.Test.YtbokilgdefkmiaaGreatDoorKf
import Derived.MapKept
set_option linter.unusedSimpArgs false
set_option linter.unusedVariables false
namespace Go.Proofs.YtbokilgdefkmiaaGreatDoor
namespace Ab
open Go
set_option maxRecDepth 100000

/-! ### maps whose keys are integers or strings -/
def keyOK (d : TypeDesc) (x : S) : Bool :=
  match d, x with
  | .int k, .int k' _ => kEq k k'
  | .string, .str _ => true
  | _, _ => false
def sameK (a b : S) : Option Bool :=
  match a, b with
  | .int k x, .int k' y => match kEq k k' with | true => some (eqI x y) | false => none
  | .str x, .str y => some (eqB x y)
  | _, _ => none
def findK (key : S) (w : Nat) : List Nat → List S → Nat → Option (Option (Nat × List S))
  | _ :: bs, k :: t, i =>
    match Nat.ble w t.length with
    | true =>
      match sameK key k with
      | some true => some (some (i, t.take w))
      | some false => findK key w bs (t.drop w) (Nat.succ i)
      | none => none
    | false => none
  | [], [], _ => some none
  | _, _, _ => none
def valOf (agg : Bool) (l : List S) : Option V := match agg with | true => some (.agg l) | false => match l with | [x] => (match isJ x with | false => some (.s x) | true => none) | _ => none
def withOk (commaOk : Bool) (v : V) (ok : Bool) : Option V :=
  match commaOk with
  | false => some v
  | true => match toU v with | some u => some (.tup [u, .s (.bool ok)]) | none => none

def zeroIs (P : Program) (t : TypeId) (ag : Bool) : Bool :=
  match P.info? t with
  | some i => match i.zero with | some v => (match v with | .agg _ => ag | .tuple _ => false | _ => notB ag) | none => false
  | none => false
def kLookup (P : Program) (n : Nat) (L : Hp) (t : TypeId) (x ix : V) (commaOk : Bool) : Option R :=
  match P.underlying t with
  | some (.map kt et) =>
    match P.underlying kt, tyS P et, zeroOf P et with
    | some d, some (ag, sz), some zs =>
      match ix with
      | .s key =>
        match keyOK d key && zeroIs P et ag with
        | true =>
          match x with
          | .s (.map none) => match valOf ag zs with | some v => (match withOk commaOk v false with | some v => some ⟨[], v, [], n⟩ | none => none) | none => none
          | .s (.map (some i)) =>
            match lk L i with
            | some bl =>
              match bl.kind with
              | some m =>
                match (m.agg == ag) && Nat.beq m.w sz && notB bl.more with
                | true =>
                  match findK key sz m.born bl.cells 0 with
                  | some none => match valOf ag zs with | some v => (match withOk commaOk v false with | some v => some ⟨[i], v, [], n⟩ | none => none) | none => none
                  | some (some (_, l)) => match valOf ag l with | some v => (match withOk commaOk v true with | some v => some ⟨[i], v, [], n⟩ | none => none) | none => none
                  | none => none
                | false => none
              | none => none
            | none => none
          | _ => none
        | false => none
      | _ => none
    | _, _, _ => none
  | _ => none

def kMapUp (P : Program) (n : Nat) (L : Hp) (t : TypeId) (x ix y : V) : Option R :=
  match P.underlying t with
  | some (.map kt et) =>
    match P.underlying kt, tyS P et with
    | some d, some (ag, sz) =>
      match ix, x, cellsOf y with
      | .s key, .s (.map (some i)), some l =>
        match lk L i with
        | some bl =>
          match bl.kind with
          | some m =>
            match keyOK d key && (m.agg == ag) && Nat.beq m.w sz && notB bl.more && notB bl.ro && notB bl.flat && Nat.beq l.length sz && (match y with | .agg _ => ag | _ => notB ag) && l.all nJ && bl.gh.isNone with
            | true =>
              match findK key sz m.born bl.cells 0 with
              | some none => frc (bl.cells ++ (key :: l)) [] fun cs => frc (m.born ++ [m.clock]) [] fun born => some ⟨[i], .undef, [(i, some { bl with cells := cs, kind := some ⟨m.w, m.agg, born, m.clock + 1⟩ })], n⟩
              | some (some (j, _)) => frc (setL bl.cells (j * (sz + 1)) (key :: l)) [] fun cs => some ⟨[i], .undef, [(i, some { bl with cells := cs })], n⟩
              | none => none
            | false => none
          | none => none
        | none => none
      | _, _, _ => none
    | _, _ => none
  | _ => none

def kMakeMap (P : Program) (n : Nat) (t : TypeId) (r : Option V) : Option R :=
  match P.underlying t with
  | some (.map kt et) =>
    match tyS P et, (match r with | none => true | some _ => false) with
    | some (ag, sz), true => some ⟨[], .s (.map (some n)), [(n, some { cells := [], ty := 0, kind := some ⟨sz, ag, [], 0⟩ })], n + 1⟩
    | _, _ => none
  | _ => none

/-! ### zeros appended to nil -/
def kAppZ (P : Program) (ts : Array TypeId) (n : Nat) (d x : V) : Option R :=
  match ts[0]?, ts[1]? with
  | some t, some tx =>
    match P.underlying t, P.underlying tx with
    | some (.slice e), some (.int _) =>
      match P.info? e, zeroOf P e with
      | some inf, some zs =>
        match d, x with
        | .s (.slc none _ _), .s (.int _ z) =>
          match natOf z with
          | some m =>
            match Nat.beq inf.size zs.length && Nat.ble 1 m && Nat.ble 1 inf.size && Nat.ble (m * inf.bytes) 140737488355328 && Nat.ble m 140737488355328 with
            | true => frc (rep m zs) [] fun cs => some ⟨[], .s (.sla n (n + 1) m), [(n, some { cells := cs, ty := e, more := true, gh := some (n + 1, inf.size) })], n + 2⟩
            | false => none
          | none => none
        | _, _ => none
      | _, _ => none
    | _, _ => none
  | _, _ => none

def maxI (a b : Int) : Int := match ltI a b with | true => b | false => a
def kMax3 (x y z : V) : Option S :=
  match x, y, z with
  | .s (.int k a), .s (.int _ b), .s (.int _ c) => some (.int k (maxI (maxI a b) c))
  | _, _, _ => none

def kx (P : Program) (o : Oper) (g : Operand → V) (n : Nat) (L : Hp) : Option R :=
  match o.op with
  | .lookup t x ix ok => kLookup P n L t (g x) (g ix) ok
  | .mapUpdate t m k v => kMapUp P n L t (g m) (g k) (g v)
  | .makeMap t r => kMakeMap P n t (r.map g)
  | .call c =>
    match kop P o g n L with
    | some r => some r
    | none => match c.callee, c.args.toList with | .builtin .append, [x, y] => kAppZ P c.argTypes n (g x) (g y) | .builtin .max, [x, y, z] => lgt n (kMax3 (g x) (g y) (g z)) | _, _ => none
  | _ => kop P o g n L

end Ab
end Go.Proofs.YtbokilgdefkmiaaGreatDoor
