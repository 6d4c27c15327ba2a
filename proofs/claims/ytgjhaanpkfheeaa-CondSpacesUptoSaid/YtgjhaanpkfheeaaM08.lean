/- Of my texts: CalcM, CondP. -/
import Derived.Test.YtgjhaanpkfheeaaM05
import Derived.Test.YtgjhaanpkfheeaaM07
namespace Go.Proofs.Ytgjhaanpkfheeaa
set_option linter.unusedVariables false
set_option linter.unusedSimpArgs false

/-- an expression -/
inductive Et where
  | mk (k n d u : Int) (kids : List Et)

def spV : Vt → Bool
  | .mk t _ => t.kind == 13
end Go.Proofs.Ytgjhaanpkfheeaa

namespace Go.Proofs.Ytgjhaanpkfheeaa
set_option linter.unusedVariables false
set_option linter.unusedSimpArgs false

/-- a condition; a leaf: its kind, its truth, its name -/
inductive Qt where
  | mk (k : Int) (kids : List Qt) (leaf : Int × Int × List UInt8)
def zeroQ : Int × Int × List UInt8 := (0, 0, [])
def leafQ (L : Int × Int × List UInt8) : Qt := .mk 4 [] L
def opensV (v : Vt) : Bool := v.tok.kind == 21 || v.tok.kind == 2
def wordV (v : Vt) : List UInt8 := if v.tok.kind = 1 then lowS v.tok.text else []
def notS : List UInt8 := [110, 111, 116]
def andS : List UInt8 := [97, 110, 100]
def orS : List UInt8 := [111, 114]
def solidV (l : List Vt) : List Vt := l.filter fun v => !spV v
/-- the leaf that 'name' tells -/
def nameQ : Vt → Option (Int × Int × List UInt8)
  | .mk t k => if t.kind = 21 then (identOf k).map fun s => (3, 0, s) else if t.kind = 2 ∧ t.text = [111, 102] then some (1, 2, []) else none
def noneQ (_ : Vt) : Option (Int × Int × List UInt8) := none
def partQ (leaf : Vt → Option (Int × Int × List UInt8)) (whole : List Vt → Option Qt) (v : Vt) : Qt :=
  match leaf v with
  | some L => leafQ L
  | none => match v with
    | .mk t k => if t.kind = 21 then (whole k).getD (leafQ zeroQ) else leafQ zeroQ

def chainQ (part : Vt → Qt) (join : List UInt8) (k : Int) : List Qt → List Vt → Option Qt
  | acc, [] => some (.mk k acc zeroQ)
  | _, [_] => none
  | acc, w :: v :: r => if wordV w = join ∧ opensV v = true then chainQ part join k (acc ++ [part v]) r else none
def readQ (part : Vt → Qt) : List Vt → Option Qt
  | [] => none
  | v :: r => if wordV v = notS then (match r with
      | [p] => if opensV p then some (.mk 3 [part p] zeroQ) else none
      | _ => none)
    else if opensV v = false then none else match r with
      | [] => some (part v)
      | w :: q => if wordV w = andS then chainQ part andS 1 [part v] (w :: q) else if wordV w = orS then chainQ part orS 2 [part v] (w :: q) else none
/-- of all of some values, blanks left out; so many levels -/
def wholeQ (read : (Vt → Qt) → List Vt → Option Qt) (leaf : Vt → Option (Int × Int × List UInt8)) : Nat → List Vt → Option Qt
  | 0, _ => none
  | n + 1, l => read (partQ leaf (wholeQ read leaf n)) (solidV l)

theorem readQ_one (part : Vt → Qt) (v : Vt) : readQ part [v] = if wordV v = notS then none else if opensV v = false then none else some (part v) := rfl
theorem readQ_two (part : Vt → Qt) (a b : Vt) : readQ part [a, b] = if wordV a = notS then (if opensV b then some (.mk 3 [part b] zeroQ) else none) else if opensV a = false then none else if wordV b = andS then chainQ part andS 1 [part a] [b] else if wordV b = orS then chainQ part orS 2 [part a] [b] else none := rfl
theorem readQ_many (part : Vt → Qt) (v w x : Vt) (r : List Vt) : readQ part (v :: w :: x :: r) = if wordV v = notS then none else if opensV v = false then none else if wordV w = andS then chainQ part andS 1 [part v] (w :: x :: r) else if wordV w = orS then chainQ part orS 2 [part v] (w :: x :: r) else none := rfl
end Go.Proofs.Ytgjhaanpkfheeaa
