/- Of my texts: WideB, RatE. -/
import Derived.Test.YtplnhjmomomphaaGreatDoorM03
import Derived.Shelf.Spec.BitsCarry
import Derived.Lib.Mul64
namespace Go.Proofs.YtplnhjmomomphaaGreatDoor
set_option linter.unusedVariables false
set_option linter.unusedSimpArgs false
open Go.RowKit
/-- the difference of two numbers of 128 bits, by words -/
def subHi (ah al bh bl : Nat) : Nat := ah - bh - (if al < bl then 1 else 0)
def subLo (al bl : Nat) : Nat := (al + 18446744073709551616 - bl) % 18446744073709551616
end Go.Proofs.YtplnhjmomomphaaGreatDoor

namespace Go.Proofs.YtplnhjmomomphaaGreatDoor
set_option linter.unusedVariables false
set_option linter.unusedSimpArgs false
open Go.RowKit
/-- how two stand -/
def cmpR (a b : Rt) : Int := if sureB a && sureB b then cmpI a b else 0
end Go.Proofs.YtplnhjmomomphaaGreatDoor
