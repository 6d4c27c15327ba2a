/- Of my texts: RatE. -/
import Derived.Test.YtnbkbenkhkinoaaGreatDoorM03
import Derived.Shelf.Spec.BitsCarry
import Derived.Lib.Mul64
namespace Go.Proofs.YtnbkbenkhkinoaaGreatDoor
set_option linter.unusedVariables false
set_option linter.unusedSimpArgs false
open Go.RowKit
def cmpR (a b:Rt):Int:=if sureB a&&sureB b then cmpI a b else 0
end Go.Proofs.YtnbkbenkhkinoaaGreatDoor
