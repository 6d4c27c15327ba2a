/-
  NARROWER THAN 'FOR EVERY INPUT', by the rows' own cells (each row's printed sentence says how): CondEvals: loops · CondKleene: loops · CondParses: loops · CondSpaces: loops.
  DERIVED. THE GIVEN ROWS OF THIS SEAT. 17 by the template 'for every input the law returns true; each argument reads behind the call as it read before'; 0 by the template 'total and deterministic' (their statements: YtgjhaanpkfheeaaTotals.lean).
  GIVEN WITH THE SEED: the statements are not yours to turn. If you find one false, say at which input.
  Laid BY PROGRAM, IN A SANDBOX (cutbox-rows.mjs): the forced cells as the released guide's own fill.sh prints them over the translation 3769e870c746d456… (all of the seat's roots in one cut). By AI agents, Wed Nov 11 2026. No macro, syntax, notation, axiom, sorry.
-/
import Derived.Test.YtgjhaanpkfheeaaChecked
import GoSem.Claim
import GoSem.ClaimJoined
import GoSem.ClaimMapViews
import Derived.JoinedTies
import Derived.KernelRfl
namespace Go.Proofs.Ytgjhaanpkfheeaa
/- THE CELL 'sum', in the pinned program and in every row, IS THE sha256 OF THE DUMP (.gsa) THAT YtgjhaanpkfheeaaProg.lean LOADS. Nothing in Lean hashes anything: it is a label: what it is worth is what the hold of that sum in a sandbox is worth. -/
noncomputable def Try.pinned : Pinned := { name := "ytgjhaanpkfheeaa", sum := "3769e870c746d45615335c223a72a5ba80b91caf5a4ec3cc1b32a4d3429af5a4", checked := Try.checked }
namespace Rows
def none {H : Type} : Left H := { results := [], args := [] }

/-- 'jalousielaw1.RatMay': WHATEVER THE INPUT: true; the input reads as it did. -/
def ratMaySpec : ChangeSpec := { name := "ratMay", fn := fun _ => fun
  | [d1, d2] => { results := [.lit (.bool true)], args := [d1, d2] }
  | _ => none }
def ratMayRow : OpenClaim := { program := "ytgjhaanpkfheeaa", sum := "3769e870c746d45615335c223a72a5ba80b91caf5a4ec3cc1b32a4d3429af5a4", func := "jalousie/jalousielaw1.RatMay", spec := "ratMay", inPlace := ["math/bits.Sub64"], apart := false }
def RatMaySaid : Prop := ratMayRow.holds Try.pinned (OpenSpec.ofChange ratMaySpec)

/-- ITS FALSE NEIGHBOUR: 'it returns false'. Refute it at one input. -/
def ratMayWrong : ChangeSpec := { name := "ratMay", fn := fun _ => fun
  | [d1, d2] => { results := [.lit (.bool false)], args := [d1, d2] }
  | _ => none }
def RatMayWrongFalsely : Prop := ratMayRow.holds Try.pinned (OpenSpec.ofChange ratMayWrong)

/-- 'jalousielaw1.RatCmps': WHATEVER THE INPUT: true; the input reads as it did. -/
def ratCmpsSpec : ChangeSpec := { name := "ratCmps", fn := fun _ => fun
  | [d1, d2] => { results := [.lit (.bool true)], args := [d1, d2] }
  | _ => none }
def ratCmpsRow : OpenClaim := { program := "ytgjhaanpkfheeaa", sum := "3769e870c746d45615335c223a72a5ba80b91caf5a4ec3cc1b32a4d3429af5a4", func := "jalousie/jalousielaw1.RatCmps", spec := "ratCmps", apart := false }
def RatCmpsSaid : Prop := ratCmpsRow.holds Try.pinned (OpenSpec.ofChange ratCmpsSpec)

/-- ITS FALSE NEIGHBOUR: 'it returns false'. Refute it at one input. -/
def ratCmpsWrong : ChangeSpec := { name := "ratCmps", fn := fun _ => fun
  | [d1, d2] => { results := [.lit (.bool false)], args := [d1, d2] }
  | _ => none }
def RatCmpsWrongFalsely : Prop := ratCmpsRow.holds Try.pinned (OpenSpec.ofChange ratCmpsWrong)

/-- 'jalousielaw1.RatEnds': WHATEVER THE INPUT: true; the input reads as it did. -/
def ratEndsSpec : ChangeSpec := { name := "ratEnds", fn := fun _ => fun
  | [d] => { results := [.lit (.bool true)], args := [d] }
  | _ => none }
def ratEndsRow : OpenClaim := { program := "ytgjhaanpkfheeaa", sum := "3769e870c746d45615335c223a72a5ba80b91caf5a4ec3cc1b32a4d3429af5a4", func := "jalousie/jalousielaw1.RatEnds", spec := "ratEnds", apart := false }
def RatEndsSaid : Prop := ratEndsRow.holds Try.pinned (OpenSpec.ofChange ratEndsSpec)

/-- ITS FALSE NEIGHBOUR: 'it returns false'. Refute it at one input. -/
def ratEndsWrong : ChangeSpec := { name := "ratEnds", fn := fun _ => fun
  | [d] => { results := [.lit (.bool false)], args := [d] }
  | _ => none }
def RatEndsWrongFalsely : Prop := ratEndsRow.holds Try.pinned (OpenSpec.ofChange ratEndsWrong)

/-- 'jalousielaw1.RatMuls': WHATEVER THE INPUT: true; the input reads as it did. -/
def ratMulsSpec : ChangeSpec := { name := "ratMuls", fn := fun _ => fun
  | [d] => { results := [.lit (.bool true)], args := [d] }
  | _ => none }
def ratMulsRow : OpenClaim := { program := "ytgjhaanpkfheeaa", sum := "3769e870c746d45615335c223a72a5ba80b91caf5a4ec3cc1b32a4d3429af5a4", func := "jalousie/jalousielaw1.RatMuls", spec := "ratMuls", inPlace := ["math/bits.Sub64"], unfollowed := true, recurses := true, apart := false }
def RatMulsSaid : Prop := ratMulsRow.holds Try.pinned (OpenSpec.ofChange ratMulsSpec)

/-- ITS FALSE NEIGHBOUR: 'it returns false'. Refute it at one input. -/
def ratMulsWrong : ChangeSpec := { name := "ratMuls", fn := fun _ => fun
  | [d] => { results := [.lit (.bool false)], args := [d] }
  | _ => none }
def RatMulsWrongFalsely : Prop := ratMulsRow.holds Try.pinned (OpenSpec.ofChange ratMulsWrong)

/-- 'jalousielaw15.CondCmps': WHATEVER THE INPUT: true; the input reads as it did. -/
def condCmpsSpec : ChangeSpec := { name := "condCmps", fn := fun _ => fun
  | [d1, d2, d3] => { results := [.lit (.bool true)], args := [d1, d2, d3] }
  | _ => none }
def condCmpsRow : OpenClaim := { program := "ytgjhaanpkfheeaa", sum := "3769e870c746d45615335c223a72a5ba80b91caf5a4ec3cc1b32a4d3429af5a4", func := "jalousie/jalousielaw15.CondCmps", spec := "condCmps", apart := false }
def CondCmpsSaid : Prop := condCmpsRow.holds Try.pinned (OpenSpec.ofChange condCmpsSpec)

/-- ITS FALSE NEIGHBOUR: 'it returns false'. Refute it at one input. -/
def condCmpsWrong : ChangeSpec := { name := "condCmps", fn := fun _ => fun
  | [d1, d2, d3] => { results := [.lit (.bool false)], args := [d1, d2, d3] }
  | _ => none }
def CondCmpsWrongFalsely : Prop := condCmpsRow.holds Try.pinned (OpenSpec.ofChange condCmpsWrong)

/-- 'jalousielaw1.RatDivs': WHATEVER THE INPUT: true; the input reads as it did. -/
def ratDivsSpec : ChangeSpec := { name := "ratDivs", fn := fun _ => fun
  | [d1, d2] => { results := [.lit (.bool true)], args := [d1, d2] }
  | _ => none }
def ratDivsRow : OpenClaim := { program := "ytgjhaanpkfheeaa", sum := "3769e870c746d45615335c223a72a5ba80b91caf5a4ec3cc1b32a4d3429af5a4", func := "jalousie/jalousielaw1.RatDivs", spec := "ratDivs", inPlace := ["math/bits.Sub64"], unfollowed := true, recurses := true, apart := false }
def RatDivsSaid : Prop := ratDivsRow.holds Try.pinned (OpenSpec.ofChange ratDivsSpec)

/-- ITS FALSE NEIGHBOUR: 'it returns false'. Refute it at one input. -/
def ratDivsWrong : ChangeSpec := { name := "ratDivs", fn := fun _ => fun
  | [d1, d2] => { results := [.lit (.bool false)], args := [d1, d2] }
  | _ => none }
def RatDivsWrongFalsely : Prop := ratDivsRow.holds Try.pinned (OpenSpec.ofChange ratDivsWrong)

/-- 'jalousielaw15.CondLogic': WHATEVER THE INPUT: true; the input reads as it did. -/
def condLogicSpec : ChangeSpec := { name := "condLogic", fn := fun _ => fun
  | [d1, d2] => { results := [.lit (.bool true)], args := [d1, d2] }
  | _ => none }
def condLogicRow : OpenClaim := { program := "ytgjhaanpkfheeaa", sum := "3769e870c746d45615335c223a72a5ba80b91caf5a4ec3cc1b32a4d3429af5a4", func := "jalousie/jalousielaw15.CondLogic", spec := "condLogic", recurses := true, apart := false }
def CondLogicSaid : Prop := condLogicRow.holds Try.pinned (OpenSpec.ofChange condLogicSpec)

/-- ITS FALSE NEIGHBOUR: 'it returns false'. Refute it at one input. -/
def condLogicWrong : ChangeSpec := { name := "condLogic", fn := fun _ => fun
  | [d1, d2] => { results := [.lit (.bool false)], args := [d1, d2] }
  | _ => none }
def CondLogicWrongFalsely : Prop := condLogicRow.holds Try.pinned (OpenSpec.ofChange condLogicWrong)

/-- 'jalousielaw15.CondMorgan': WHATEVER THE INPUT: true; the input reads as it did. -/
def condMorganSpec : ChangeSpec := { name := "condMorgan", fn := fun _ => fun
  | [d1, d2, d3] => { results := [.lit (.bool true)], args := [d1, d2, d3] }
  | _ => none }
def condMorganRow : OpenClaim := { program := "ytgjhaanpkfheeaa", sum := "3769e870c746d45615335c223a72a5ba80b91caf5a4ec3cc1b32a4d3429af5a4", func := "jalousie/jalousielaw15.CondMorgan", spec := "condMorgan", recurses := true, apart := false }
def CondMorganSaid : Prop := condMorganRow.holds Try.pinned (OpenSpec.ofChange condMorganSpec)

/-- ITS FALSE NEIGHBOUR: 'it returns false'. Refute it at one input. -/
def condMorganWrong : ChangeSpec := { name := "condMorgan", fn := fun _ => fun
  | [d1, d2, d3] => { results := [.lit (.bool false)], args := [d1, d2, d3] }
  | _ => none }
def CondMorganWrongFalsely : Prop := condMorganRow.holds Try.pinned (OpenSpec.ofChange condMorganWrong)

/-- 'jalousielaw15.CondEvals': WHATEVER THE INPUT: true; the input reads as it did. -/
def condEvalsSpec : ChangeSpec := { name := "condEvals", fn := fun _ => fun
  | [d1, d2, d3] => { results := [.lit (.bool true)], args := [d1, d2, d3] }
  | _ => none }
def condEvalsRow : OpenClaim := { program := "ytgjhaanpkfheeaa", sum := "3769e870c746d45615335c223a72a5ba80b91caf5a4ec3cc1b32a4d3429af5a4", func := "jalousie/jalousielaw15.CondEvals", spec := "condEvals", unfollowed := true, recurses := true, loops := true, apart := false }
def CondEvalsSaid : Prop := condEvalsRow.holds Try.pinned (OpenSpec.ofChange condEvalsSpec)

/-- ITS FALSE NEIGHBOUR: 'it returns false'. Refute it at one input. -/
def condEvalsWrong : ChangeSpec := { name := "condEvals", fn := fun _ => fun
  | [d1, d2, d3] => { results := [.lit (.bool false)], args := [d1, d2, d3] }
  | _ => none }
def CondEvalsWrongFalsely : Prop := condEvalsRow.holds Try.pinned (OpenSpec.ofChange condEvalsWrong)

/-- 'jalousielaw15.CondKleene': WHATEVER THE INPUT: true; the input reads as it did. -/
def condKleeneSpec : ChangeSpec := { name := "condKleene", fn := fun _ => fun
  | [d1, d2, d3, d4] => { results := [.lit (.bool true)], args := [d1, d2, d3, d4] }
  | _ => none }
def condKleeneRow : OpenClaim := { program := "ytgjhaanpkfheeaa", sum := "3769e870c746d45615335c223a72a5ba80b91caf5a4ec3cc1b32a4d3429af5a4", func := "jalousie/jalousielaw15.CondKleene", spec := "condKleene", unfollowed := true, recurses := true, loops := true, apart := false }
def CondKleeneSaid : Prop := condKleeneRow.holds Try.pinned (OpenSpec.ofChange condKleeneSpec)

/-- ITS FALSE NEIGHBOUR: 'it returns false'. Refute it at one input. -/
def condKleeneWrong : ChangeSpec := { name := "condKleene", fn := fun _ => fun
  | [d1, d2, d3, d4] => { results := [.lit (.bool false)], args := [d1, d2, d3, d4] }
  | _ => none }
def CondKleeneWrongFalsely : Prop := condKleeneRow.holds Try.pinned (OpenSpec.ofChange condKleeneWrong)

/-- 'jalousielaw1.RatAdds': WHATEVER THE INPUT: true; the input reads as it did. -/
def ratAddsSpec : ChangeSpec := { name := "ratAdds", fn := fun _ => fun
  | [d] => { results := [.lit (.bool true)], args := [d] }
  | _ => none }
def ratAddsRow : OpenClaim := { program := "ytgjhaanpkfheeaa", sum := "3769e870c746d45615335c223a72a5ba80b91caf5a4ec3cc1b32a4d3429af5a4", func := "jalousie/jalousielaw1.RatAdds", spec := "ratAdds", inPlace := ["math/bits.Add64", "math/bits.Sub64"], unfollowed := true, recurses := true, named := ["math/bits.divideError", "math/bits.overflowError"], apart := false }
def RatAddsSaid : Prop := ratAddsRow.holds Try.pinned (OpenSpec.ofChange ratAddsSpec)

/-- ITS FALSE NEIGHBOUR: 'it returns false'. Refute it at one input. -/
def ratAddsWrong : ChangeSpec := { name := "ratAdds", fn := fun _ => fun
  | [d] => { results := [.lit (.bool false)], args := [d] }
  | _ => none }
def RatAddsWrongFalsely : Prop := ratAddsRow.holds Try.pinned (OpenSpec.ofChange ratAddsWrong)

/-- 'jalousielaw1.RatSubs': WHATEVER THE INPUT: true; the input reads as it did. -/
def ratSubsSpec : ChangeSpec := { name := "ratSubs", fn := fun _ => fun
  | [d1, d2] => { results := [.lit (.bool true)], args := [d1, d2] }
  | _ => none }
def ratSubsRow : OpenClaim := { program := "ytgjhaanpkfheeaa", sum := "3769e870c746d45615335c223a72a5ba80b91caf5a4ec3cc1b32a4d3429af5a4", func := "jalousie/jalousielaw1.RatSubs", spec := "ratSubs", inPlace := ["math/bits.Add64", "math/bits.Sub64"], unfollowed := true, recurses := true, named := ["math/bits.divideError", "math/bits.overflowError"], apart := false }
def RatSubsSaid : Prop := ratSubsRow.holds Try.pinned (OpenSpec.ofChange ratSubsSpec)

/-- ITS FALSE NEIGHBOUR: 'it returns false'. Refute it at one input. -/
def ratSubsWrong : ChangeSpec := { name := "ratSubs", fn := fun _ => fun
  | [d1, d2] => { results := [.lit (.bool false)], args := [d1, d2] }
  | _ => none }
def RatSubsWrongFalsely : Prop := ratSubsRow.holds Try.pinned (OpenSpec.ofChange ratSubsWrong)

/-- 'jalousielaw15.CondTurned': WHATEVER THE INPUT: true; the input reads as it did. -/
def condTurnedSpec : ChangeSpec := { name := "condTurned", fn := fun _ => fun
  | [d1, d2] => { results := [.lit (.bool true)], args := [d1, d2] }
  | _ => none }
def condTurnedRow : OpenClaim := { program := "ytgjhaanpkfheeaa", sum := "3769e870c746d45615335c223a72a5ba80b91caf5a4ec3cc1b32a4d3429af5a4", func := "jalousie/jalousielaw15.CondTurned", spec := "condTurned", recurses := true, apart := false }
def CondTurnedSaid : Prop := condTurnedRow.holds Try.pinned (OpenSpec.ofChange condTurnedSpec)

/-- ITS FALSE NEIGHBOUR: 'it returns false'. Refute it at one input. -/
def condTurnedWrong : ChangeSpec := { name := "condTurned", fn := fun _ => fun
  | [d1, d2] => { results := [.lit (.bool false)], args := [d1, d2] }
  | _ => none }
def CondTurnedWrongFalsely : Prop := condTurnedRow.holds Try.pinned (OpenSpec.ofChange condTurnedWrong)

/-- 'jalousielaw1.RatOrder': WHATEVER THE INPUT: true; the input reads as it did. -/
def ratOrderSpec : ChangeSpec := { name := "ratOrder", fn := fun _ => fun
  | [d1, d2, d3] => { results := [.lit (.bool true)], args := [d1, d2, d3] }
  | _ => none }
def ratOrderRow : OpenClaim := { program := "ytgjhaanpkfheeaa", sum := "3769e870c746d45615335c223a72a5ba80b91caf5a4ec3cc1b32a4d3429af5a4", func := "jalousie/jalousielaw1.RatOrder", spec := "ratOrder", inPlace := ["math/bits.Add64", "math/bits.Sub64"], unfollowed := true, recurses := true, named := ["math/bits.divideError", "math/bits.overflowError"], apart := false }
def RatOrderSaid : Prop := ratOrderRow.holds Try.pinned (OpenSpec.ofChange ratOrderSpec)

/-- ITS FALSE NEIGHBOUR: 'it returns false'. Refute it at one input. -/
def ratOrderWrong : ChangeSpec := { name := "ratOrder", fn := fun _ => fun
  | [d1, d2, d3] => { results := [.lit (.bool false)], args := [d1, d2, d3] }
  | _ => none }
def RatOrderWrongFalsely : Prop := ratOrderRow.holds Try.pinned (OpenSpec.ofChange ratOrderWrong)

/-- 'jalousielaw1.RatLowest': WHATEVER THE INPUT: true; the input reads as it did. -/
def ratLowestSpec : ChangeSpec := { name := "ratLowest", fn := fun _ => fun
  | [d1, d2, d3, d4] => { results := [.lit (.bool true)], args := [d1, d2, d3, d4] }
  | _ => none }
def ratLowestRow : OpenClaim := { program := "ytgjhaanpkfheeaa", sum := "3769e870c746d45615335c223a72a5ba80b91caf5a4ec3cc1b32a4d3429af5a4", func := "jalousie/jalousielaw1.RatLowest", spec := "ratLowest", inPlace := ["math/bits.Add64", "math/bits.Sub64"], unfollowed := true, recurses := true, named := ["math/bits.divideError", "math/bits.overflowError"], apart := false }
def RatLowestSaid : Prop := ratLowestRow.holds Try.pinned (OpenSpec.ofChange ratLowestSpec)

/-- ITS FALSE NEIGHBOUR: 'it returns false'. Refute it at one input. -/
def ratLowestWrong : ChangeSpec := { name := "ratLowest", fn := fun _ => fun
  | [d1, d2, d3, d4] => { results := [.lit (.bool false)], args := [d1, d2, d3, d4] }
  | _ => none }
def RatLowestWrongFalsely : Prop := ratLowestRow.holds Try.pinned (OpenSpec.ofChange ratLowestWrong)

/-- 'jalousielaw15.CondParses': WHATEVER THE INPUT: true; the input reads as it did. -/
def condParsesSpec : ChangeSpec := { name := "condParses", fn := fun _ => fun
  | [d] => { results := [.lit (.bool true)], args := [d] }
  | _ => none }
def condParsesRow : OpenClaim := { program := "ytgjhaanpkfheeaa", sum := "3769e870c746d45615335c223a72a5ba80b91caf5a4ec3cc1b32a4d3429af5a4", func := "jalousie/jalousielaw15.CondParses", spec := "condParses", unfollowed := true, recurses := true, loops := true, apart := false }
def CondParsesSaid : Prop := condParsesRow.holds Try.pinned (OpenSpec.ofChange condParsesSpec)

/-- ITS FALSE NEIGHBOUR: 'it returns false'. Refute it at one input. -/
def condParsesWrong : ChangeSpec := { name := "condParses", fn := fun _ => fun
  | [d] => { results := [.lit (.bool false)], args := [d] }
  | _ => none }
def CondParsesWrongFalsely : Prop := condParsesRow.holds Try.pinned (OpenSpec.ofChange condParsesWrong)

/-- 'jalousielaw15.CondSpaces': WHATEVER THE INPUT: true; the input reads as it did. -/
def condSpacesSpec : ChangeSpec := { name := "condSpaces", fn := fun _ => fun
  | [d] => { results := [.lit (.bool true)], args := [d] }
  | _ => none }
def condSpacesRow : OpenClaim := { program := "ytgjhaanpkfheeaa", sum := "3769e870c746d45615335c223a72a5ba80b91caf5a4ec3cc1b32a4d3429af5a4", func := "jalousie/jalousielaw15.CondSpaces", spec := "condSpaces", unfollowed := true, recurses := true, loops := true, apart := false }
def CondSpacesSaid : Prop := condSpacesRow.holds Try.pinned (OpenSpec.ofChange condSpacesSpec)

/-- ITS FALSE NEIGHBOUR: 'it returns false'. Refute it at one input. -/
def condSpacesWrong : ChangeSpec := { name := "condSpaces", fn := fun _ => fun
  | [d] => { results := [.lit (.bool false)], args := [d] }
  | _ => none }
def CondSpacesWrongFalsely : Prop := condSpacesRow.holds Try.pinned (OpenSpec.ofChange condSpacesWrong)

/- THE SECOND FORM. 'bulk': how many values and letters a reading holds, each counted each time it is reached (what is shared counts as often as it is met; a slice's spare places count too). A statement '..UptoSaid' is the law's where the arguments, and the package variables that the reading takes, are together of bulk at most 1048576: NARROWER than '..Said'. Prove '..Said' where nothing that the law and all that it calls make is longer than what came in: it says more and counts as full. Else prove '..UptoSaid'. A law counts once. -/
mutual
def uptoBulk {H : Type} : DataW H → Nat
  | .lit (.string bytes) => bytes.length + 1
  | .lit _ => 1
  | .nil => 1
  | .ptr d => uptoBulk d + 1
  | .slice elems spare => uptoBulkAll elems + uptoBulkAll spare + 1
  | .agg parts => uptoBulkAll parts + 1
  | .iface _ d => uptoBulk d + 1
  | .map entries => uptoBulkEntries entries + 1
  | .held _ => 1
def uptoBulkAll {H : Type} : List (DataW H) → Nat
  | [] => 0
  | d :: r => uptoBulk d + uptoBulkAll r
def uptoBulkEntries {H : Type} : List (Lit × DataW H) → Nat
  | [] => 0
  | x :: r => uptoBulkEntry x + uptoBulkEntries r
def uptoBulkEntry {H : Type} : Lit × DataW H → Nat
  | (.string bytes, d) => bytes.length + uptoBulk d + 1
  | (_, d) => uptoBulk d + 1
 end
def uptoSmall : (H : Type) → List (DataW H) → Bool := fun _ ds => decide (uptoBulkAll ds ≤ 1048576)
def OpenSpec.upto (s : _root_.Go.ChangeSpec) : _root_.Go.OpenSpec := { _root_.Go.OpenSpec.ofChange s with cond := some uptoSmall }

/-- 'jalousielaw1.RatMay', WHERE WHAT IT READS IS OF BULK AT MOST 1048576: true; the input reads as it did. -/
def ratMayUptoRow : OpenClaim := { program := "ytgjhaanpkfheeaa", sum := "3769e870c746d45615335c223a72a5ba80b91caf5a4ec3cc1b32a4d3429af5a4", func := "jalousie/jalousielaw1.RatMay", spec := "ratMay", inPlace := ["math/bits.Sub64"], apart := false, narrowed := true }
def RatMayUptoSaid : Prop := ratMayUptoRow.holds Try.pinned (OpenSpec.upto ratMaySpec)

/-- 'jalousielaw1.RatCmps', WHERE WHAT IT READS IS OF BULK AT MOST 1048576: true; the input reads as it did. -/
def ratCmpsUptoRow : OpenClaim := { program := "ytgjhaanpkfheeaa", sum := "3769e870c746d45615335c223a72a5ba80b91caf5a4ec3cc1b32a4d3429af5a4", func := "jalousie/jalousielaw1.RatCmps", spec := "ratCmps", apart := false, narrowed := true }
def RatCmpsUptoSaid : Prop := ratCmpsUptoRow.holds Try.pinned (OpenSpec.upto ratCmpsSpec)

/-- 'jalousielaw1.RatEnds', WHERE WHAT IT READS IS OF BULK AT MOST 1048576: true; the input reads as it did. -/
def ratEndsUptoRow : OpenClaim := { program := "ytgjhaanpkfheeaa", sum := "3769e870c746d45615335c223a72a5ba80b91caf5a4ec3cc1b32a4d3429af5a4", func := "jalousie/jalousielaw1.RatEnds", spec := "ratEnds", apart := false, narrowed := true }
def RatEndsUptoSaid : Prop := ratEndsUptoRow.holds Try.pinned (OpenSpec.upto ratEndsSpec)

/-- 'jalousielaw1.RatMuls', WHERE WHAT IT READS IS OF BULK AT MOST 1048576: true; the input reads as it did. -/
def ratMulsUptoRow : OpenClaim := { program := "ytgjhaanpkfheeaa", sum := "3769e870c746d45615335c223a72a5ba80b91caf5a4ec3cc1b32a4d3429af5a4", func := "jalousie/jalousielaw1.RatMuls", spec := "ratMuls", inPlace := ["math/bits.Sub64"], unfollowed := true, recurses := true, apart := false, narrowed := true }
def RatMulsUptoSaid : Prop := ratMulsUptoRow.holds Try.pinned (OpenSpec.upto ratMulsSpec)

/-- 'jalousielaw15.CondCmps', WHERE WHAT IT READS IS OF BULK AT MOST 1048576: true; the input reads as it did. -/
def condCmpsUptoRow : OpenClaim := { program := "ytgjhaanpkfheeaa", sum := "3769e870c746d45615335c223a72a5ba80b91caf5a4ec3cc1b32a4d3429af5a4", func := "jalousie/jalousielaw15.CondCmps", spec := "condCmps", apart := false, narrowed := true }
def CondCmpsUptoSaid : Prop := condCmpsUptoRow.holds Try.pinned (OpenSpec.upto condCmpsSpec)

/-- 'jalousielaw1.RatDivs', WHERE WHAT IT READS IS OF BULK AT MOST 1048576: true; the input reads as it did. -/
def ratDivsUptoRow : OpenClaim := { program := "ytgjhaanpkfheeaa", sum := "3769e870c746d45615335c223a72a5ba80b91caf5a4ec3cc1b32a4d3429af5a4", func := "jalousie/jalousielaw1.RatDivs", spec := "ratDivs", inPlace := ["math/bits.Sub64"], unfollowed := true, recurses := true, apart := false, narrowed := true }
def RatDivsUptoSaid : Prop := ratDivsUptoRow.holds Try.pinned (OpenSpec.upto ratDivsSpec)

/-- 'jalousielaw15.CondLogic', WHERE WHAT IT READS IS OF BULK AT MOST 1048576: true; the input reads as it did. -/
def condLogicUptoRow : OpenClaim := { program := "ytgjhaanpkfheeaa", sum := "3769e870c746d45615335c223a72a5ba80b91caf5a4ec3cc1b32a4d3429af5a4", func := "jalousie/jalousielaw15.CondLogic", spec := "condLogic", recurses := true, apart := false, narrowed := true }
def CondLogicUptoSaid : Prop := condLogicUptoRow.holds Try.pinned (OpenSpec.upto condLogicSpec)

/-- 'jalousielaw15.CondMorgan', WHERE WHAT IT READS IS OF BULK AT MOST 1048576: true; the input reads as it did. -/
def condMorganUptoRow : OpenClaim := { program := "ytgjhaanpkfheeaa", sum := "3769e870c746d45615335c223a72a5ba80b91caf5a4ec3cc1b32a4d3429af5a4", func := "jalousie/jalousielaw15.CondMorgan", spec := "condMorgan", recurses := true, apart := false, narrowed := true }
def CondMorganUptoSaid : Prop := condMorganUptoRow.holds Try.pinned (OpenSpec.upto condMorganSpec)

/-- 'jalousielaw15.CondEvals', WHERE WHAT IT READS IS OF BULK AT MOST 1048576: true; the input reads as it did. -/
def condEvalsUptoRow : OpenClaim := { program := "ytgjhaanpkfheeaa", sum := "3769e870c746d45615335c223a72a5ba80b91caf5a4ec3cc1b32a4d3429af5a4", func := "jalousie/jalousielaw15.CondEvals", spec := "condEvals", unfollowed := true, recurses := true, loops := true, apart := false, narrowed := true }
def CondEvalsUptoSaid : Prop := condEvalsUptoRow.holds Try.pinned (OpenSpec.upto condEvalsSpec)

/-- 'jalousielaw15.CondKleene', WHERE WHAT IT READS IS OF BULK AT MOST 1048576: true; the input reads as it did. -/
def condKleeneUptoRow : OpenClaim := { program := "ytgjhaanpkfheeaa", sum := "3769e870c746d45615335c223a72a5ba80b91caf5a4ec3cc1b32a4d3429af5a4", func := "jalousie/jalousielaw15.CondKleene", spec := "condKleene", unfollowed := true, recurses := true, loops := true, apart := false, narrowed := true }
def CondKleeneUptoSaid : Prop := condKleeneUptoRow.holds Try.pinned (OpenSpec.upto condKleeneSpec)

/-- 'jalousielaw1.RatAdds', WHERE WHAT IT READS IS OF BULK AT MOST 1048576: true; the input reads as it did. -/
def ratAddsUptoRow : OpenClaim := { program := "ytgjhaanpkfheeaa", sum := "3769e870c746d45615335c223a72a5ba80b91caf5a4ec3cc1b32a4d3429af5a4", func := "jalousie/jalousielaw1.RatAdds", spec := "ratAdds", inPlace := ["math/bits.Add64", "math/bits.Sub64"], unfollowed := true, recurses := true, named := ["math/bits.divideError", "math/bits.overflowError"], apart := false, narrowed := true }
def RatAddsUptoSaid : Prop := ratAddsUptoRow.holds Try.pinned (OpenSpec.upto ratAddsSpec)

/-- 'jalousielaw1.RatSubs', WHERE WHAT IT READS IS OF BULK AT MOST 1048576: true; the input reads as it did. -/
def ratSubsUptoRow : OpenClaim := { program := "ytgjhaanpkfheeaa", sum := "3769e870c746d45615335c223a72a5ba80b91caf5a4ec3cc1b32a4d3429af5a4", func := "jalousie/jalousielaw1.RatSubs", spec := "ratSubs", inPlace := ["math/bits.Add64", "math/bits.Sub64"], unfollowed := true, recurses := true, named := ["math/bits.divideError", "math/bits.overflowError"], apart := false, narrowed := true }
def RatSubsUptoSaid : Prop := ratSubsUptoRow.holds Try.pinned (OpenSpec.upto ratSubsSpec)

/-- 'jalousielaw15.CondTurned', WHERE WHAT IT READS IS OF BULK AT MOST 1048576: true; the input reads as it did. -/
def condTurnedUptoRow : OpenClaim := { program := "ytgjhaanpkfheeaa", sum := "3769e870c746d45615335c223a72a5ba80b91caf5a4ec3cc1b32a4d3429af5a4", func := "jalousie/jalousielaw15.CondTurned", spec := "condTurned", recurses := true, apart := false, narrowed := true }
def CondTurnedUptoSaid : Prop := condTurnedUptoRow.holds Try.pinned (OpenSpec.upto condTurnedSpec)

/-- 'jalousielaw1.RatOrder', WHERE WHAT IT READS IS OF BULK AT MOST 1048576: true; the input reads as it did. -/
def ratOrderUptoRow : OpenClaim := { program := "ytgjhaanpkfheeaa", sum := "3769e870c746d45615335c223a72a5ba80b91caf5a4ec3cc1b32a4d3429af5a4", func := "jalousie/jalousielaw1.RatOrder", spec := "ratOrder", inPlace := ["math/bits.Add64", "math/bits.Sub64"], unfollowed := true, recurses := true, named := ["math/bits.divideError", "math/bits.overflowError"], apart := false, narrowed := true }
def RatOrderUptoSaid : Prop := ratOrderUptoRow.holds Try.pinned (OpenSpec.upto ratOrderSpec)

/-- 'jalousielaw1.RatLowest', WHERE WHAT IT READS IS OF BULK AT MOST 1048576: true; the input reads as it did. -/
def ratLowestUptoRow : OpenClaim := { program := "ytgjhaanpkfheeaa", sum := "3769e870c746d45615335c223a72a5ba80b91caf5a4ec3cc1b32a4d3429af5a4", func := "jalousie/jalousielaw1.RatLowest", spec := "ratLowest", inPlace := ["math/bits.Add64", "math/bits.Sub64"], unfollowed := true, recurses := true, named := ["math/bits.divideError", "math/bits.overflowError"], apart := false, narrowed := true }
def RatLowestUptoSaid : Prop := ratLowestUptoRow.holds Try.pinned (OpenSpec.upto ratLowestSpec)

/-- 'jalousielaw15.CondParses', WHERE WHAT IT READS IS OF BULK AT MOST 1048576: true; the input reads as it did. -/
def condParsesUptoRow : OpenClaim := { program := "ytgjhaanpkfheeaa", sum := "3769e870c746d45615335c223a72a5ba80b91caf5a4ec3cc1b32a4d3429af5a4", func := "jalousie/jalousielaw15.CondParses", spec := "condParses", unfollowed := true, recurses := true, loops := true, apart := false, narrowed := true }
def CondParsesUptoSaid : Prop := condParsesUptoRow.holds Try.pinned (OpenSpec.upto condParsesSpec)

/-- 'jalousielaw15.CondSpaces', WHERE WHAT IT READS IS OF BULK AT MOST 1048576: true; the input reads as it did. -/
def condSpacesUptoRow : OpenClaim := { program := "ytgjhaanpkfheeaa", sum := "3769e870c746d45615335c223a72a5ba80b91caf5a4ec3cc1b32a4d3429af5a4", func := "jalousie/jalousielaw15.CondSpaces", spec := "condSpaces", unfollowed := true, recurses := true, loops := true, apart := false, narrowed := true }
def CondSpacesUptoSaid : Prop := condSpacesUptoRow.holds Try.pinned (OpenSpec.upto condSpacesSpec)

end Rows
end Go.Proofs.Ytgjhaanpkfheeaa
