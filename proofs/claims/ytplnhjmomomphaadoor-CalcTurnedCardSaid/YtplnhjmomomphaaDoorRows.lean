/-
  NARROWER THAN 'FOR EVERY INPUT', by the rows' own cells (each row's printed sentence says how): CalcParses: loops, laid · CalcReads: laid · CalcMay: loops, laid · CalcKinds: loops, laid · CalcTurned: loops, laid · CalcParts: loops, laid.
  DERIVED. THE GIVEN ROWS OF THIS SEAT. 6 by the template 'for every input the law returns true; each argument reads behind the call as it read before'; 0 by the template 'total and deterministic' (their statements: YtplnhjmomomphaaDoorTotals.lean).
  GIVEN WITH THE SEED: the statements are not yours to turn. If you find one false, say at which input.
  Laid BY PROGRAM, IN A SANDBOX (cutbox-rows.mjs): the forced cells as the released guide's own fill.sh prints them over the translation 6c1a4481796d4506… (all of the seat's roots in one cut). By AI agents, Wed Nov 11 2026. No macro, syntax, notation, axiom, sorry.
-/
import Derived.Test.YtplnhjmomomphaaDoorChecked
import GoSem.Claim
import GoSem.ClaimJoined
import GoSem.ClaimMapViews
import Derived.JoinedTies
import Derived.KernelRfl
namespace Go.Proofs.YtplnhjmomomphaaDoor
/- THE CELL 'sum', in the pinned program and in every row, IS THE sha256 OF THE DUMP (.gsa) THAT YtplnhjmomomphaaDoorProg.lean LOADS. Nothing in Lean hashes anything: it is a label: what it is worth is what the hold of that sum in a sandbox is worth. -/
noncomputable def Tryd.pinned : Pinned := { name := "ytplnhjmomomphaadoor", sum := "6c1a4481796d450623ce3f922884e2e0912abdd80a96eef501681d90dd9b6e0c", checked := Tryd.checked }
namespace Rows
def none {H : Type} : Left H := { results := [], args := [] }

/- WHAT THE LISTED PACKAGE-LEVEL VARIABLES READ AS WHEN THE CALL BEGINS. Each datum BY PROGRAM (the guide's laid-datum.mjs) off the statement by which the dump's own 'gosem.cut.vars' lays the variable. In a bare row this is a premise. The card (YtplnhjmomomphaaDoorCards.lean) ties it to the program's text. -/
def laid_jalousie_jalousieref3_kinds {H : Type} : DataW H := .agg [.lit (.int .i64 21), .lit (.int .i64 22), .lit (.int .i64 19), .lit (.int .i64 20), .lit (.int .i64 23), .lit (.int .i64 24), .lit (.int .i64 18), .lit (.int .i64 16), .lit (.int .i64 17)]

/-- 'jalousielaw11.CalcParses': WHATEVER THE INPUT: true; the input reads as it did. -/
def calcParsesSpec : ChangeSpec := { name := "calcParses", fn := fun _ => fun
  | [d] => { results := [.lit (.bool true)], args := [d] }
  | _ => none }
def calcParsesRow : OpenClaim := { program := "ytplnhjmomomphaadoor", sum := "6c1a4481796d450623ce3f922884e2e0912abdd80a96eef501681d90dd9b6e0c", func := "jalousie/jalousielaw11.CalcParses", spec := "calcParses", unfollowed := true, recurses := true, named := ["jalousie/jalousieref3.kinds"], loops := true, apart := false, laid := [("jalousie/jalousieref3.kinds", laid_jalousie_jalousieref3_kinds)] }
def CalcParsesSaid : Prop := calcParsesRow.holds Tryd.pinned (OpenSpec.ofChange calcParsesSpec)

/-- ITS FALSE NEIGHBOUR: 'it returns false'. Refute it at one input. -/
def calcParsesWrong : ChangeSpec := { name := "calcParses", fn := fun _ => fun
  | [d] => { results := [.lit (.bool false)], args := [d] }
  | _ => none }
def CalcParsesWrongFalsely : Prop := calcParsesRow.holds Tryd.pinned (OpenSpec.ofChange calcParsesWrong)

/-- 'jalousielaw11.CalcReads': WHATEVER THE INPUT: true; the input reads as it did. -/
def calcReadsSpec : ChangeSpec := { name := "calcReads", fn := fun _ => fun
  | [d] => { results := [.lit (.bool true)], args := [d] }
  | _ => none }
def calcReadsRow : OpenClaim := { program := "ytplnhjmomomphaadoor", sum := "6c1a4481796d450623ce3f922884e2e0912abdd80a96eef501681d90dd9b6e0c", func := "jalousie/jalousielaw11.CalcReads", spec := "calcReads", unfollowed := true, recurses := true, named := ["jalousie/jalousieref3.kinds"], apart := false, laid := [("jalousie/jalousieref3.kinds", laid_jalousie_jalousieref3_kinds)] }
def CalcReadsSaid : Prop := calcReadsRow.holds Tryd.pinned (OpenSpec.ofChange calcReadsSpec)

/-- ITS FALSE NEIGHBOUR: 'it returns false'. Refute it at one input. -/
def calcReadsWrong : ChangeSpec := { name := "calcReads", fn := fun _ => fun
  | [d] => { results := [.lit (.bool false)], args := [d] }
  | _ => none }
def CalcReadsWrongFalsely : Prop := calcReadsRow.holds Tryd.pinned (OpenSpec.ofChange calcReadsWrong)

/-- 'jalousielaw11.CalcMay': WHATEVER THE INPUT: true; the input reads as it did. -/
def calcMaySpec : ChangeSpec := { name := "calcMay", fn := fun _ => fun
  | [d1, d2] => { results := [.lit (.bool true)], args := [d1, d2] }
  | _ => none }
def calcMayRow : OpenClaim := { program := "ytplnhjmomomphaadoor", sum := "6c1a4481796d450623ce3f922884e2e0912abdd80a96eef501681d90dd9b6e0c", func := "jalousie/jalousielaw11.CalcMay", spec := "calcMay", unfollowed := true, recurses := true, named := ["jalousie/jalousieref3.kinds"], loops := true, apart := false, laid := [("jalousie/jalousieref3.kinds", laid_jalousie_jalousieref3_kinds)] }
def CalcMaySaid : Prop := calcMayRow.holds Tryd.pinned (OpenSpec.ofChange calcMaySpec)

/-- ITS FALSE NEIGHBOUR: 'it returns false'. Refute it at one input. -/
def calcMayWrong : ChangeSpec := { name := "calcMay", fn := fun _ => fun
  | [d1, d2] => { results := [.lit (.bool false)], args := [d1, d2] }
  | _ => none }
def CalcMayWrongFalsely : Prop := calcMayRow.holds Tryd.pinned (OpenSpec.ofChange calcMayWrong)

/-- 'jalousielaw11.CalcKinds': WHATEVER THE INPUT: true; the input reads as it did. -/
def calcKindsSpec : ChangeSpec := { name := "calcKinds", fn := fun _ => fun
  | [d] => { results := [.lit (.bool true)], args := [d] }
  | _ => none }
def calcKindsRow : OpenClaim := { program := "ytplnhjmomomphaadoor", sum := "6c1a4481796d450623ce3f922884e2e0912abdd80a96eef501681d90dd9b6e0c", func := "jalousie/jalousielaw11.CalcKinds", spec := "calcKinds", unfollowed := true, recurses := true, named := ["jalousie/jalousieref3.kinds"], loops := true, apart := false, laid := [("jalousie/jalousieref3.kinds", laid_jalousie_jalousieref3_kinds)] }
def CalcKindsSaid : Prop := calcKindsRow.holds Tryd.pinned (OpenSpec.ofChange calcKindsSpec)

/-- ITS FALSE NEIGHBOUR: 'it returns false'. Refute it at one input. -/
def calcKindsWrong : ChangeSpec := { name := "calcKinds", fn := fun _ => fun
  | [d] => { results := [.lit (.bool false)], args := [d] }
  | _ => none }
def CalcKindsWrongFalsely : Prop := calcKindsRow.holds Tryd.pinned (OpenSpec.ofChange calcKindsWrong)

/-- 'jalousielaw11.CalcTurned': WHATEVER THE INPUT: true; the input reads as it did. -/
def calcTurnedSpec : ChangeSpec := { name := "calcTurned", fn := fun _ => fun
  | [d1, d2] => { results := [.lit (.bool true)], args := [d1, d2] }
  | _ => none }
def calcTurnedRow : OpenClaim := { program := "ytplnhjmomomphaadoor", sum := "6c1a4481796d450623ce3f922884e2e0912abdd80a96eef501681d90dd9b6e0c", func := "jalousie/jalousielaw11.CalcTurned", spec := "calcTurned", unfollowed := true, recurses := true, named := ["jalousie/jalousieref3.kinds"], loops := true, apart := false, laid := [("jalousie/jalousieref3.kinds", laid_jalousie_jalousieref3_kinds)] }
def CalcTurnedSaid : Prop := calcTurnedRow.holds Tryd.pinned (OpenSpec.ofChange calcTurnedSpec)

/-- ITS FALSE NEIGHBOUR: 'it returns false'. Refute it at one input. -/
def calcTurnedWrong : ChangeSpec := { name := "calcTurned", fn := fun _ => fun
  | [d1, d2] => { results := [.lit (.bool false)], args := [d1, d2] }
  | _ => none }
def CalcTurnedWrongFalsely : Prop := calcTurnedRow.holds Tryd.pinned (OpenSpec.ofChange calcTurnedWrong)

/-- 'jalousielaw11.CalcParts': WHATEVER THE INPUT: true; the input reads as it did. -/
def calcPartsSpec : ChangeSpec := { name := "calcParts", fn := fun _ => fun
  | [d] => { results := [.lit (.bool true)], args := [d] }
  | _ => none }
def calcPartsRow : OpenClaim := { program := "ytplnhjmomomphaadoor", sum := "6c1a4481796d450623ce3f922884e2e0912abdd80a96eef501681d90dd9b6e0c", func := "jalousie/jalousielaw11.CalcParts", spec := "calcParts", unfollowed := true, recurses := true, named := ["jalousie/jalousieref3.kinds"], loops := true, apart := false, laid := [("jalousie/jalousieref3.kinds", laid_jalousie_jalousieref3_kinds)] }
def CalcPartsSaid : Prop := calcPartsRow.holds Tryd.pinned (OpenSpec.ofChange calcPartsSpec)

/-- ITS FALSE NEIGHBOUR: 'it returns false'. Refute it at one input. -/
def calcPartsWrong : ChangeSpec := { name := "calcParts", fn := fun _ => fun
  | [d] => { results := [.lit (.bool false)], args := [d] }
  | _ => none }
def CalcPartsWrongFalsely : Prop := calcPartsRow.holds Tryd.pinned (OpenSpec.ofChange calcPartsWrong)

/- THE SECOND FORM. 'bulk': how many values and letters a reading holds, each counted each time it is reached (what is shared counts as often as it is met; a slice's spare places count too). A statement '..UptoSaid' is the law's where the arguments, and the package variables that the reading takes, are together of bulk at most 1048576: NARROWER than '..Said'. Prove '..Said' where nothing that the law and all that it calls make is longer than what came in: it says more and counts as full. Else prove '..UptoSaid'. A law counts once. -/
mutual
def uptoBulk {H : Type} : DataW H → Nat
  | .lit (.string bytes) => bytes.length + 1
  | .lit _ => 1
  | .nil => 1
  | .ptr d => uptoBulk d + 1
  | .slice elems spare => uptoBulkAll elems + uptoBulkAll spare + 1
  | .agg parts => uptoBulkAll parts + 1
  | .iface _ d => uptoBulk d + 1
  | .map entries => uptoBulkEntries entries + 1
  | .held _ => 1
def uptoBulkAll {H : Type} : List (DataW H) → Nat
  | [] => 0
  | d :: r => uptoBulk d + uptoBulkAll r
def uptoBulkEntries {H : Type} : List (Lit × DataW H) → Nat
  | [] => 0
  | x :: r => uptoBulkEntry x + uptoBulkEntries r
def uptoBulkEntry {H : Type} : Lit × DataW H → Nat
  | (.string bytes, d) => bytes.length + uptoBulk d + 1
  | (_, d) => uptoBulk d + 1
 end
def uptoSmall : (H : Type) → List (DataW H) → Bool := fun _ ds => decide (uptoBulkAll ds ≤ 1048576)
def OpenSpec.upto (s : _root_.Go.ChangeSpec) : _root_.Go.OpenSpec := { _root_.Go.OpenSpec.ofChange s with cond := some uptoSmall }

/-- 'jalousielaw11.CalcParses', WHERE WHAT IT READS IS OF BULK AT MOST 1048576: true; the input reads as it did. -/
def calcParsesUptoRow : OpenClaim := { program := "ytplnhjmomomphaadoor", sum := "6c1a4481796d450623ce3f922884e2e0912abdd80a96eef501681d90dd9b6e0c", func := "jalousie/jalousielaw11.CalcParses", spec := "calcParses", unfollowed := true, recurses := true, named := ["jalousie/jalousieref3.kinds"], loops := true, apart := false, laid := [("jalousie/jalousieref3.kinds", laid_jalousie_jalousieref3_kinds)], narrowed := true }
def CalcParsesUptoSaid : Prop := calcParsesUptoRow.holds Tryd.pinned (OpenSpec.upto calcParsesSpec)

/-- 'jalousielaw11.CalcReads', WHERE WHAT IT READS IS OF BULK AT MOST 1048576: true; the input reads as it did. -/
def calcReadsUptoRow : OpenClaim := { program := "ytplnhjmomomphaadoor", sum := "6c1a4481796d450623ce3f922884e2e0912abdd80a96eef501681d90dd9b6e0c", func := "jalousie/jalousielaw11.CalcReads", spec := "calcReads", unfollowed := true, recurses := true, named := ["jalousie/jalousieref3.kinds"], apart := false, laid := [("jalousie/jalousieref3.kinds", laid_jalousie_jalousieref3_kinds)], narrowed := true }
def CalcReadsUptoSaid : Prop := calcReadsUptoRow.holds Tryd.pinned (OpenSpec.upto calcReadsSpec)

/-- 'jalousielaw11.CalcMay', WHERE WHAT IT READS IS OF BULK AT MOST 1048576: true; the input reads as it did. -/
def calcMayUptoRow : OpenClaim := { program := "ytplnhjmomomphaadoor", sum := "6c1a4481796d450623ce3f922884e2e0912abdd80a96eef501681d90dd9b6e0c", func := "jalousie/jalousielaw11.CalcMay", spec := "calcMay", unfollowed := true, recurses := true, named := ["jalousie/jalousieref3.kinds"], loops := true, apart := false, laid := [("jalousie/jalousieref3.kinds", laid_jalousie_jalousieref3_kinds)], narrowed := true }
def CalcMayUptoSaid : Prop := calcMayUptoRow.holds Tryd.pinned (OpenSpec.upto calcMaySpec)

/-- 'jalousielaw11.CalcKinds', WHERE WHAT IT READS IS OF BULK AT MOST 1048576: true; the input reads as it did. -/
def calcKindsUptoRow : OpenClaim := { program := "ytplnhjmomomphaadoor", sum := "6c1a4481796d450623ce3f922884e2e0912abdd80a96eef501681d90dd9b6e0c", func := "jalousie/jalousielaw11.CalcKinds", spec := "calcKinds", unfollowed := true, recurses := true, named := ["jalousie/jalousieref3.kinds"], loops := true, apart := false, laid := [("jalousie/jalousieref3.kinds", laid_jalousie_jalousieref3_kinds)], narrowed := true }
def CalcKindsUptoSaid : Prop := calcKindsUptoRow.holds Tryd.pinned (OpenSpec.upto calcKindsSpec)

/-- 'jalousielaw11.CalcTurned', WHERE WHAT IT READS IS OF BULK AT MOST 1048576: true; the input reads as it did. -/
def calcTurnedUptoRow : OpenClaim := { program := "ytplnhjmomomphaadoor", sum := "6c1a4481796d450623ce3f922884e2e0912abdd80a96eef501681d90dd9b6e0c", func := "jalousie/jalousielaw11.CalcTurned", spec := "calcTurned", unfollowed := true, recurses := true, named := ["jalousie/jalousieref3.kinds"], loops := true, apart := false, laid := [("jalousie/jalousieref3.kinds", laid_jalousie_jalousieref3_kinds)], narrowed := true }
def CalcTurnedUptoSaid : Prop := calcTurnedUptoRow.holds Tryd.pinned (OpenSpec.upto calcTurnedSpec)

/-- 'jalousielaw11.CalcParts', WHERE WHAT IT READS IS OF BULK AT MOST 1048576: true; the input reads as it did. -/
def calcPartsUptoRow : OpenClaim := { program := "ytplnhjmomomphaadoor", sum := "6c1a4481796d450623ce3f922884e2e0912abdd80a96eef501681d90dd9b6e0c", func := "jalousie/jalousielaw11.CalcParts", spec := "calcParts", unfollowed := true, recurses := true, named := ["jalousie/jalousieref3.kinds"], loops := true, apart := false, laid := [("jalousie/jalousieref3.kinds", laid_jalousie_jalousieref3_kinds)], narrowed := true }
def CalcPartsUptoSaid : Prop := calcPartsUptoRow.holds Tryd.pinned (OpenSpec.upto calcPartsSpec)

end Rows
end Go.Proofs.YtplnhjmomomphaaDoor
