/-
  NARROWER THAN 'FOR EVERY INPUT', by the rows' own cells (each row's printed sentence says how): MediaFeature: loops, laid · MediaParses: loops, laid · MediaReads: laid.
  DERIVED. THE GIVEN ROWS OF THIS SEAT. 3 by the template 'for every input the law returns true; each argument reads behind the call as it read before'; 0 by the template 'total and deterministic' (their statements: YtnanffmhbjdpaaaGreatDoorTotals.lean).
  GIVEN WITH THE SEED: the statements are not yours to turn. If you find one false, say at which input.
  Laid BY PROGRAM, IN A SANDBOX (cutbox-rows.mjs): the forced cells as the released guide's own fill.sh prints them over the translation 35345ff682d5ecb3… (all of the seat's roots in one cut). By AI agents, Wed Nov 11 2026. No macro, syntax, notation, axiom, sorry.
-/
import Derived.Test.YtnanffmhbjdpaaaGreatDoorChecked
import GoSem.Claim
import GoSem.ClaimJoined
import GoSem.ClaimMapViews
import Derived.JoinedTies
import Derived.KernelRfl
namespace Go.Proofs.YtnanffmhbjdpaaaGreatDoor
/- THE CELL 'sum', in the pinned program and in every row, IS THE sha256 OF THE DUMP (.gsa) THAT YtnanffmhbjdpaaaGreatDoorProg.lean LOADS. Nothing in Lean hashes anything: it is a label: what it is worth is what the hold of that sum in a sandbox is worth. -/
noncomputable def Tryz.pinned : Pinned := { name := "ytnanffmhbjdpaaagreatdoor", sum := "35345ff682d5ecb3e9793fbfa089e41dda3041a23969d9f438c7bcae098c0bef", checked := Tryz.checked }
namespace Rows
def none {H : Type} : Left H := { results := [], args := [] }

/- WHAT THE LISTED PACKAGE-LEVEL VARIABLES READ AS WHEN THE CALL BEGINS. Each datum BY PROGRAM (the guide's laid-datum.mjs) off the statement by which the dump's own 'gosem.cut.vars' lays the variable. In a bare row this is a premise. The card (YtnanffmhbjdpaaaGreatDoorCards.lean) ties it to the program's text. -/
def laid_jalousie_jalousieref3_kinds {H : Type} : DataW H := .agg [.lit (.int .i64 21), .lit (.int .i64 22), .lit (.int .i64 19), .lit (.int .i64 20), .lit (.int .i64 23), .lit (.int .i64 24), .lit (.int .i64 18), .lit (.int .i64 16), .lit (.int .i64 17)]

/-- 'jalousielaw17.MediaFeature': WHATEVER THE INPUT: true; the input reads as it did. -/
def mediaFeatureSpec : ChangeSpec := { name := "mediaFeature", fn := fun _ => fun
  | [d1, d2] => { results := [.lit (.bool true)], args := [d1, d2] }
  | _ => none }
def mediaFeatureRow : OpenClaim := { program := "ytnanffmhbjdpaaagreatdoor", sum := "35345ff682d5ecb3e9793fbfa089e41dda3041a23969d9f438c7bcae098c0bef", func := "jalousie/jalousielaw17.MediaFeature", spec := "mediaFeature", inPlace := ["internal/bytealg.IndexByteString", "internal/bytealg.IndexString", "math/bits.Add64", "math/bits.Sub64"], unfollowed := true, recurses := true, named := ["internal/bytealg.MaxLen", "jalousie/jalousieref3.kinds", "math/bits.divideError", "math/bits.overflowError"], loops := true, apart := false, laid := [("jalousie/jalousieref3.kinds", laid_jalousie_jalousieref3_kinds)] }
def MediaFeatureSaid : Prop := mediaFeatureRow.holds Tryz.pinned (OpenSpec.ofChange mediaFeatureSpec)

/-- ITS FALSE NEIGHBOUR: 'it returns false'. Refute it at one input. -/
def mediaFeatureWrong : ChangeSpec := { name := "mediaFeature", fn := fun _ => fun
  | [d1, d2] => { results := [.lit (.bool false)], args := [d1, d2] }
  | _ => none }
def MediaFeatureWrongFalsely : Prop := mediaFeatureRow.holds Tryz.pinned (OpenSpec.ofChange mediaFeatureWrong)

/-- 'jalousielaw17.MediaParses': WHATEVER THE INPUT: true; the input reads as it did. -/
def mediaParsesSpec : ChangeSpec := { name := "mediaParses", fn := fun _ => fun
  | [d] => { results := [.lit (.bool true)], args := [d] }
  | _ => none }
def mediaParsesRow : OpenClaim := { program := "ytnanffmhbjdpaaagreatdoor", sum := "35345ff682d5ecb3e9793fbfa089e41dda3041a23969d9f438c7bcae098c0bef", func := "jalousie/jalousielaw17.MediaParses", spec := "mediaParses", inPlace := ["internal/bytealg.IndexByteString", "internal/bytealg.IndexString", "math/bits.Add64", "math/bits.Sub64"], unfollowed := true, recurses := true, named := ["internal/bytealg.MaxLen", "jalousie/jalousieref3.kinds", "math/bits.divideError", "math/bits.overflowError"], loops := true, apart := false, laid := [("jalousie/jalousieref3.kinds", laid_jalousie_jalousieref3_kinds)] }
def MediaParsesSaid : Prop := mediaParsesRow.holds Tryz.pinned (OpenSpec.ofChange mediaParsesSpec)

/-- ITS FALSE NEIGHBOUR: 'it returns false'. Refute it at one input. -/
def mediaParsesWrong : ChangeSpec := { name := "mediaParses", fn := fun _ => fun
  | [d] => { results := [.lit (.bool false)], args := [d] }
  | _ => none }
def MediaParsesWrongFalsely : Prop := mediaParsesRow.holds Tryz.pinned (OpenSpec.ofChange mediaParsesWrong)

/-- 'jalousielaw17.MediaReads': WHATEVER THE INPUT: true; the input reads as it did. -/
def mediaReadsSpec : ChangeSpec := { name := "mediaReads", fn := fun _ => fun
  | [d] => { results := [.lit (.bool true)], args := [d] }
  | _ => none }
def mediaReadsRow : OpenClaim := { program := "ytnanffmhbjdpaaagreatdoor", sum := "35345ff682d5ecb3e9793fbfa089e41dda3041a23969d9f438c7bcae098c0bef", func := "jalousie/jalousielaw17.MediaReads", spec := "mediaReads", inPlace := ["internal/bytealg.IndexByteString", "internal/bytealg.IndexString", "math/bits.Add64", "math/bits.Sub64"], unfollowed := true, recurses := true, named := ["jalousie/jalousieref3.kinds", "internal/bytealg.MaxLen", "math/bits.divideError", "math/bits.overflowError"], apart := false, laid := [("jalousie/jalousieref3.kinds", laid_jalousie_jalousieref3_kinds)] }
def MediaReadsSaid : Prop := mediaReadsRow.holds Tryz.pinned (OpenSpec.ofChange mediaReadsSpec)

/-- ITS FALSE NEIGHBOUR: 'it returns false'. Refute it at one input. -/
def mediaReadsWrong : ChangeSpec := { name := "mediaReads", fn := fun _ => fun
  | [d] => { results := [.lit (.bool false)], args := [d] }
  | _ => none }
def MediaReadsWrongFalsely : Prop := mediaReadsRow.holds Tryz.pinned (OpenSpec.ofChange mediaReadsWrong)

/- THE SECOND FORM. 'bulk': how many values and letters a reading holds, each counted each time it is reached (what is shared counts as often as it is met; a slice's spare places count too). A statement '..UptoSaid' is the law's where the arguments, and the package variables that the reading takes, are together of bulk at most 1048576: NARROWER than '..Said'. Prove '..Said' where nothing that the law and all that it calls make is longer than what came in: it says more and counts as full. Else prove '..UptoSaid'. A law counts once. -/
mutual
def uptoBulk {H : Type} : DataW H → Nat
  | .lit (.string bytes) => bytes.length + 1
  | .lit _ => 1
  | .nil => 1
  | .ptr d => uptoBulk d + 1
  | .slice elems spare => uptoBulkAll elems + uptoBulkAll spare + 1
  | .agg parts => uptoBulkAll parts + 1
  | .iface _ d => uptoBulk d + 1
  | .map entries => uptoBulkEntries entries + 1
  | .held _ => 1
def uptoBulkAll {H : Type} : List (DataW H) → Nat
  | [] => 0
  | d :: r => uptoBulk d + uptoBulkAll r
def uptoBulkEntries {H : Type} : List (Lit × DataW H) → Nat
  | [] => 0
  | x :: r => uptoBulkEntry x + uptoBulkEntries r
def uptoBulkEntry {H : Type} : Lit × DataW H → Nat
  | (.string bytes, d) => bytes.length + uptoBulk d + 1
  | (_, d) => uptoBulk d + 1
 end
def uptoSmall : (H : Type) → List (DataW H) → Bool := fun _ ds => decide (uptoBulkAll ds ≤ 1048576)
def OpenSpec.upto (s : _root_.Go.ChangeSpec) : _root_.Go.OpenSpec := { _root_.Go.OpenSpec.ofChange s with cond := some uptoSmall }

/-- 'jalousielaw17.MediaFeature', WHERE WHAT IT READS IS OF BULK AT MOST 1048576: true; the input reads as it did. -/
def mediaFeatureUptoRow : OpenClaim := { program := "ytnanffmhbjdpaaagreatdoor", sum := "35345ff682d5ecb3e9793fbfa089e41dda3041a23969d9f438c7bcae098c0bef", func := "jalousie/jalousielaw17.MediaFeature", spec := "mediaFeature", inPlace := ["internal/bytealg.IndexByteString", "internal/bytealg.IndexString", "math/bits.Add64", "math/bits.Sub64"], unfollowed := true, recurses := true, named := ["internal/bytealg.MaxLen", "jalousie/jalousieref3.kinds", "math/bits.divideError", "math/bits.overflowError"], loops := true, apart := false, laid := [("jalousie/jalousieref3.kinds", laid_jalousie_jalousieref3_kinds)], narrowed := true }
def MediaFeatureUptoSaid : Prop := mediaFeatureUptoRow.holds Tryz.pinned (OpenSpec.upto mediaFeatureSpec)

/-- 'jalousielaw17.MediaParses', WHERE WHAT IT READS IS OF BULK AT MOST 1048576: true; the input reads as it did. -/
def mediaParsesUptoRow : OpenClaim := { program := "ytnanffmhbjdpaaagreatdoor", sum := "35345ff682d5ecb3e9793fbfa089e41dda3041a23969d9f438c7bcae098c0bef", func := "jalousie/jalousielaw17.MediaParses", spec := "mediaParses", inPlace := ["internal/bytealg.IndexByteString", "internal/bytealg.IndexString", "math/bits.Add64", "math/bits.Sub64"], unfollowed := true, recurses := true, named := ["internal/bytealg.MaxLen", "jalousie/jalousieref3.kinds", "math/bits.divideError", "math/bits.overflowError"], loops := true, apart := false, laid := [("jalousie/jalousieref3.kinds", laid_jalousie_jalousieref3_kinds)], narrowed := true }
def MediaParsesUptoSaid : Prop := mediaParsesUptoRow.holds Tryz.pinned (OpenSpec.upto mediaParsesSpec)

/-- 'jalousielaw17.MediaReads', WHERE WHAT IT READS IS OF BULK AT MOST 1048576: true; the input reads as it did. -/
def mediaReadsUptoRow : OpenClaim := { program := "ytnanffmhbjdpaaagreatdoor", sum := "35345ff682d5ecb3e9793fbfa089e41dda3041a23969d9f438c7bcae098c0bef", func := "jalousie/jalousielaw17.MediaReads", spec := "mediaReads", inPlace := ["internal/bytealg.IndexByteString", "internal/bytealg.IndexString", "math/bits.Add64", "math/bits.Sub64"], unfollowed := true, recurses := true, named := ["jalousie/jalousieref3.kinds", "internal/bytealg.MaxLen", "math/bits.divideError", "math/bits.overflowError"], apart := false, laid := [("jalousie/jalousieref3.kinds", laid_jalousie_jalousieref3_kinds)], narrowed := true }
def MediaReadsUptoSaid : Prop := mediaReadsUptoRow.holds Tryz.pinned (OpenSpec.upto mediaReadsSpec)

end Rows
end Go.Proofs.YtnanffmhbjdpaaaGreatDoor
