/- Fractions as numbers of a stylesheet: the library's Repeat at this program. -/
import Derived.Test.YtgjhaanpkfheeaaDoorTextM
import Derived.Test.YtgjhaanpkfheeaaDoorWideC
import Derived.Shelf.Strings.Repeat
namespace Go.Proofs.YtgjhaanpkfheeaaDoor
set_option linter.unusedVariables false
set_option linter.unusedSimpArgs false
open Go.RowKit Go.Shelf

set_option maxRecDepth 100000 in
def Tryd.laysRP_ren : Ren := ⟨fun x => if x = 105 then 43 else if x = 212 then 67 else if x = 99 then 68 else if x = 165 then 69 else if x = 166 then 70 else if x = 170 then 71 else if x = 169 then 72 else if x = 263 then 85 else if x = 264 then 48 else if x = 206 then 80 else if x = 240 then 86 else if x = 241 then 87 else if x = 276 then 96 else if x = 277 then 97 else x, fun x => if x = 9 then 9 else if x = 3 then 3 else if x = 4 then 4 else if x = 20 then 20 else if x = 0 then 0 else if x = 46 then 87 else if x = 109 then 88 else if x = 5 then 5 else if x = 72 then 93 else if x = 76 then 97 else if x = 51 then 110 else if x = 146 then 111 else if x = 53 then 44 else if x = 148 then 70 else if x = 70 then 91 else if x = 37 then 59 else if x = 75 then 96 else if x = 127 then 113 else if x = 164 then 122 else if x = 80 then 100 else x, fun x => x⟩
set_option maxRecDepth 100000 in
theorem Tryd.laysRP : Lays.n105 Tryd.prog Tryd.laysRP_ren := {
  mixed := (by kernel_rfl),
  f99 := Tryd.func68.trans (congrArg some (by kernel_rfl)),
  f105 := Tryd.func43.trans (congrArg some (by kernel_rfl)),
  f165 := Tryd.func69.trans (congrArg some (by kernel_rfl)),
  f166 := Tryd.func70.trans (congrArg some (by kernel_rfl)),
  f169 := Tryd.func72.trans (congrArg some (by kernel_rfl)),
  f170 := Tryd.func71.trans (congrArg some (by kernel_rfl)),
  f206 := Tryd.func80.trans (congrArg some (by kernel_rfl)),
  f212 := Tryd.func67.trans (congrArg some (by kernel_rfl)),
  f240 := Tryd.func86.trans (congrArg some (by kernel_rfl)),
  f241 := Tryd.func87.trans (congrArg some (by kernel_rfl)),
  f263 := Tryd.func85.trans (congrArg some (by kernel_rfl)),
  f264 := Tryd.func48.trans (congrArg some (by kernel_rfl)),
  f276 := Tryd.func96.trans (congrArg some (by kernel_rfl)),
  f277 := Tryd.func97.trans (congrArg some (by kernel_rfl)),
  t0 := Tryd.underlying0,
  a0 := Tryd.isAgg0,
  z0 := Tryd.sizeOf0,
  v0 := Tryd.zeroValue0,
  t3 := Tryd.underlying3,
  a3 := Tryd.isAgg3,
  z3 := Tryd.sizeOf3,
  v3 := Tryd.zeroValue3,
  t4 := Tryd.underlying4,
  a4 := Tryd.isAgg4,
  z4 := Tryd.sizeOf4,
  v4 := Tryd.zeroValue4,
  t5 := Tryd.underlying5,
  a5 := Tryd.isAgg5,
  z5 := Tryd.sizeOf5,
  v5 := Tryd.zeroValue5,
  t9 := Tryd.underlying9,
  a9 := Tryd.isAgg9,
  z9 := Tryd.sizeOf9,
  v9 := Tryd.zeroValue9,
  t20 := Tryd.underlying20,
  a20 := Tryd.isAgg20,
  z20 := Tryd.sizeOf20,
  v20 := Tryd.zeroValue20,
  t37 := Tryd.underlying59,
  a37 := Tryd.isAgg59,
  z37 := Tryd.sizeOf59,
  v37 := Tryd.zeroValue59,
  t46 := Tryd.underlying87,
  a46 := Tryd.isAgg87,
  z46 := Tryd.sizeOf87,
  v46 := Tryd.zeroValue87,
  t51 := Tryd.underlying110,
  a51 := Tryd.isAgg110,
  z51 := Tryd.sizeOf110,
  v51 := Tryd.zeroValue110,
  t53 := Tryd.underlying44,
  a53 := Tryd.isAgg44,
  z53 := Tryd.sizeOf44,
  v53 := Tryd.zeroValue44,
  t70 := Tryd.underlying91,
  a70 := Tryd.isAgg91,
  z70 := Tryd.sizeOf91,
  v70 := Tryd.zeroValue91,
  t72 := Tryd.underlying93,
  a72 := Tryd.isAgg93,
  z72 := Tryd.sizeOf93,
  v72 := Tryd.zeroValue93,
  t75 := Tryd.underlying96,
  a75 := Tryd.isAgg96,
  z75 := Tryd.sizeOf96,
  v75 := Tryd.zeroValue96,
  t76 := Tryd.underlying97,
  a76 := Tryd.isAgg97,
  z76 := Tryd.sizeOf97,
  v76 := Tryd.zeroValue97,
  t109 := Tryd.underlying88,
  a109 := Tryd.isAgg88,
  z109 := Tryd.sizeOf88,
  v109 := Tryd.zeroValue88,
  t127 := Tryd.underlying113,
  a127 := Tryd.isAgg113,
  z127 := Tryd.sizeOf113,
  v127 := Tryd.zeroValue113,
  t146 := Tryd.underlying111,
  a146 := Tryd.isAgg111,
  z146 := Tryd.sizeOf111,
  v146 := Tryd.zeroValue111,
  t148 := Tryd.underlying70,
  a148 := Tryd.isAgg70,
  z148 := Tryd.sizeOf70,
  v148 := Tryd.zeroValue70,
  t164 := Tryd.underlying122,
  a164 := Tryd.isAgg122,
  z164 := Tryd.sizeOf122,
  v164 := Tryd.zeroValue122 }

theorem Tryd.extraRP : Builder.Extra Tryd.prog Tryd.laysRP_ren := {
  sizeBuilder := (by kernel_rfl),
  liesBuilder := (by kernel_rfl),
  t5 := Tryd.underlying5,
  a5 := Tryd.isAgg5,
  z5 := Tryd.sizeOf5,
  v5 := Tryd.zeroValue5,
  infoByte := (by kernel_rfl),
  cellsByte := (by kernel_rfl),
  sizeByte := (by kernel_rfl),
  neB5 := (by decide) }

theorem repeat_one (a : UInt8) : ∀ c, Lib.repeatL [a] c = List.replicate c a := by
  intro c
  induction c with
  | zero => rfl
  | succ c ih => rw [Lib.repeatL, ih]; rfl
theorem repeat_any (a : UInt8) (c : Nat) (w : World) (hc : c ≤ 1000) :
    Calls Tryd.prog 43 #[.string ⟨#[a]⟩, .int .i64 c] w fun e w' => e = .returned (.string ⟨(List.replicate c a).toArray⟩) ∧ Below w.heap.size w w' := by
  have h := Any.strings_Repeat Tryd.laysRP Tryd.extraRP ⟨#[a]⟩ c w (by omega) (by show 1 * c ≤ _; omega)
  rw [show (⟨#[a]⟩ : ByteArray).data.toList = [a] from rfl, repeat_one] at h
  exact h

end Go.Proofs.YtgjhaanpkfheeaaDoor
