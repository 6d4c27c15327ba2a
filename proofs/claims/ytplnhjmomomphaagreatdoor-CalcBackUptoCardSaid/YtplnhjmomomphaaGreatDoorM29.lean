/- Of my texts: PlainS. -/
import Derived.Test.YtplnhjmomomphaaGreatDoorM05
import Derived.Test.YtplnhjmomomphaaGreatDoorM06
import Derived.Shelf.Strings.Repeat
namespace Go.Proofs.YtplnhjmomomphaaGreatDoor
set_option linter.unusedVariables false
set_option linter.unusedSimpArgs false
open Go.RowKit Go.Shelf
set_option maxRecDepth 100000 in
def Tryz.laysRP_ren : Ren := ⟨fun x => if x = 105 then 53 else if x = 212 then 70 else if x = 99 then 71 else if x = 165 then 72 else if x = 166 then 17 else if x = 170 then 73 else if x = 169 then 20 else if x = 263 then 97 else if x = 264 then 98 else if x = 206 then 99 else if x = 240 then 38 else if x = 241 then 100 else if x = 276 then 58 else if x = 277 then 117 else x, fun x => if x = 9 then 9 else if x = 3 then 3 else if x = 4 then 4 else if x = 20 then 20 else if x = 0 then 0 else if x = 46 then 110 else if x = 109 then 111 else if x = 5 then 5 else if x = 72 then 50 else if x = 76 then 55 else if x = 51 then 134 else if x = 146 then 135 else if x = 53 then 93 else if x = 148 then 137 else if x = 70 then 47 else if x = 37 then 48 else if x = 75 then 54 else if x = 127 then 75 else if x = 164 then 99 else if x = 80 then 58 else x, fun x => x⟩
set_option maxRecDepth 100000 in
theorem Tryz.laysRP : Lays.n105 Tryz.prog Tryz.laysRP_ren := {
 mixed := (by kernel_rfl),
 f99 := Tryz.func71.trans (congrArg some (by kernel_rfl)),
 f105 := Tryz.func53.trans (congrArg some (by kernel_rfl)),
 f165 := Tryz.func72.trans (congrArg some (by kernel_rfl)),
 f166 := Tryz.func17.trans (congrArg some (by kernel_rfl)),
 f169 := Tryz.func20.trans (congrArg some (by kernel_rfl)),
 f170 := Tryz.func73.trans (congrArg some (by kernel_rfl)),
 f206 := Tryz.func99.trans (congrArg some (by kernel_rfl)),
 f212 := Tryz.func70.trans (congrArg some (by kernel_rfl)),
 f240 := Tryz.func38.trans (congrArg some (by kernel_rfl)),
 f241 := Tryz.func100.trans (congrArg some (by kernel_rfl)),
 f263 := Tryz.func97.trans (congrArg some (by kernel_rfl)),
 f264 := Tryz.func98.trans (congrArg some (by kernel_rfl)),
 f276 := Tryz.func58.trans (congrArg some (by kernel_rfl)),
 f277 := Tryz.func117.trans (congrArg some (by kernel_rfl)),
 t0 := Tryz.underlying0,
 a0 := Tryz.isAgg0,
 z0 := Tryz.sizeOf0,
 v0 := Tryz.zeroValue0,
 t3 := Tryz.underlying3,
 a3 := Tryz.isAgg3,
 z3 := Tryz.sizeOf3,
 v3 := Tryz.zeroValue3,
 t4 := Tryz.underlying4,
 a4 := Tryz.isAgg4,
 z4 := Tryz.sizeOf4,
 v4 := Tryz.zeroValue4,
 t5 := Tryz.underlying5,
 a5 := Tryz.isAgg5,
 z5 := Tryz.sizeOf5,
 v5 := Tryz.zeroValue5,
 t9 := Tryz.underlying9,
 a9 := Tryz.isAgg9,
 z9 := Tryz.sizeOf9,
 v9 := Tryz.zeroValue9,
 t20 := Tryz.underlying20,
 a20 := Tryz.isAgg20,
 z20 := Tryz.sizeOf20,
 v20 := Tryz.zeroValue20,
 t37 := Tryz.underlying48,
 a37 := Tryz.isAgg48,
 z37 := Tryz.sizeOf48,
 v37 := Tryz.zeroValue48,
 t46 := Tryz.underlying110,
 a46 := Tryz.isAgg110,
 z46 := Tryz.sizeOf110,
 v46 := Tryz.zeroValue110,
 t51 := Tryz.underlying134,
 a51 := Tryz.isAgg134,
 z51 := Tryz.sizeOf134,
 v51 := Tryz.zeroValue134,
 t53 := Tryz.underlying93,
 a53 := Tryz.isAgg93,
 z53 := Tryz.sizeOf93,
 v53 := Tryz.zeroValue93,
 t70 := Tryz.underlying47,
 a70 := Tryz.isAgg47,
 z70 := Tryz.sizeOf47,
 v70 := Tryz.zeroValue47,
 t72 := Tryz.underlying50,
 a72 := Tryz.isAgg50,
 z72 := Tryz.sizeOf50,
 v72 := Tryz.zeroValue50,
 t75 := Tryz.underlying54,
 a75 := Tryz.isAgg54,
 z75 := Tryz.sizeOf54,
 v75 := Tryz.zeroValue54,
 t76 := Tryz.underlying55,
 a76 := Tryz.isAgg55,
 z76 := Tryz.sizeOf55,
 v76 := Tryz.zeroValue55,
 t109 := Tryz.underlying111,
 a109 := Tryz.isAgg111,
 z109 := Tryz.sizeOf111,
 v109 := Tryz.zeroValue111,
 t127 := Tryz.underlying75,
 a127 := Tryz.isAgg75,
 z127 := Tryz.sizeOf75,
 v127 := Tryz.zeroValue75,
 t146 := Tryz.underlying135,
 a146 := Tryz.isAgg135,
 z146 := Tryz.sizeOf135,
 v146 := Tryz.zeroValue135,
 t148 := Tryz.underlying137,
 a148 := Tryz.isAgg137,
 z148 := Tryz.sizeOf137,
 v148 := Tryz.zeroValue137,
 t164 := Tryz.underlying99,
 a164 := Tryz.isAgg99,
 z164 := Tryz.sizeOf99,
 v164 := Tryz.zeroValue99 }
theorem Tryz.extraRP : Builder.Extra Tryz.prog Tryz.laysRP_ren := {
 sizeBuilder := (by kernel_rfl),
 liesBuilder := (by kernel_rfl),
 t5 := Tryz.underlying5,
 a5 := Tryz.isAgg5,
 z5 := Tryz.sizeOf5,
 v5 := Tryz.zeroValue5,
 infoByte := (by kernel_rfl),
 cellsByte := (by kernel_rfl),
 sizeByte := (by kernel_rfl),
 neB5 := (by decide) }
theorem repeat_one (a : UInt8) : ∀ c, Lib.repeatL [a] c = List.replicate c a := by
 intro c
 induction c with
 | zero => rfl
 | succ c ih => rw [Lib.repeatL, ih]; rfl
theorem repeat_any (a : UInt8) (c : Nat) (w : World) (hc : c ≤ 1000) :
 Calls Tryz.prog 53 #[.string ⟨#[a]⟩, .int .i64 c] w fun e w' => e = .returned (.string ⟨(List.replicate c a).toArray⟩) ∧ Below w.heap.size w w' := by
 have h := Any.strings_Repeat Tryz.laysRP Tryz.extraRP ⟨#[a]⟩ c w (by omega) (by show 1 * c ≤ _; omega)
 rw [show (⟨#[a]⟩ : ByteArray).data.toList = [a] from rfl, repeat_one] at h
 exact h
end Go.Proofs.YtplnhjmomomphaaGreatDoor
