/- Of my texts: TextN, TextT. -/
import Derived.Test.YtplnhjmomomphaaGreatDoorM03
import Derived.Test.YtplnhjmomomphaaGreatDoorM05
import Derived.Test.YtplnhjmomomphaaGreatDoorM06
import Derived.Lib.ItoaLen
import Derived.Laws.IdiomStrings
import Derived.Laws.Concat
namespace Go.Proofs.YtplnhjmomomphaaGreatDoor
set_option linter.unusedVariables false
set_option linter.unusedSimpArgs false
open Go.RowKit Go.Lib
/-- the row that is written from its end -/
def rowN (L : List UInt8) : Array Value := (List.replicate (20 - L.length) (Value.int .u8 0) ++ L.map fun c => Value.int .u8 (c.toNat : Int)).toArray
theorem rowN_put (L : List UInt8) (c : UInt8) (k : Nat) (hk : k + 1 + L.length = 20) : (rowN L).setIfInBounds k (.int .u8 (c.toNat : Int)) = rowN (c :: L) := by
 unfold rowN
 apply Array.ext'
 simp only [Array.toList_setIfInBounds, List.length_cons, List.map_cons]
 have h1 : 20 - L.length = k + 1 := by omega
 have h2 : 20 - (L.length + 1) = k := by omega
 rw [h1, h2, List.replicate_succ', List.append_assoc]
 rw [List.set_append_right _ _ (by simp)]
 simp
theorem rowN_at (L : List UInt8) (hL : L.length ≤ 20) (j : Nat) (c : UInt8) (h : L[j]? = some c) : (rowN L)[20 - L.length + j]? = some (.int .u8 (c.toNat : Int)) := by
 unfold rowN
 rw [List.getElem?_toArray, List.getElem?_append_right (by simp)]
 simp [h]
theorem slice_at (B a : Nat) (ha : a < 20) (w : World) : (Instr.sliceAt 117 (.pointer (some ⟨B, 0, none⟩)) (some (.int .i64 a)) none none).run Tryz.prog w = .ok (.slice (some ⟨B, a, none⟩) (20 - a) (20 - a)) w := by
 have e1 : Tryz.prog.arrayLen 117 = 20 := by kernel_rfl
 have e2 : Tryz.prog.elem 117 = 5 := by kernel_rfl
 have e3 := Tryz.sizeOf5 w
 rw [run_sliceAt_array_l w 117 ⟨B, 0, none⟩ (by rw [e1, e2]; exact Tryz.underlying117) .i64 a (by omega) (by rw [e1]; omega), e1, e2, e3]
 simp only [Result.andThen_ok, slicedAt, Int.toNat_natCast]
 rw [if_neg (by omega), Nat.mul_one, Addr.add_lit, Nat.zero_add]
theorem dec_step {n : Nat} (h : ¬ n < 10) : decDigits n = decDigits (n / 10) ++ [UInt8.ofNat (48 + n % 10)] := by
 rw [decDigits, dif_neg h]
set_option maxRecDepth 20000 in
set_option maxHeartbeats 4000000 in
theorem number_any (u : Nat) (w : World) (hu : u < 18446744073709551616) :
 Calls Tryz.prog 56 #[.int .u64 u] w fun e w' => e = .returned (.string ⟨(decDigits u).toArray⟩) ∧ Below w.heap.size w w' := by
 have hlen : (decDigits u).length ≤ 20 := by rw [decDigits_length]; exact nDigits_le20 u hu
 have HLEN := Lib.hid hlen
 go_enter Tryz.func56, Tryz.ntmps56
 go_wp2_with fail
 go_loopg [0, 4] u (fun k s t wr => ∃ (n a : Nat) (L : List UInt8), s = .int .u64 n ∧ t = .int .i64 ((a : Int) + 1) ∧ a + 1 + L.length = 20 ∧ n < 18446744073709551616 ∧ Hid (Below w.heap.size w wr ∧ Blk wr w.heap.size 117 (rowN L)) ∧ Hid (decDigits u = decDigits n ++ L) ∧ n ≤ k)
 case atStart => exact ⟨u, 19, [], rfl, rfl, rfl, hu, Lib.hid ⟨below_box _ _, Blk.new _ _ _⟩, Lib.hid (by simp), Nat.le_refl _⟩
 case round =>
  obtain ⟨n, a, L, rfl, rfl, hL, hn, hg, hlaw, hk⟩ := hrel
  obtain ⟨d, hd⟩ : ∃ d, n % 10 = d := ⟨_, rfl⟩
  obtain ⟨q, hq⟩ : ∃ q, n / 10 = q := ⟨_, rfl⟩
  have hd10 : d < 10 := by omega
  have hmod : (n : Int) % 10 = (d : Int) := by omega
  have hdiv : (n : Int) / 10 = (q : Int) := by omega
  have hb := hg.out.2
  have ca := hb.cell a
  have fa := hb.frozen a
  have la := hb.lt
  have ca2 : (rowN L)[a]? = some (.int .u8 0) := by
   unfold rowN
   rw [List.getElem?_toArray, List.getElem?_append_left (by simp; omega), List.getElem?_replicate, if_pos (by omega)]
  rw [ca2] at ca
  clear ca2 hb
  have hc0 : (UInt8.ofNat (48 + d)).toNat = 48 + d := byte_nat hd10
  obtain ⟨c, hcd⟩ : ∃ c, UInt8.ofNat (48 + d) = c := ⟨_, rfl⟩
  have hc : c.toNat = 48 + d := by rw [← hcd]; exact hc0
  have HP := Lib.hid (rowN_put L (c) a hL)
  by_cases hn10 : n < 10
  · have hq0 : q = 0 := by omega
    subst hq0
    have HD := Lib.hid (show decDigits u = c :: L by
     rw [hlaw.out, decDigits, dif_pos hn10, show n = d by omega, hcd]; rfl)
    have hs := fun w' => slice_at w.heap.size a (by omega) w'
    have hB : Blk (wr.setCell ⟨w.heap.size, a, none⟩ (.int .u8 (48 + (d : Int)))) w.heap.size 117 (rowN (c :: L)) := (hg.out.2.put a (.int .u8 (48 + (d : Int)))).to (by rw [show (48 + (d : Int)) = ((c.toNat : Nat) : Int) by rw [hc]; first | done | omega]; exact HP.out)
    have hcv := run_convert_bytes_back (P := Tryz.prog) (wr.setCell ⟨w.heap.size, a, none⟩ (.int .u8 (48 + (d : Int)))) 48 9 5 ⟨w.heap.size, a, none⟩ (20 - a) (c :: L) Tryz.underlying48 Tryz.underlying5 Tryz.underlying9 (fun j hj => by
     rw [Addr.add_lit, hB.cell]
     have := rowN_at (c :: L) (by simp; omega) j _ (List.getElem?_eq_getElem hj)
     rw [show 20 - (c :: L).length = a by simp; omega] at this
     exact this)
    rw [show (c :: L).length = 20 - a by simp; omega] at hcv
    clear hd hq hlaw hB hcd hc0
    go_wp2_with fail
    go_ret
    exact ⟨by rw [HD.out]; first | done | rfl, hg.out.1.setCell (Nat.le_refl _) _⟩
  · have HD := Lib.hid (show decDigits u = decDigits q ++ (c :: L) by
     rw [hlaw.out, dec_step hn10, hd, hq, hcd, List.append_assoc]; rfl)
    have gq : ((q : Int) == 0) = false := by simp; omega
    clear hlaw
    have hlt : q < n := by omega
    have hlen2 : L.length + 1 ≤ 19 := by
     have h1 := HLEN.out
     rw [HD.out, List.length_append, List.length_cons] at h1
     have h2 : (decDigits q).length ≠ 0 := by simpa using dec_ne q
     omega
    clear hd hq hcd hc0
    go_wp2_with fail
    go_roundg q
    case measure => omega
    case rel =>
     refine ⟨q, a - 1, c :: L, rfl, congrArg (Value.int .i64) (by omega), by simp; omega, by omega, Lib.hid ⟨hg.out.1.setCell (Nat.le_refl _) _, (hg.out.2.put a _).to ?_⟩, Lib.hid HD.out, Nat.le_refl _⟩
     rw [show (48 + (d : Int)) = ((c.toNat : Nat) : Int) by rw [hc]; first | done | omega]
     exact HP.out
end Go.Proofs.YtplnhjmomomphaaGreatDoor

namespace Go.Proofs.YtplnhjmomomphaaGreatDoor
set_option linter.unusedVariables false
set_option linter.unusedSimpArgs false
open Go.RowKit Go.Lib
theorem ba_app (l m : List UInt8) : (⟨l.toArray⟩ ++ ⟨m.toArray⟩ : ByteArray) = ⟨(l ++ m).toArray⟩ := by
 apply ByteArray.ext
 simp
theorem run_cat (l m : List UInt8) (h : l.length + m.length ≤ 1000) (w : World) : (Op.stringOp .add ⟨l.toArray⟩ ⟨m.toArray⟩).run Tryz.prog w = .ok (.string ⟨(l ++ m).toArray⟩) w := by
 rw [run_string_add_sum w _ _ (by show l.length + m.length ≤ _; omega), ba_app]
end Go.Proofs.YtplnhjmomomphaaGreatDoor
