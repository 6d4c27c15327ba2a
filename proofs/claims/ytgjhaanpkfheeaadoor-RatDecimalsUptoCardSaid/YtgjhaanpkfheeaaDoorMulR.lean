/- The reference's product of two fractions; clean ones; whole numbers. -/
import Derived.Test.YtgjhaanpkfheeaaDoorFoldA
import Derived.Test.YtgjhaanpkfheeaaDoorRatF
namespace Go.Proofs.YtgjhaanpkfheeaaDoor
set_option linter.unusedVariables false
set_option linter.unusedSimpArgs false
open Go.RowKit

set_option maxHeartbeats 1000000 in
theorem int_any (n : Int) (w : World) : Calls Tryd.prog 66 #[.int .i64 n] w fun e w' => e = .returned (rv (n, 1)) ∧ Below w.heap.size w w' := by
  go_enter Tryd.func66, Tryd.ntmps66
  go_wp2_with fail
  exact bodyPost_ret (v := .agg #[.int .i64 n, .int .i64 1]) (by simp [results, Tryd.results66, go_sem]) rfl ⟨rfl, (below_box _ _)⟩

set_option maxHeartbeats 1000000 in
theorem clean_any (r : Rt) (w : World) (h64 : Is64 r) :
    Calls Tryd.prog 18 #[rv r] w fun e w' => e = .returned (rv (cleanR r)) ∧ Below w.heap.size w w' := by
  have hm := fun w => rmay_any r w h64
  unfold cleanR
  cases hmay : mayB r with
  | true =>
    rw [hmay] at hm
    obtain ⟨n, d⟩ := r
    have HM := Lib.hid hm
    clear hm hmay h64
    go_enter Tryd.func18, Tryd.ntmps18
    go_wp2_with fail
    ((with_reducible refine (HM.out _).mono ?_); rintro e w' ⟨rfl, hbw⟩)
    obtain ⟨m, rfl⟩ := grow_mk hbw
    clear hbw
    go_wp2_with fail
    exact bodyPost_ret (v := .agg #[.int .i64 n, .int .i64 d]) (by simp [results, Tryd.results18, go_sem]) rfl ⟨rfl, (((below_grow ((below_box _ _).alloc (by simp) _) m).setCell (by first | omega | (simp; done) | (simp; omega)) _).setCell (by first | omega | (simp; done) | (simp; omega)) _)⟩
  | false =>
    rw [hmay] at hm
    obtain ⟨n, d⟩ := r
    have HM := Lib.hid hm
    have HO := Lib.hid (fun w => over_any w)
    clear hm hmay h64
    go_enter Tryd.func18, Tryd.ntmps18
    go_wp2_with fail
    ((with_reducible refine (HM.out _).mono ?_); rintro e w' ⟨rfl, hbw⟩)
    obtain ⟨m, rfl⟩ := grow_mk hbw
    clear hbw
    go_wp2_with fail
    ((with_reducible refine (HO.out _).mono ?_); rintro e w' ⟨rfl, hbw⟩)
    obtain ⟨m2, rfl⟩ := grow_mk hbw
    clear hbw
    go_wp2_with fail
    exact bodyPost_ret (v := .agg #[.int .i64 0, .int .i64 0]) (by simp [results, Tryd.results18, go_sem]) rfl ⟨rfl, (((below_grow (below_grow ((below_box _ _).alloc (by simp) _) m) m2).setCell (by first | omega | (simp; done) | (simp; omega)) _).setCell (by first | omega | (simp; done) | (simp; omega)) _)⟩

end Go.Proofs.YtgjhaanpkfheeaaDoor
