/- Fractions as texts: the program's Text. -/
import Derived.Test.YtgjhaanpkfheeaaDoorTextN
import Derived.Test.YtgjhaanpkfheeaaDoorRatB
import Derived.Laws.Concat
namespace Go.Proofs.YtgjhaanpkfheeaaDoor
set_option linter.unusedVariables false
set_option linter.unusedSimpArgs false
open Go.RowKit Go.Lib

theorem ba_app (l m : List UInt8) : (⟨l.toArray⟩ ++ ⟨m.toArray⟩ : ByteArray) = ⟨(l ++ m).toArray⟩ := by
  apply ByteArray.ext
  simp
theorem run_cat (l m : List UInt8) (h : l.length + m.length ≤ 1000) (w : World) : (Op.stringOp .add ⟨l.toArray⟩ ⟨m.toArray⟩).run Tryd.prog w = .ok (.string ⟨(l ++ m).toArray⟩) w := by
  rw [run_string_add_sum w _ _ (by show l.length + m.length ≤ _; omega), ba_app]

set_option maxRecDepth 20000 in
set_option maxHeartbeats 4000000 in
theorem text_any (r : Rt) (w : World) (h64 : Is64 r) :
    Calls Tryd.prog 14 #[rv r] w fun e w' => e = .returned (.string ⟨(textF r).toArray⟩) ∧ Below w.heap.size w w' := by
  have hs := fun w => sure_any r w h64
  have HT := Lib.hid (show textF r = if sureB r then (if r.1 < 0 then 45 :: decDigits r.1.natAbs else decDigits r.1.natAbs) ++ (if 1 < r.2 then 47 :: decDigits r.2.toNat else []) else overT from rfl)
  generalize textF r = T at *
  obtain ⟨b1, b2, b3, b4⟩ := h64
  cases hb : sureB r with
  | false =>
    rw [hb] at hs HT
    have HS := Lib.hid hs
    obtain ⟨n, d⟩ := r
    clear hs hb
    go_enter Tryd.func14, Tryd.ntmps14
    go_wp2_with fail
    ((with_reducible refine (HS.out _).mono ?_); rintro e w' ⟨rfl, hbw⟩)
    obtain ⟨m, rfl⟩ := grow_mk hbw
    clear hbw
    go_wp2_with fail
    go_ret
    exact ⟨by rw [HT.out]; rfl, below_grow (below_box _ _) m⟩
  | true =>
    have hd := (sure_parts hb).1
    rw [hb] at hs HT
    rw [if_pos rfl] at HT
    have HS := Lib.hid hs
    obtain ⟨n, d⟩ := r
    simp only at *
    have HZ := Lib.hid (fun w => size_any n w b1 b2)
    have HN := Lib.hid (fun w => number_any n.natAbs w (by omega))
    have HE := Lib.hid (fun w => number_any d.toNat w (by omega))
    have hdn : ((d.toNat : Nat) : Int) = d := by omega
    rw [hdn] at HE
    have l1 : (decDigits n.natAbs).length ≤ 20 := by rw [decDigits_length]; exact nDigits_le20 _ (by omega)
    have l2 : (decDigits d.toNat).length ≤ 20 := by rw [decDigits_length]; exact nDigits_le20 _ (by omega)
    generalize decDigits n.natAbs = D at *
    generalize decDigits d.toNat = E at *
    generalize n.natAbs = N at *
    clear hs hb hdn
    have c1 := fun w => run_cat [45] D (by simp; omega) w
    have c2 := fun w => run_cat [47] E (by simp; omega) w
    have c3 := fun w => run_cat D (47 :: E) (by simp; omega) w
    have c4 := fun w => run_cat (45 :: D) (47 :: E) (by simp; omega) w
    simp only [List.cons_append, List.nil_append] at c1 c2 c4
    by_cases hn : n < 0
    · have gn : decide (n < 0) = true := by simpa using hn
      rw [if_pos hn] at HT
      by_cases hd1 : 1 < d
      · have gd : decide ((1 : Int) < d) = true := by simpa using hd1
        rw [if_pos hd1] at HT
        go_enter Tryd.func14, Tryd.ntmps14
        go_wp2_with fail
        ((with_reducible refine (HS.out _).mono ?_); rintro e w' ⟨rfl, hbw⟩)
        obtain ⟨m, rfl⟩ := grow_mk hbw
        clear hbw
        go_wp2_with fail
        ((with_reducible refine (HZ.out _).mono ?_); rintro e w' ⟨rfl, rfl⟩)
        go_wp2_with fail
        ((with_reducible refine (HN.out _).mono ?_); rintro e w' ⟨rfl, hbw⟩)
        obtain ⟨m2, rfl⟩ := grow_mk hbw
        clear hbw
        go_wp2_with fail
        ((with_reducible refine (HE.out _).mono ?_); rintro e w' ⟨rfl, hbw⟩)
        obtain ⟨m3, rfl⟩ := grow_mk hbw
        clear hbw
        go_wp2_with fail
        go_ret
        exact ⟨by rw [HT.out]; first | done | rfl | (simp; done), by repeat (first | with_reducible exact below_box _ _ | with_reducible refine below_grow ?_ _)⟩
      · have gd : decide ((1 : Int) < d) = false := by simpa using hd1
        rw [if_neg hd1, List.append_nil] at HT
        go_enter Tryd.func14, Tryd.ntmps14
        go_wp2_with fail
        ((with_reducible refine (HS.out _).mono ?_); rintro e w' ⟨rfl, hbw⟩)
        obtain ⟨m, rfl⟩ := grow_mk hbw
        clear hbw
        go_wp2_with fail
        ((with_reducible refine (HZ.out _).mono ?_); rintro e w' ⟨rfl, rfl⟩)
        go_wp2_with fail
        ((with_reducible refine (HN.out _).mono ?_); rintro e w' ⟨rfl, hbw⟩)
        obtain ⟨m2, rfl⟩ := grow_mk hbw
        clear hbw
        go_wp2_with fail
        go_ret
        exact ⟨by rw [HT.out]; first | done | rfl | (simp; done), by repeat (first | with_reducible exact below_box _ _ | with_reducible refine below_grow ?_ _)⟩
    · have gn : decide (n < 0) = false := by simpa using hn
      rw [if_neg hn] at HT
      by_cases hd1 : 1 < d
      · have gd : decide ((1 : Int) < d) = true := by simpa using hd1
        rw [if_pos hd1] at HT
        go_enter Tryd.func14, Tryd.ntmps14
        go_wp2_with fail
        ((with_reducible refine (HS.out _).mono ?_); rintro e w' ⟨rfl, hbw⟩)
        obtain ⟨m, rfl⟩ := grow_mk hbw
        clear hbw
        go_wp2_with fail
        ((with_reducible refine (HZ.out _).mono ?_); rintro e w' ⟨rfl, rfl⟩)
        go_wp2_with fail
        ((with_reducible refine (HN.out _).mono ?_); rintro e w' ⟨rfl, hbw⟩)
        obtain ⟨m2, rfl⟩ := grow_mk hbw
        clear hbw
        go_wp2_with fail
        ((with_reducible refine (HE.out _).mono ?_); rintro e w' ⟨rfl, hbw⟩)
        obtain ⟨m3, rfl⟩ := grow_mk hbw
        clear hbw
        go_wp2_with fail
        go_ret
        exact ⟨by rw [HT.out]; first | done | rfl | (simp; done), by repeat (first | with_reducible exact below_box _ _ | with_reducible refine below_grow ?_ _)⟩
      · have gd : decide ((1 : Int) < d) = false := by simpa using hd1
        rw [if_neg hd1, List.append_nil] at HT
        go_enter Tryd.func14, Tryd.ntmps14
        go_wp2_with fail
        ((with_reducible refine (HS.out _).mono ?_); rintro e w' ⟨rfl, hbw⟩)
        obtain ⟨m, rfl⟩ := grow_mk hbw
        clear hbw
        go_wp2_with fail
        ((with_reducible refine (HZ.out _).mono ?_); rintro e w' ⟨rfl, rfl⟩)
        go_wp2_with fail
        ((with_reducible refine (HN.out _).mono ?_); rintro e w' ⟨rfl, hbw⟩)
        obtain ⟨m2, rfl⟩ := grow_mk hbw
        clear hbw
        go_wp2_with fail
        go_ret
        exact ⟨by rw [HT.out]; first | done | rfl | (simp; done), by repeat (first | with_reducible exact below_box _ _ | with_reducible refine below_grow ?_ _)⟩

end Go.Proofs.YtgjhaanpkfheeaaDoor
