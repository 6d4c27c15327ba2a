/- Two by two through a slice, in the program: products. -/
import Derived.Test.YtgjhaanpkfheeaaDoorFoldA
namespace Go.Proofs.YtgjhaanpkfheeaaDoor
set_option linter.unusedVariables false
set_option linter.unusedSimpArgs false
open Go.RowKit

set_option maxHeartbeats 2000000 in
theorem folded_times (op : Rt → Rt → Rt) (hj : Joins 26 op) (nn : Rt) (oa : Option Addr) (len cap b o : Nat) (l : List Rt) (w : World) (h : Rats w oa len cap b o l) :
    Calls Tryd.prog 24 #[rv nn, .func (.func 26) #[] #[], .slice oa len cap] w fun e w' => e = .returned (rv (foldR op nn l)) ∧ Below w.heap.size w w' := by
  have hlen := h.hlen
  subst hlen
  have hcap := h.hcap
  have hsm : l.length ≤ 9223372036854775807 := Nat.le_trans (Nat.le_trans h.hcap h.small) (by decide)
  have H := Lib.hid h
  have HJ := Lib.hid hj
  clear h hj
  obtain ⟨nn1, nn2⟩ := nn
  cases l with
  | nil =>
    go_enter Tryd.func24, Tryd.ntmps24
    go_wp2_with fail
    exact bodyPost_ret (v := .agg #[.int .i64 nn1, .int .i64 nn2]) (by simp [results, Tryd.results24, go_sem]) rfl ⟨rfl, ((below_box _ _).alloc (by simp) _)⟩
  | cons x l =>
    have hoa := H.out.at_ (by simp)
    have hbl := H.out.lt (by simp)
    have e0 := H.out.c0 0 x rfl
    have e1 := H.out.c1 0 x rfl
    have x64 := H.out.is64 0 x rfl
    have hs := fun w => sure_any x w x64
    simp only [Nat.zero_mul, Nat.add_zero] at e0 e1
    have gL : (((x :: l).length : Int) == 0) = false := by rw [beq_eq_false_iff_ne]; simp; omega
    have hlen : (x :: l).length = l.length + 1 := rfl
    rw [hlen] at gL hcap hsm
    subst hoa
    cases hsure : sureB x with
    | false =>
      have HF := Lib.hid (show foldR op (nn1, nn2) (x :: l) = (0, 0) by show (if sureB x then opG op x l else (0, 0)) = _; rw [hsure]; rfl)
      rw [hsure] at hs
      obtain ⟨n0, d0⟩ := x
      have HS := Lib.hid hs
      rw [hlen]
      clear hs
      go_enter Tryd.func24, Tryd.ntmps24
      go_wp2_with fail
      ((with_reducible refine (HS.out _).mono ?_); rintro e w' ⟨rfl, hbw⟩)
      obtain ⟨m, rfl⟩ := grow_mk hbw
      clear hbw
      go_wp2_with fail
      exact bodyPost_ret (v := .agg #[.int .i64 0, .int .i64 0]) (by simp [results, Tryd.results24, go_sem]) rfl ⟨(by rw [HF.out]), ((below_grow (((below_box _ _).alloc (by simp) _).alloc (by simp; omega) _) m).setCell (by first | omega | (simp; done) | (simp; omega)) _).setCell (by first | omega | (simp; done) | (simp; omega)) _⟩
    | true =>
      rw [hsure] at hs
      have HL := Lib.hid (show foldR op (nn1, nn2) (x :: l) = opG op x l by show (if sureB x then opG op x l else (0, 0)) = _; rw [hsure]; rfl)
      have HT := Lib.hid H.out.tail
      have ht := HT.out.at_
      have hlc : l.length ≤ cap - 1 := by omega
      have hcp : 1 ≤ cap := by omega
      obtain ⟨n0, d0⟩ := x
      have HS := Lib.hid hs
      have HO := Lib.hid (HJ.out.2)
      have H6 := Lib.hid (HJ.out.1)
      rw [hlen]
      clear hs
      by_cases hc1 : cap = 1
      · have hl0 : l = [] := List.eq_nil_of_length_eq_zero (by omega)
        subst hc1; subst hl0
        have HL := Lib.hid (HL.out.trans rfl)
        clear HO H6 HT ht HJ
        go_enter Tryd.func24, Tryd.ntmps24
        go_wp2_with fail
        ((with_reducible refine (HS.out _).mono ?_); rintro e w' ⟨rfl, hbw⟩)
        obtain ⟨m, rfl⟩ := grow_mk hbw
        clear hbw
        go_wp2_with fail
        go_loopg [24] 0 (fun k s wr => s = .int .i64 0 ∧ Hid (Gj w wr 23 op [] (n0, d0) 0 (n0, d0)))
        case atStart => exact ⟨rfl, Lib.hid ⟨below_grow (((below_box _ _).alloc (by simp) _).alloc (by simp; omega) _) m, ((((Blk.new _ _ _).old _).grow m).moved (by simp)), (((Blk.new _ _ _).grow m).moved (by simp)), x64, Nat.le_refl _, rfl⟩⟩
        case round =>
          obtain ⟨rfl, hg⟩ := hrel
          have co0 : wr.cell? ⟨w.heap.size + 1 + 1, 0, none⟩ = some (.int .i64 n0) := (hg.out.best).cell 0
          have fco0 := (hg.out.best).frozen 0
          have co1 : wr.cell? ⟨w.heap.size + 1 + 1, 1, none⟩ = some (.int .i64 d0) := (hg.out.best).cell 1
          have fco1 := (hg.out.best).frozen 1
          have lco := (hg.out.best).lt
          have cr0 : wr.cell? ⟨w.heap.size + 1, 0, none⟩ = some (.int .i64 0) := (hg.out.res).cell 0
          have fcr0 := (hg.out.res).frozen 0
          have cr1 : wr.cell? ⟨w.heap.size + 1, 1, none⟩ = some (.int .i64 0) := (hg.out.res).cell 1
          have fcr1 := (hg.out.res).frozen 1
          have lcr := (hg.out.res).lt
          go_wp2_with fail
          exact bodyPost_ret (v := .agg #[.int .i64 n0, .int .i64 d0]) (by simp [results, Tryd.results24, go_sem, cr0, cr1, lcr]) rfl ⟨(by rw [HL.out]; rfl), ((hg.out.below.setCell (by first | omega | (simp; done) | (simp; omega)) _).setCell (by first | omega | (simp; done) | (simp; omega)) _)⟩
      · obtain ⟨o2, ho2⟩ : ∃ o2, o2 = o + 2 := ⟨_, rfl⟩
        obtain ⟨c2, hc2⟩ : ∃ c2, c2 = cap - 1 := ⟨_, rfl⟩
        go_enter Tryd.func24, Tryd.ntmps24
        go_wp2_with fail
        ((with_reducible refine (HS.out _).mono ?_); rintro e w' ⟨rfl, hbw⟩)
        obtain ⟨m, rfl⟩ := grow_mk hbw
        clear hbw
        go_wp2_with fail
        rw [← ho2, ← hc2]
        rw [← ho2, ← hc2] at HT
        clear e0 e1 ho2 hc2 hc1 hcp ht
        go_loopg [24] l.length (fun k s wr => ∃ (i : Nat) (out : Rt), s = .int .i64 i ∧ Hid (Gj w wr 23 op l (n0, d0) i out) ∧ l.length - i ≤ k)
        case atStart =>
          exact ⟨0, (n0, d0), rfl, Lib.hid ⟨below_grow (((below_box _ _).alloc (by simp) _).alloc (by simp; omega) _) m, ((((Blk.new _ _ _).old _).grow m).moved (by simp)), (((Blk.new _ _ _).grow m).moved (by simp)), x64, Nat.zero_le _, rfl⟩, by omega⟩
        case round =>
          obtain ⟨i, out, rfl, hg, hk⟩ := hrel
          have hle := hg.out.le
          by_cases hi : i < l.length
          · have hr : l[i]? = some l[i] := List.getElem?_eq_getElem hi
            have e0 := HT.out.c0 i _ hr
            have e1 := HT.out.c1 i _ hr
            have h64 := HT.out.is64 i _ hr
            have hdrop : l.drop i = l[i] :: l.drop (i + 1) := List.drop_eq_getElem_cons hi
            have hlaw := hg.out.law
            rw [hdrop] at hlaw
            clear hdrop hr
            generalize l[i] = x at *
            obtain ⟨n, d⟩ := x
            have f0 : wr.cell? ⟨b, o2 + i * 2, none⟩ = some (.int .i64 n) := (hg.out.below.cell hbl).trans e0
            have f1 : wr.cell? ⟨b, o2 + i * 2 + 1, none⟩ = some (.int .i64 d) := (hg.out.below.cell hbl).trans e1
            clear e0 e1
            obtain ⟨p, q⟩ := out
            have cp0 : wr.cell? ⟨w.heap.size + 1 + 1, 0, none⟩ = some (.int .i64 p) := (hg.out.best).cell 0
            have fcp0 := (hg.out.best).frozen 0
            have cp1 : wr.cell? ⟨w.heap.size + 1 + 1, 1, none⟩ = some (.int .i64 q) := (hg.out.best).cell 1
            have fcp1 := (hg.out.best).frozen 1
            have lcp := (hg.out.best).lt
            go_wp2_with fail
            clear cp0 cp1 fcp0 fcp1 lcp
            have o64 := hg.out.i64
            have hs := fun w => sure_any (p, q) w o64
            have ht := fun w => sure_any (n, d) w h64
            have hx := Blk.new wr 23 #[.int .i64 n, .int .i64 d]
            replace hg := hg.out.alloc (.cells #[.int .i64 n, .int .i64 d] 23)
            clear f0 f1 HS
            generalize wr.heap.size = g at *
            generalize wr.alloc _ = wa at *
            have cx0 : wa.cell? ⟨g, 0, none⟩ = some (.int .i64 n) := (hx).cell 0
            have fcx0 := (hx).frozen 0
            have cx1 : wa.cell? ⟨g, 1, none⟩ = some (.int .i64 d) := (hx).cell 1
            have fcx1 := (hx).frozen 1
            have lcx := (hx).lt
            have co0 : wa.cell? ⟨w.heap.size + 1 + 1, 0, none⟩ = some (.int .i64 p) := (hg.best).cell 0
            have fco0 := (hg.best).frozen 0
            have co1 : wa.cell? ⟨w.heap.size + 1 + 1, 1, none⟩ = some (.int .i64 q) := (hg.best).cell 1
            have fco1 := (hg.best).frozen 1
            have lco := (hg.best).lt
            have cr0 : wa.cell? ⟨w.heap.size + 1, 0, none⟩ = some (.int .i64 0) := (hg.res).cell 0
            have fcr0 := (hg.res).frozen 0
            have cr1 : wa.cell? ⟨w.heap.size + 1, 1, none⟩ = some (.int .i64 0) := (hg.res).cell 1
            have fcr1 := (hg.res).frozen 1
            have lcr := (hg.res).lt
            clear hsure
            cases hsp : sureB (p, q) with
            | false =>
              rw [hsp] at hs
              have HS := Lib.hid hs
              have HF := Lib.hid (show opG op (n0, d0) l = (0, 0) by rw [← hlaw]; unfold opG; rw [hsp]; rfl)
              clear hs ht hlaw hsp
              go_wp2_with fail
              ((with_reducible refine (HS.out _).mono ?_); rintro e w' ⟨rfl, hbw⟩)
              obtain ⟨m1, rfl⟩ := grow_mk hbw
              clear hbw
              go_wp2_with fail
              exact bodyPost_ret (v := .agg #[.int .i64 0, .int .i64 0]) (by simp [results, Tryd.results24, go_sem, cr0, cr1, lcr]) rfl ⟨(by rw [HL.out, HF.out]), (((hg.grow m1).below.setCell (by first | omega | (simp; done) | (simp; omega)) _).setCell (by first | omega | (simp; done) | (simp; omega)) _)⟩
            | true =>
              rw [hsp] at hs
              have HS := Lib.hid hs
              cases hsn : sureB (n, d) with
              | false =>
                rw [hsn] at ht
                have HT2 := Lib.hid ht
                have HF := Lib.hid (show opG op (n0, d0) l = (0, 0) by rw [← hlaw]; unfold opG; rw [hsp, hsn]; rfl)
                clear hs ht hlaw hsp hsn
                go_wp2_with fail
                ((with_reducible refine (HS.out _).mono ?_); rintro e w' ⟨rfl, hbw⟩)
                obtain ⟨m1, rfl⟩ := grow_mk hbw
                clear hbw
                go_wp2_with fail
                ((with_reducible refine (HT2.out _).mono ?_); rintro e w' ⟨rfl, hbw⟩)
                obtain ⟨m2, rfl⟩ := grow_mk hbw
                clear hbw
                go_wp2_with fail
                exact bodyPost_ret (v := .agg #[.int .i64 0, .int .i64 0]) (by simp [results, Tryd.results24, go_sem, cr0, cr1, lcr]) rfl ⟨(by rw [HL.out, HF.out]), ((((hg.grow m1).grow m2).below.setCell (by first | omega | (simp; done) | (simp; omega)) _).setCell (by first | omega | (simp; done) | (simp; omega)) _)⟩
              | true =>
                rw [hsn] at ht
                have HT2 := Lib.hid ht
                have hop := fun w => HO.out (p, q) (n, d) w o64 h64 hsp hsn
                have o6 := H6.out (p, q) (n, d)
                have hl2 : opG op (op (p, q) (n, d)) (l.drop (i + 1)) = opG op (n0, d0) l := by
                  rw [← hlaw]
                  conv => rhs; unfold opG
                  rw [hsp, hsn]; rfl
                generalize op (p, q) (n, d) = v at *
                obtain ⟨v1, v2⟩ := v
                have HP := Lib.hid hop
                have HF := Lib.hid hl2
                clear hs ht hlaw hsp hsn hop hl2
                go_wp2_with fail
                ((with_reducible refine (HS.out _).mono ?_); rintro e w' ⟨rfl, hbw⟩)
                obtain ⟨m1, rfl⟩ := grow_mk hbw
                clear hbw
                go_wp2_with fail
                ((with_reducible refine (HT2.out _).mono ?_); rintro e w' ⟨rfl, hbw⟩)
                obtain ⟨m2, rfl⟩ := grow_mk hbw
                clear hbw
                go_wp2_with (go_at_call 26; with_reducible refine (HP.out _).mono ?_; rintro e w' ⟨rfl, hbw⟩; obtain ⟨m3, rfl⟩ := grow_mk hbw; clear hbw)
                go_wp2_with fail
                go_roundg (l.length - (i + 1))
                case measure => omega
                case rel => exact ⟨i + 1, (v1, v2), by go_num, Lib.hid ((((hg.grow m1).grow m2).grow m3).set o6 hi HF.out), by omega⟩
          · obtain rfl : i = l.length := by omega
            obtain ⟨p, q⟩ := out
            have hlw := hg.out.law
            rw [List.drop_length] at hlw
            have HF := Lib.hid hlw
            have co0 : wr.cell? ⟨w.heap.size + 1 + 1, 0, none⟩ = some (.int .i64 p) := (hg.out.best).cell 0
            have fco0 := (hg.out.best).frozen 0
            have co1 : wr.cell? ⟨w.heap.size + 1 + 1, 1, none⟩ = some (.int .i64 q) := (hg.out.best).cell 1
            have fco1 := (hg.out.best).frozen 1
            have lco := (hg.out.best).lt
            have cr0 : wr.cell? ⟨w.heap.size + 1, 0, none⟩ = some (.int .i64 0) := (hg.out.res).cell 0
            have fcr0 := (hg.out.res).frozen 0
            have cr1 : wr.cell? ⟨w.heap.size + 1, 1, none⟩ = some (.int .i64 0) := (hg.out.res).cell 1
            have fcr1 := (hg.out.res).frozen 1
            have lcr := (hg.out.res).lt
            go_wp2_with fail
            exact bodyPost_ret (v := .agg #[.int .i64 p, .int .i64 q]) (by simp [results, Tryd.results24, go_sem, cr0, cr1, lcr]) rfl ⟨(by rw [HL.out, ← HF.out]; rfl), ((hg.out.below.setCell (by first | omega | (simp; done) | (simp; omega)) _).setCell (by first | omega | (simp; done) | (simp; omega)) _)⟩

end Go.Proofs.YtgjhaanpkfheeaaDoor
