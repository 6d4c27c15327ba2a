/- Numbers of a stylesheet: the program's way to take a text apart, walked. -/
import Derived.Test.YtgjhaanpkfheeaaDoorDecE
namespace Go.Proofs.YtgjhaanpkfheeaaDoor
set_option linter.unusedVariables false
set_option linter.unusedSimpArgs false
open Go.RowKit Go.Lib

set_option maxRecDepth 20000 in
set_option maxHeartbeats 8000000 in
theorem cut_parts (s : List UInt8) (w : World) (hl : s.length ≤ 9223372036854775807) :
    Calls Tryd.prog 37 #[.string ⟨s.toArray⟩] w (cutPost (partsF s) w) := by
  obtain ⟨PR, hPR⟩ : ∃ PR, partsF s = PR := ⟨_, rfl⟩
  rw [hPR]
  obtain ⟨sc, hsc⟩ : ∃ x, signC s = x := ⟨_, rfl⟩
  obtain ⟨sn, hsn⟩ : ∃ x, signN s = x := ⟨_, rfl⟩
  obtain ⟨t, ht⟩ : ∃ x, signS s = x := ⟨_, rfl⟩
  have htl : t.length ≤ 9223372036854775807 := by have := sign_len s; rw [ht] at this; omega
  have hways := sign_ways s
  rw [hsc, hsn, ht] at hways
  have HW := Lib.hid hways
  clear hways
  go_enter Tryd.func37, Tryd.ntmps37
  go_upto_region 2 with fail
  have hr : Blk ((w.alloc (.cells #[.bool false, .string ⟨#[]⟩, .int .i64 0, .int .i64 0, .bool false] 55)).alloc (.cells #[.bool false, .string ⟨#[]⟩, .int .i64 0, .int .i64 0, .bool false] 55)) w.heap.size 55 #[.bool false, .string ⟨#[]⟩, .int .i64 0, .int .i64 0, .bool false] := (Blk.new _ _ _).old _
  have hv : Blk ((w.alloc (.cells #[.bool false, .string ⟨#[]⟩, .int .i64 0, .int .i64 0, .bool false] 55)).alloc (.cells #[.bool false, .string ⟨#[]⟩, .int .i64 0, .int .i64 0, .bool false] 55)) (w.heap.size + 1) 55 #[.bool false, .string ⟨#[]⟩, .int .i64 0, .int .i64 0, .bool false] := by have := Blk.new (w.alloc (.cells #[.bool false, .string ⟨#[]⟩, .int .i64 0, .int .i64 0, .bool false] 55)) 55 #[.bool false, .string ⟨#[]⟩, .int .i64 0, .int .i64 0, .bool false]; simpa using this
  have hb : Below w.heap.size w ((w.alloc (.cells #[.bool false, .string ⟨#[]⟩, .int .i64 0, .int .i64 0, .bool false] 55)).alloc (.cells #[.bool false, .string ⟨#[]⟩, .int .i64 0, .int .i64 0, .bool false] 55)) := below_alloc_self (below_box _ _) _
  generalize (w.alloc _).alloc _ = wa at *
  have hg : w.heap.size < w.heap.size + 1 := Nat.lt_succ_self _
  generalize w.heap.size + 1 = g at *
  go_cut [21] (fun c wx => c = .bool sc ∧ wx = wa)
  case first =>
    rcases HW.out with ⟨rfl, rfl, rfl, rfl⟩ | ⟨a, b, rfl, g1, g2, rfl, rfl, rfl⟩ | ⟨b, rfl, rfl, rfl, rfl⟩ | ⟨b, rfl, rfl, rfl, rfl⟩
    all_goals
      go_wp2_with fail
      go_meet
      exact ⟨rfl, rfl⟩
  case rest =>
    obtain ⟨rfl, rfl⟩ := hcut
    go_upto_if 21 with fail
    go_cut [0] (fun s0 wx => s0 = .string ⟨t.toArray⟩ ∧ Below w.heap.size w wx ∧ Blk wx w.heap.size 55 #[.bool false, .string ⟨#[]⟩, .int .i64 0, .int .i64 0, .bool false] ∧ Blk wx g 55 #[.bool sn, .string ⟨#[]⟩, .int .i64 0, .int .i64 0, .bool false])
    case first =>
      rcases HW.out with ⟨rfl, rfl, rfl, rfl⟩ | ⟨a, b, rfl, g1, g2, rfl, rfl, rfl⟩ | ⟨b, rfl, rfl, rfl, rfl⟩ | ⟨b, rfl, rfl, rfl, rfl⟩
      · go_wp2_with fail
        go_meet
        exact ⟨rfl, hb, hr, hv⟩
      · go_wp2_with fail
        go_meet
        exact ⟨rfl, hb, hr, hv⟩
      · have hexa : (⟨(43 :: t).toArray⟩ : ByteArray).extract 1 (t.length + 1) = ⟨t.toArray⟩ := by rw [ByteArray.extract_mk]; simp
        have cv0 : wc.cell? ⟨g, 0, none⟩ = some (.bool false) := (hv).cell 0
        have fcv0 := (hv).frozen 0
        have cv1 : wc.cell? ⟨g, 1, none⟩ = some (.string ⟨#[]⟩) := (hv).cell 1
        have fcv1 := (hv).frozen 1
        have cv2 : wc.cell? ⟨g, 2, none⟩ = some (.int .i64 0) := (hv).cell 2
        have fcv2 := (hv).frozen 2
        have cv3 : wc.cell? ⟨g, 3, none⟩ = some (.int .i64 0) := (hv).cell 3
        have fcv3 := (hv).frozen 3
        have cv4 : wc.cell? ⟨g, 4, none⟩ = some (.bool false) := (hv).cell 4
        have fcv4 := (hv).frozen 4
        have lcv := (hv).lt
        go_wp2_with fail
        go_region
        all_goals
          go_wp2_with fail
          go_meet
          exact ⟨rfl, (hb.setCell (by simp; omega) _).drew, (hr.far (by simp; omega) _), ((hv.put 0 _).to rfl)⟩
      · have hexa : (⟨(45 :: t).toArray⟩ : ByteArray).extract 1 (t.length + 1) = ⟨t.toArray⟩ := by rw [ByteArray.extract_mk]; simp
        have cv0 : wc.cell? ⟨g, 0, none⟩ = some (.bool false) := (hv).cell 0
        have fcv0 := (hv).frozen 0
        have cv1 : wc.cell? ⟨g, 1, none⟩ = some (.string ⟨#[]⟩) := (hv).cell 1
        have fcv1 := (hv).frozen 1
        have cv2 : wc.cell? ⟨g, 2, none⟩ = some (.int .i64 0) := (hv).cell 2
        have fcv2 := (hv).frozen 2
        have cv3 : wc.cell? ⟨g, 3, none⟩ = some (.int .i64 0) := (hv).cell 3
        have fcv3 := (hv).frozen 3
        have cv4 : wc.cell? ⟨g, 4, none⟩ = some (.bool false) := (hv).cell 4
        have fcv4 := (hv).frozen 4
        have lcv := (hv).lt
        go_wp2_with fail
        go_region
        all_goals
          go_wp2_with fail
          go_meet
          exact ⟨rfl, (hb.setCell (by simp; omega) _).drew, (hr.far (by simp; omega) _), ((hv.put 0 _).to rfl)⟩
    case rest =>
      clear hb hr hv HW
      obtain ⟨rfl, hb, hr, hv⟩ := hcut
      obtain ⟨D, hD⟩ : ∃ x, t.takeWhile isD = x := ⟨_, rfl⟩
      obtain ⟨R, hR⟩ : ∃ x, t.dropWhile isD = x := ⟨_, rfl⟩
      have hDR : D ++ R = t := by rw [← hD, ← hR]; exact List.takeWhile_append_dropWhile
      have hd := fun w => digits_any t w htl
      rw [hD] at hd
      have HD := Lib.hid hd
      have hex1 : (⟨t.toArray⟩ : ByteArray).extract 0 D.length = ⟨D.toArray⟩ := by rw [ext_take, ← hDR]; simp
      have hex2 : (⟨t.toArray⟩ : ByteArray).extract D.length t.length = ⟨R.toArray⟩ := by rw [ext_drop _ _ rfl, ← hDR]; simp
      have hRl : R.length ≤ 9223372036854775807 := by rw [← hDR, List.length_append] at htl; omega
      have hnl : (D.length : Int) ≤ t.length := by rw [← hDR, List.length_append]; omega
      have hnl2 : D.length ≤ t.length := by omega
      have HPR := Lib.hid hPR
      have HDR := Lib.hid hDR
      have HTD := Lib.hid hD
      have HTR := Lib.hid hR
      have HSS := Lib.hid ht
      have HSN := Lib.hid hsn
      clear hd hDR hPR hD hR ht hsn hsc
      have cv0 : wc.cell? ⟨g, 0, none⟩ = some (.bool sn) := (hv).cell 0
      have fcv0 := (hv).frozen 0
      have cv1 : wc.cell? ⟨g, 1, none⟩ = some (.string ⟨#[]⟩) := (hv).cell 1
      have fcv1 := (hv).frozen 1
      have cv2 : wc.cell? ⟨g, 2, none⟩ = some (.int .i64 0) := (hv).cell 2
      have fcv2 := (hv).frozen 2
      have cv3 : wc.cell? ⟨g, 3, none⟩ = some (.int .i64 0) := (hv).cell 3
      have fcv3 := (hv).frozen 3
      have cv4 : wc.cell? ⟨g, 4, none⟩ = some (.bool false) := (hv).cell 4
      have fcv4 := (hv).frozen 4
      have lcv := (hv).lt
      go_wp2_with fail
      ((with_reducible refine (HD.out _).mono ?_); rintro e w' ⟨rfl, rfl⟩)
      go_upto_region 5 with fail
      go_cut [0] (fun s0 wx => s0 = .string ⟨R.toArray⟩ ∧ Below w.heap.size w wx ∧ Blk wx w.heap.size 55 #[.bool false, .string ⟨#[]⟩, .int .i64 0, .int .i64 0, .bool false] ∧ Blk wx g 55 #[.bool sn, .string ⟨D.toArray⟩, .int .i64 0, .int .i64 0, .bool true])
      case first =>
        go_region
        all_goals
          go_wp2_with fail
          go_meet
          exact ⟨rfl, ((hb.setCell (by simp; omega) _).setCell (by simp; omega) _).drew, ((hr.far (by simp; omega) _).far (by simp; omega) _), (((hv.put 1 _).put 4 _).to rfl)⟩
      case rest =>
        clear hb hr hv cv0 cv1 cv2 cv3 cv4 fcv0 fcv1 fcv2 fcv3 fcv4 lcv hex1 hex2
        obtain ⟨rfl, hb, hr, hv⟩ := hcut
        obtain ⟨p46, hp46⟩ : ∃ x, (R.head? == some 46) = x := ⟨_, rfl⟩
        have hw := head_ways 46 46 rfl R
        rw [hp46] at hw
        have H46 := Lib.hid hw
        have HP46 := Lib.hid hp46
        clear hw hp46
        go_upto_region 6 with fail
        go_cut [44] (fun c wx => c = .bool p46 ∧ wx = wc)
        case first =>
          rcases H46.out with ⟨rfl, rfl⟩ | ⟨a, b, rfl, g1, rfl⟩ | ⟨b, rfl, rfl⟩
          all_goals
            go_wp2_with fail
            go_meet
            exact ⟨rfl, rfl⟩
        case rest =>
          obtain ⟨rfl, e⟩ := hcut
          subst e
          go_upto_if 44 with fail
          go_cut [0] (fun s0 wx => ∃ (f : List UInt8) (w0 : Bool) (r2 : List UInt8), s0 = .string ⟨r2.toArray⟩ ∧ Hid (pointF R = some (f, w0, r2)) ∧ r2.length ≤ 9223372036854775807 ∧ D.length + f.length ≤ 9223372036854775807 ∧ Below w.heap.size w wx ∧ Blk wx w.heap.size 55 #[.bool false, .string ⟨#[]⟩, .int .i64 0, .int .i64 0, .bool false] ∧ Blk wx g 55 #[.bool sn, .string ⟨(D ++ f).toArray⟩, .int .i64 f.length, .int .i64 0, .bool w0])
          case first =>
            cases p46 with
            | false =>
              go_wp2_with fail
              go_meet
              exact ⟨[], true, R, rfl, Lib.hid (point_no HP46.out), hRl, by simp; omega, hb, hr, hv.to (by simp)⟩
            | true =>
              obtain ⟨r, rfl⟩ : ∃ r, R = 46 :: r := by
                rcases H46.out with ⟨_, h⟩ | ⟨a, b, _, _, h⟩ | ⟨b, h, _⟩
                · cases h
                · cases h
                · exact ⟨b, h⟩
              have hrl1 : r.length + 1 ≤ 9223372036854775807 := hRl
              have hrl : r.length ≤ 9223372036854775807 := by omega
              have hsum : D.length + r.length ≤ 9223372036854775807 := by
                have h := htl
                rw [← HDR.out, List.length_append, List.length_cons] at h
                omega
              have hd2 := fun w => digits_any r w hrl
              obtain ⟨K, hK⟩ : ∃ x, r.takeWhile isD = x := ⟨_, rfl⟩
              obtain ⟨Q, hQ⟩ : ∃ x, r.dropWhile isD = x := ⟨_, rfl⟩
              have hKQ : K ++ Q = r := by rw [← hK, ← hQ]; exact List.takeWhile_append_dropWhile
              rw [hK] at hd2
              have HD2 := Lib.hid hd2
              have hkl : K.length ≤ r.length := by rw [← hKQ, List.length_append]; omega
              have hql : Q.length ≤ r.length := by rw [← hKQ, List.length_append]; omega
              have hx0 : (⟨(46 :: r).toArray⟩ : ByteArray).extract 1 (r.length + 1) = ⟨r.toArray⟩ := (ext_drop (46 :: r) 1 rfl).trans (by simp)
              by_cases hK0 : K = []
              · have hpn := point_none (hK.trans hK0)
                have HPN := Lib.hid hpn
                clear hd2 hK hQ hKQ hpn
                subst hK0
                go_wp2_with fail
                ((with_reducible refine (HD2.out _).mono ?_); rintro e w' ⟨rfl, rfl⟩)
                have HF := Lib.hid (show PR = none by rw [← HPR.out]; exact parts_point (by rw [HSS.out, HTR.out]; exact HPN.out))
                have cv0 : wc.cell? ⟨g, 0, none⟩ = some (.bool sn) := (hv).cell 0
                have fcv0 := (hv).frozen 0
                have cv1 : wc.cell? ⟨g, 1, none⟩ = some (.string ⟨(D).toArray⟩) := (hv).cell 1
                have fcv1 := (hv).frozen 1
                have cv2 : wc.cell? ⟨g, 2, none⟩ = some (.int .i64 0) := (hv).cell 2
                have fcv2 := (hv).frozen 2
                have cv3 : wc.cell? ⟨g, 3, none⟩ = some (.int .i64 0) := (hv).cell 3
                have fcv3 := (hv).frozen 3
                have cv4 : wc.cell? ⟨g, 4, none⟩ = some (.bool true) := (hv).cell 4
                have fcv4 := (hv).frozen 4
                have lcv := (hv).lt
                have cr0 : wc.cell? ⟨w.heap.size, 0, none⟩ = some (.bool false) := (hr).cell 0
                have fcr0 := (hr).frozen 0
                have cr1 : wc.cell? ⟨w.heap.size, 1, none⟩ = some (.string ⟨#[]⟩) := (hr).cell 1
                have fcr1 := (hr).frozen 1
                have cr2 : wc.cell? ⟨w.heap.size, 2, none⟩ = some (.int .i64 0) := (hr).cell 2
                have fcr2 := (hr).frozen 2
                have cr3 : wc.cell? ⟨w.heap.size, 3, none⟩ = some (.int .i64 0) := (hr).cell 3
                have fcr3 := (hr).frozen 3
                have cr4 : wc.cell? ⟨w.heap.size, 4, none⟩ = some (.bool false) := (hr).cell 4
                have fcr4 := (hr).frozen 4
                have lcr := (hr).lt
                go_wp2_with fail
                exact bodyPost_ret (v := .tuple #[.agg #[.bool sn, .string ⟨(D).toArray⟩, .int .i64 0, .int .i64 0, .bool true], .bool false]) (by simp [results, Tryd.results37, go_sem, cr0, cr1, cr2, cr3, cr4, lcr, cv0, cv1, cv2, cv3, cv4, lcv]) rfl (cut_none HF.out (by repeat (first | with_reducible exact hb | (with_reducible refine Below.setCell ?_ ?hq _; case hq => first | (simp; done) | (simp; omega)) | with_reducible refine Below.drew ?_ | with_reducible refine below_alloc_self ?_ _ | with_reducible refine below_grow ?_ _)))
              · have hps := point_some (r := r) (by rw [hK]; exact hK0)
                rw [hK, hQ] at hps
                have HPS := Lib.hid hps
                have hk0 : K.length ≠ 0 := by simpa using hK0
                have gk : ((K.length : Int) == 0) = false := by simpa using hK0
                have hx1 : (⟨(46 :: r).toArray⟩ : ByteArray).extract 1 (1 + K.length) = ⟨K.toArray⟩ := by
                  rw [ByteArray.extract_mk, ← hKQ]
                  simp [Nat.add_comm]
                have hx2 : (⟨(46 :: r).toArray⟩ : ByteArray).extract (1 + K.length) (r.length + 1) = ⟨Q.toArray⟩ := by
                  refine (ext_drop (46 :: r) _ rfl).trans ?_
                  rw [← hKQ, Nat.add_comm]
                  simp
                have hk1 : 1 + K.length ≤ 9223372036854775807 := by omega
                have hcat := fun w => run_cat_max D K (by omega) w
                clear hd2 hK hQ hKQ hps hK0
                have cv0 : wc.cell? ⟨g, 0, none⟩ = some (.bool sn) := (hv).cell 0
                have fcv0 := (hv).frozen 0
                have cv1 : wc.cell? ⟨g, 1, none⟩ = some (.string ⟨(D).toArray⟩) := (hv).cell 1
                have fcv1 := (hv).frozen 1
                have cv2 : wc.cell? ⟨g, 2, none⟩ = some (.int .i64 0) := (hv).cell 2
                have fcv2 := (hv).frozen 2
                have cv3 : wc.cell? ⟨g, 3, none⟩ = some (.int .i64 0) := (hv).cell 3
                have fcv3 := (hv).frozen 3
                have cv4 : wc.cell? ⟨g, 4, none⟩ = some (.bool true) := (hv).cell 4
                have fcv4 := (hv).frozen 4
                have lcv := (hv).lt
                go_wp2_with fail
                ((with_reducible refine (HD2.out _).mono ?_); rintro e w' ⟨rfl, rfl⟩)
                go_upto_region 10 with fail
                go_cut [0] (fun s0 wx => s0 = .string ⟨(46 :: r).toArray⟩ ∧ Below w.heap.size w wx ∧ Blk wx w.heap.size 55 #[.bool false, .string ⟨#[]⟩, .int .i64 0, .int .i64 0, .bool false] ∧ Blk wx g 55 #[.bool sn, .string ⟨(D ++ K).toArray⟩, .int .i64 K.length, .int .i64 0, .bool false])
                case first =>
                  go_region
                  all_goals
                    go_wp2_with fail
                    go_meet
                    exact ⟨rfl, (((hb.setCell (by simp; omega) _).setCell (by simp; omega) _).setCell (by simp; omega) _).drew, (((hr.far (by simp; omega) _).far (by simp; omega) _).far (by simp; omega) _), ((((hv.put 1 _).put 2 _).put 4 _).to rfl)⟩
                case rest =>
                  clear hb hr hv cv0 cv1 cv2 cv3 cv4 fcv0 fcv1 fcv2 fcv3 fcv4 lcv
                  obtain ⟨rfl, hb, hr, hv⟩ := hcut
                  go_wp2_with fail
                  go_meet
                  exact ⟨K, false, Q, by rw [hx2], HPS, by omega, by omega, hb, hr, hv⟩
          case rest =>
            clear hb hr hv
            obtain ⟨f, w0, r2, rfl, HP, hr2, hDf, hb, hr, hv⟩ := hcut
            obtain ⟨E, hE⟩ : ∃ x, D ++ f = x := ⟨_, rfl⟩
            rw [hE] at hv
            have HE := Lib.hid hE
            clear hE
            have HPP := Lib.hid (show pointF ((signS s).dropWhile isD) = some (f, w0, r2) by rw [HSS.out, HTR.out]; exact HP.out)
            have HEE := Lib.hid (show (signS s).takeWhile isD ++ f = E by rw [HSS.out, HTD.out]; exact HE.out)
            cases E with
            | nil =>
              have HF := Lib.hid (show PR = none by rw [← HPR.out]; exact parts_bare HPP.out HEE.out)
              have cv0 : wc.cell? ⟨g, 0, none⟩ = some (.bool sn) := (hv).cell 0
              have fcv0 := (hv).frozen 0
              have cv1 : wc.cell? ⟨g, 1, none⟩ = some (.string ⟨([]).toArray⟩) := (hv).cell 1
              have fcv1 := (hv).frozen 1
              have cv2 : wc.cell? ⟨g, 2, none⟩ = some (.int .i64 f.length) := (hv).cell 2
              have fcv2 := (hv).frozen 2
              have cv3 : wc.cell? ⟨g, 3, none⟩ = some (.int .i64 0) := (hv).cell 3
              have fcv3 := (hv).frozen 3
              have cv4 : wc.cell? ⟨g, 4, none⟩ = some (.bool w0) := (hv).cell 4
              have fcv4 := (hv).frozen 4
              have lcv := (hv).lt
              have cr0 : wc.cell? ⟨w.heap.size, 0, none⟩ = some (.bool false) := (hr).cell 0
              have fcr0 := (hr).frozen 0
              have cr1 : wc.cell? ⟨w.heap.size, 1, none⟩ = some (.string ⟨#[]⟩) := (hr).cell 1
              have fcr1 := (hr).frozen 1
              have cr2 : wc.cell? ⟨w.heap.size, 2, none⟩ = some (.int .i64 0) := (hr).cell 2
              have fcr2 := (hr).frozen 2
              have cr3 : wc.cell? ⟨w.heap.size, 3, none⟩ = some (.int .i64 0) := (hr).cell 3
              have fcr3 := (hr).frozen 3
              have cr4 : wc.cell? ⟨w.heap.size, 4, none⟩ = some (.bool false) := (hr).cell 4
              have fcr4 := (hr).frozen 4
              have lcr := (hr).lt
              go_wp2_with fail
              exact bodyPost_ret (v := .tuple #[.agg #[.bool sn, .string ⟨([]).toArray⟩, .int .i64 f.length, .int .i64 0, .bool w0], .bool false]) (by simp [results, Tryd.results37, go_sem, cr0, cr1, cr2, cr3, cr4, lcr, cv0, cv1, cv2, cv3, cv4, lcv]) rfl (cut_none HF.out (by repeat (first | with_reducible exact hb | (with_reducible refine Below.setCell ?_ ?hq _; case hq => first | (simp; done) | (simp; omega)) | with_reducible refine Below.drew ?_ | with_reducible refine below_alloc_self ?_ _ | with_reducible refine below_grow ?_ _)))
            | cons a0 E =>
              have HQ := Lib.hid (show PR = (expF r2 w0).map fun x => (sn, a0 :: E, f.length, x.1, x.2) by rw [← HPR.out, parts_exp HPP.out (by rw [HEE.out]; simp), HEE.out, HSN.out])
              cases r2 with
              | nil =>
                have HF := Lib.hid (show PR = some (sn, a0 :: E, f.length, 0, w0) by rw [HQ.out, exp_nil]; rfl)
                have cv0 : wc.cell? ⟨g, 0, none⟩ = some (.bool sn) := (hv).cell 0
                have fcv0 := (hv).frozen 0
                have cv1 : wc.cell? ⟨g, 1, none⟩ = some (.string ⟨(a0 :: E).toArray⟩) := (hv).cell 1
                have fcv1 := (hv).frozen 1
                have cv2 : wc.cell? ⟨g, 2, none⟩ = some (.int .i64 f.length) := (hv).cell 2
                have fcv2 := (hv).frozen 2
                have cv3 : wc.cell? ⟨g, 3, none⟩ = some (.int .i64 0) := (hv).cell 3
                have fcv3 := (hv).frozen 3
                have cv4 : wc.cell? ⟨g, 4, none⟩ = some (.bool w0) := (hv).cell 4
                have fcv4 := (hv).frozen 4
                have lcv := (hv).lt
                have cr0 : wc.cell? ⟨w.heap.size, 0, none⟩ = some (.bool false) := (hr).cell 0
                have fcr0 := (hr).frozen 0
                have cr1 : wc.cell? ⟨w.heap.size, 1, none⟩ = some (.string ⟨#[]⟩) := (hr).cell 1
                have fcr1 := (hr).frozen 1
                have cr2 : wc.cell? ⟨w.heap.size, 2, none⟩ = some (.int .i64 0) := (hr).cell 2
                have fcr2 := (hr).frozen 2
                have cr3 : wc.cell? ⟨w.heap.size, 3, none⟩ = some (.int .i64 0) := (hr).cell 3
                have fcr3 := (hr).frozen 3
                have cr4 : wc.cell? ⟨w.heap.size, 4, none⟩ = some (.bool false) := (hr).cell 4
                have fcr4 := (hr).frozen 4
                have lcr := (hr).lt
                go_wp2_with fail
                exact bodyPost_ret (v := .tuple #[.agg #[.bool sn, .string ⟨(a0 :: E).toArray⟩, .int .i64 f.length, .int .i64 0, .bool w0], .bool true]) (by simp [results, Tryd.results37, go_sem, cr0, cr1, cr2, cr3, cr4, lcr, cv0, cv1, cv2, cv3, cv4, lcv]) rfl (cut_some HF.out (by repeat (first | with_reducible exact hb | (with_reducible refine Below.setCell ?_ ?hq _; case hq => first | (simp; done) | (simp; omega)) | with_reducible refine Below.drew ?_ | with_reducible refine below_alloc_self ?_ _ | with_reducible refine below_grow ?_ _)))
              | cons c r3 =>
                have hr3 : r3.length + 1 ≤ 9223372036854775807 := hr2
                have hew := exp_ways c
                obtain ⟨be, hbe⟩ : ∃ x, (c != 101 && c != 69) = x := ⟨_, rfl⟩
                rw [hbe] at hew
                have HEW := Lib.hid hew
                have HBE := Lib.hid hbe
                clear hew hbe
                have cv0 : wc.cell? ⟨g, 0, none⟩ = some (.bool sn) := (hv).cell 0
                have fcv0 := (hv).frozen 0
                have cv1 : wc.cell? ⟨g, 1, none⟩ = some (.string ⟨(a0 :: E).toArray⟩) := (hv).cell 1
                have fcv1 := (hv).frozen 1
                have cv2 : wc.cell? ⟨g, 2, none⟩ = some (.int .i64 f.length) := (hv).cell 2
                have fcv2 := (hv).frozen 2
                have cv3 : wc.cell? ⟨g, 3, none⟩ = some (.int .i64 0) := (hv).cell 3
                have fcv3 := (hv).frozen 3
                have cv4 : wc.cell? ⟨g, 4, none⟩ = some (.bool w0) := (hv).cell 4
                have fcv4 := (hv).frozen 4
                have lcv := (hv).lt
                go_upto_region 16 with fail
                go_cut [80] (fun x wx => x = .bool be ∧ wx = wc)
                case first =>
                  rcases HEW.out with ⟨rfl, rfl⟩ | ⟨rfl, rfl⟩ | ⟨g1, g2, g3, g4, rfl⟩
                  all_goals
                    go_wp2_with fail
                    go_meet
                    exact ⟨rfl, rfl⟩
                case rest =>
                  obtain ⟨rfl, e⟩ := hcut
                  subst e
                  cases be with
                  | true =>
                    clear cv0 cv1 cv2 cv3 cv4 fcv0 fcv1 fcv2 fcv3 fcv4 lcv
                    have HF := Lib.hid (show PR = none by rw [HQ.out, exp_no HBE.out]; rfl)
                    have cv0 : wc.cell? ⟨g, 0, none⟩ = some (.bool sn) := (hv).cell 0
                    have fcv0 := (hv).frozen 0
                    have cv1 : wc.cell? ⟨g, 1, none⟩ = some (.string ⟨(a0 :: E).toArray⟩) := (hv).cell 1
                    have fcv1 := (hv).frozen 1
                    have cv2 : wc.cell? ⟨g, 2, none⟩ = some (.int .i64 f.length) := (hv).cell 2
                    have fcv2 := (hv).frozen 2
                    have cv3 : wc.cell? ⟨g, 3, none⟩ = some (.int .i64 0) := (hv).cell 3
                    have fcv3 := (hv).frozen 3
                    have cv4 : wc.cell? ⟨g, 4, none⟩ = some (.bool w0) := (hv).cell 4
                    have fcv4 := (hv).frozen 4
                    have lcv := (hv).lt
                    have cr0 : wc.cell? ⟨w.heap.size, 0, none⟩ = some (.bool false) := (hr).cell 0
                    have fcr0 := (hr).frozen 0
                    have cr1 : wc.cell? ⟨w.heap.size, 1, none⟩ = some (.string ⟨#[]⟩) := (hr).cell 1
                    have fcr1 := (hr).frozen 1
                    have cr2 : wc.cell? ⟨w.heap.size, 2, none⟩ = some (.int .i64 0) := (hr).cell 2
                    have fcr2 := (hr).frozen 2
                    have cr3 : wc.cell? ⟨w.heap.size, 3, none⟩ = some (.int .i64 0) := (hr).cell 3
                    have fcr3 := (hr).frozen 3
                    have cr4 : wc.cell? ⟨w.heap.size, 4, none⟩ = some (.bool false) := (hr).cell 4
                    have fcr4 := (hr).frozen 4
                    have lcr := (hr).lt
                    go_wp2_with fail
                    exact bodyPost_ret (v := .tuple #[.agg #[.bool sn, .string ⟨(a0 :: E).toArray⟩, .int .i64 f.length, .int .i64 0, .bool w0], .bool false]) (by simp [results, Tryd.results37, go_sem, cr0, cr1, cr2, cr3, cr4, lcr, cv0, cv1, cv2, cv3, cv4, lcv]) rfl (cut_none HF.out (by repeat (first | with_reducible exact hb | (with_reducible refine Below.setCell ?_ ?hq _; case hq => first | (simp; done) | (simp; omega)) | with_reducible refine Below.drew ?_ | with_reducible refine below_alloc_self ?_ _ | with_reducible refine below_grow ?_ _)))
                  | false =>
                    have hex3 : (⟨(c :: r3).toArray⟩ : ByteArray).extract 1 (r3.length + 1) = ⟨r3.toArray⟩ := (ext_drop (c :: r3) 1 rfl).trans (by simp)
                    go_upto_region 18 with fail
                    go_cut [0] (fun s0 wx => s0 = .string ⟨r3.toArray⟩ ∧ Below w.heap.size w wx ∧ Blk wx w.heap.size 55 #[.bool false, .string ⟨#[]⟩, .int .i64 0, .int .i64 0, .bool false] ∧ Blk wx g 55 #[.bool sn, .string ⟨(a0 :: E).toArray⟩, .int .i64 f.length, .int .i64 0, .bool false])
                    case first =>
                      go_wp2_with fail
                      go_meet
                      exact ⟨rfl, hb.setCell (by simp; omega) _, hr.far (by simp; omega) _, (hv.put 4 _).to rfl⟩
                    case rest =>
                      clear hb hr hv hex3 cv0 cv1 cv2 cv3 cv4 fcv0 fcv1 fcv2 fcv3 fcv4 lcv
                      obtain ⟨rfl, hb, hr, hv⟩ := hcut
                      obtain ⟨sc2, hsc⟩ : ∃ x, signC r3 = x := ⟨_, rfl⟩
                      obtain ⟨sn2, hsn⟩ : ∃ x, signN r3 = x := ⟨_, rfl⟩
                      obtain ⟨t3, ht⟩ : ∃ x, signS r3 = x := ⟨_, rfl⟩
                      have ht3 : t3.length ≤ 9223372036854775807 := by have := sign_len r3; rw [ht] at this; omega
                      have hways := sign_ways r3
                      rw [hsc, hsn, ht] at hways
                      have HW := Lib.hid hways
                      have HS3 := Lib.hid ht
                      have HN3 := Lib.hid hsn
                      clear hways hsc hsn ht
                      go_upto_region 20 with fail
                      go_cut [96] (fun x wx => x = .bool sc2 ∧ wx = wc)
                      case first =>
                        rcases HW.out with ⟨rfl, rfl, rfl, rfl⟩ | ⟨a, b, rfl, g1, g2, rfl, rfl, rfl⟩ | ⟨b, rfl, rfl, rfl, rfl⟩ | ⟨b, rfl, rfl, rfl, rfl⟩
                        all_goals
                          go_wp2_with fail
                          go_meet
                          exact ⟨rfl, rfl⟩
                      case rest =>
                        obtain ⟨rfl, e⟩ := hcut
                        subst e
                        go_upto_if 96 with fail
                        go_cut [0, 7] (fun s0 s7 wx => s0 = .string ⟨t3.toArray⟩ ∧ s7 = .bool sn2 ∧ ∃ ex : Ext wc, wx = grow wc ex)
                        case first =>
                          rcases HW.out with ⟨rfl, rfl, rfl, rfl⟩ | ⟨a, b, rfl, g1, g2, rfl, rfl, rfl⟩ | ⟨b, rfl, rfl, rfl, rfl⟩ | ⟨b, rfl, rfl, rfl, rfl⟩
                          · go_wp2_with fail
                            go_meet
                            exact ⟨rfl, rfl, ext_self _⟩
                          · go_wp2_with fail
                            go_meet
                            exact ⟨rfl, rfl, ext_self _⟩
                          · have hexa : (⟨(43 :: t3).toArray⟩ : ByteArray).extract 1 (t3.length + 1) = ⟨t3.toArray⟩ := (ext_drop (43 :: t3) 1 rfl).trans (by simp)
                            go_wp2_with fail
                            go_region
                            all_goals
                              go_wp2_with fail
                              go_meet
                              exact ⟨rfl, rfl, ext_drew _⟩
                          · have hexa : (⟨(45 :: t3).toArray⟩ : ByteArray).extract 1 (t3.length + 1) = ⟨t3.toArray⟩ := (ext_drop (45 :: t3) 1 rfl).trans (by simp)
                            go_wp2_with fail
                            go_region
                            all_goals
                              go_wp2_with fail
                              go_meet
                              exact ⟨rfl, rfl, ext_drew _⟩
                        case rest =>
                          obtain ⟨rfl, rfl, ex, e⟩ := hcut
                          subst e
                          replace hb := below_grow hb ex
                          replace hr := hr.grow ex
                          replace hv := hv.grow ex
                          generalize grow wc ex = wc at *
                          have hbw := bad_ways t3
                          obtain ⟨bad, hbad⟩ : ∃ x, (decide (t3 = []) || decide ((t3.takeWhile isD).length < t3.length)) = x := ⟨_, rfl⟩
                          rw [hbad] at hbw
                          have HD3 := Lib.hid (fun w => digits_any t3 w ht3)
                          have HBAD := Lib.hid hbad
                          clear hbad
                          generalize (t3.takeWhile isD).length = K3 at hbw HD3
                          have HBW := Lib.hid hbw
                          clear hbw
                          go_upto_region 22 with fail
                          go_cut [110] (fun x wx => x = .bool bad ∧ wx = wc)
                          case first =>
                            rcases HBW.out with ⟨rfl, rfl⟩ | ⟨a, b, rfl, hb2⟩
                            · go_wp2_with fail
                              go_meet
                              exact ⟨rfl, rfl⟩
                            · go_wp2_with fail
                              ((with_reducible refine (HD3.out _).mono ?_); rintro e w' ⟨rfl, rfl⟩)
                              go_wp2_with fail
                              go_meet
                              exact ⟨by rw [hb2]; simp, rfl⟩
                          case rest =>
                            obtain ⟨rfl, e⟩ := hcut
                            subst e
                            clear HD3 HBW
                            cases bad with
                            | true =>
                              have HF := Lib.hid (show PR = none by rw [HQ.out, exp_bad HBE.out (by rw [HS3.out]; exact bad_yes HBAD.out)]; rfl)
                              have cv0 : wc.cell? ⟨g, 0, none⟩ = some (.bool sn) := (hv).cell 0
                              have fcv0 := (hv).frozen 0
                              have cv1 : wc.cell? ⟨g, 1, none⟩ = some (.string ⟨(a0 :: E).toArray⟩) := (hv).cell 1
                              have fcv1 := (hv).frozen 1
                              have cv2 : wc.cell? ⟨g, 2, none⟩ = some (.int .i64 f.length) := (hv).cell 2
                              have fcv2 := (hv).frozen 2
                              have cv3 : wc.cell? ⟨g, 3, none⟩ = some (.int .i64 0) := (hv).cell 3
                              have fcv3 := (hv).frozen 3
                              have cv4 : wc.cell? ⟨g, 4, none⟩ = some (.bool false) := (hv).cell 4
                              have fcv4 := (hv).frozen 4
                              have lcv := (hv).lt
                              have cr0 : wc.cell? ⟨w.heap.size, 0, none⟩ = some (.bool false) := (hr).cell 0
                              have fcr0 := (hr).frozen 0
                              have cr1 : wc.cell? ⟨w.heap.size, 1, none⟩ = some (.string ⟨#[]⟩) := (hr).cell 1
                              have fcr1 := (hr).frozen 1
                              have cr2 : wc.cell? ⟨w.heap.size, 2, none⟩ = some (.int .i64 0) := (hr).cell 2
                              have fcr2 := (hr).frozen 2
                              have cr3 : wc.cell? ⟨w.heap.size, 3, none⟩ = some (.int .i64 0) := (hr).cell 3
                              have fcr3 := (hr).frozen 3
                              have cr4 : wc.cell? ⟨w.heap.size, 4, none⟩ = some (.bool false) := (hr).cell 4
                              have fcr4 := (hr).frozen 4
                              have lcr := (hr).lt
                              go_wp2_with fail
                              exact bodyPost_ret (v := .tuple #[.agg #[.bool sn, .string ⟨(a0 :: E).toArray⟩, .int .i64 f.length, .int .i64 0, .bool false], .bool false]) (by simp [results, Tryd.results37, go_sem, cr0, cr1, cr2, cr3, cr4, lcr, cv0, cv1, cv2, cv3, cv4, lcv]) rfl (cut_none HF.out (by repeat (first | with_reducible exact hb | (with_reducible refine Below.setCell ?_ ?hq _; case hq => first | (simp; done) | (simp; omega)) | with_reducible refine Below.drew ?_ | with_reducible refine below_alloc_self ?_ _ | with_reducible refine below_grow ?_ _)))
                            | false =>
                              obtain ⟨hne3, hall3⟩ := bad_no HBAD.out
                              have HQ2 := Lib.hid (show PR = some (sn, a0 :: E, f.length, if sn2 then -(capD t3 : Int) else capD t3, false) by rw [HQ.out, exp_good HBE.out (by rw [HS3.out]; exact hne3) (by rw [HS3.out]; exact hall3), HS3.out, HN3.out]; rfl)
                              have HALL := Lib.hid hall3
                              clear hne3 hall3
                              obtain ⟨cap, w1, hrun, hb1, hrow⟩ := bytes_row t3 wc
                              have hgl := hv.lt
                              have hzl := hr.lt
                              obtain ⟨ex1, e⟩ := grow_mk hb1
                              subst e
                              replace hb := below_grow hb ex1
                              replace hr := hr.grow ex1
                              replace hv := hv.grow ex1
                              obtain ⟨B, hB⟩ : ∃ x, wc.heap.size = x := ⟨_, rfl⟩
                              rw [hB] at hrow hrun hgl hzl
                              clear hb1
                              generalize grow wc ex1 = w1 at *
                              obtain ⟨n, hn⟩ : ∃ x, t3.length = x := ⟨_, rfl⟩
                              rw [hn] at hrun ht3
                              have HN := Lib.hid hn
                              clear hn hB
                              go_upto_region 24 with fail
                              go_cut [113, 114, 115] (fun y z x wx => y = .slice (some ⟨B, 0, none⟩) n cap ∧ z = .int .i64 n ∧ x = .int .i64 0 ∧ wx = w1)
                              case first =>
                                go_wp2_with fail
                                go_meet
                                exact ⟨rfl, rfl, rfl, rfl⟩
                              case rest =>
                                obtain ⟨rfl, rfl, rfl, e⟩ := hcut
                                subst e
                                clear hrun
                                go_wp2_with fail
                                go_loopg [115] n (fun k s wx => ∃ (i : Nat), s = .int .i64 i ∧ i ≤ n ∧ n - i ≤ k ∧ Below w.heap.size w wx ∧ Blk wx w.heap.size 55 #[.bool false, .string ⟨#[]⟩, .int .i64 0, .int .i64 0, .bool false] ∧ Blk wx g 55 #[.bool sn, .string ⟨(a0 :: E).toArray⟩, .int .i64 f.length, .int .i64 (capD (t3.take i) : Nat), .bool false] ∧ BRow wx B t3)
                                case atStart => exact ⟨0, rfl, Nat.zero_le _, by omega, hb, hr, hv.to rfl, hrow⟩
                                case round =>
                                  clear hb hr hv hrow
                                  obtain ⟨i, rfl, hle, hk, hb, hr, hv, hrow⟩ := hrel
                                  have hgl := hv.lt
                                  by_cases hi : i < n
                                  · have gi : decide ((i : Int) < n) = true := by simpa using hi
                                    have hil : i < t3.length := by rw [HN.out]; exact hi
                                    have hr0 : t3[i]? = some (t3[i]'hil) := List.getElem?_eq_getElem hil
                                    have hst : capD (t3.take (i + 1)) = min 1099511627776 (capD (t3.take i) * 10 + ((t3[i]'hil).toNat - 48)) := by
                                      rw [List.take_add_one, hr0]
                                      exact capD_snoc _ _
                                    have hcc := hrow.cell hr0
                                    have hdg : isD (t3[i]'hil) = true := List.all_eq_true.1 HALL.out _ (List.getElem_mem _)
                                    have hcap := capD_le (t3.take i)
                                    generalize t3[i]'hil = c9 at *
                                    simp only [isD, Bool.and_eq_true, decide_eq_true_eq] at hdg
                                    obtain ⟨c1, c2⟩ := hdg
                                    have HST := Lib.hid hst
                                    clear hst hr0
                                    generalize capD (t3.take i) = v at *
                                    generalize c9.toNat = d9 at *
                                    have cv0 : wr.cell? ⟨g, 0, none⟩ = some (.bool sn) := (hv).cell 0
                                    have fcv0 := (hv).frozen 0
                                    have cv1 : wr.cell? ⟨g, 1, none⟩ = some (.string ⟨(a0 :: E).toArray⟩) := (hv).cell 1
                                    have fcv1 := (hv).frozen 1
                                    have cv2 : wr.cell? ⟨g, 2, none⟩ = some (.int .i64 f.length) := (hv).cell 2
                                    have fcv2 := (hv).frozen 2
                                    have cv3 : wr.cell? ⟨g, 3, none⟩ = some (.int .i64 v) := (hv).cell 3
                                    have fcv3 := (hv).frozen 3
                                    have cv4 : wr.cell? ⟨g, 4, none⟩ = some (.bool false) := (hv).cell 4
                                    have fcv4 := (hv).frozen 4
                                    have lcv := (hv).lt
                                    go_wp2_with fail
                                    go_roundg (n - (i + 1))
                                    case measure => omega
                                    case rel => exact ⟨i + 1, by go_num, hi, by omega, (hb.setCell (by simp; omega) _), hr.far (by simp; omega) _, (hv.put 3 _).to (by rw [HST.out]; simp; omega), hrow.far (by simp; omega) _⟩
                                  · obtain rfl : i = n := by omega
                                    rw [show t3.take i = t3 from List.take_of_length_le (by rw [HN.out]; exact Nat.le_refl _)] at hv
                                    have hcap := capD_le t3
                                    obtain ⟨v, hvv⟩ : ∃ x, capD t3 = x := ⟨_, rfl⟩
                                    rw [hvv] at hv hcap
                                    have HVV := Lib.hid hvv
                                    clear hvv hrow hk hi
                                    cases sn2 with
                                    | true =>
                                      have cv0 : wr.cell? ⟨g, 0, none⟩ = some (.bool sn) := (hv).cell 0
                                      have fcv0 := (hv).frozen 0
                                      have cv1 : wr.cell? ⟨g, 1, none⟩ = some (.string ⟨(a0 :: E).toArray⟩) := (hv).cell 1
                                      have fcv1 := (hv).frozen 1
                                      have cv2 : wr.cell? ⟨g, 2, none⟩ = some (.int .i64 f.length) := (hv).cell 2
                                      have fcv2 := (hv).frozen 2
                                      have cv3 : wr.cell? ⟨g, 3, none⟩ = some (.int .i64 v) := (hv).cell 3
                                      have fcv3 := (hv).frozen 3
                                      have cv4 : wr.cell? ⟨g, 4, none⟩ = some (.bool false) := (hv).cell 4
                                      have fcv4 := (hv).frozen 4
                                      have lcv := (hv).lt
                                      go_upto_region 31 with fail
                                      have hv2 : Blk (wr.setCell ⟨g, 3, none⟩ (.int .i64 (-(v : Int)))) g 55 #[.bool sn, .string ⟨(a0 :: E).toArray⟩, .int .i64 f.length, .int .i64 (-(v : Int)), .bool false] := (hv.put 3 _).to rfl
                                      have hr2 := hr.far (p := ⟨g, 3, none⟩) (by simp; omega) (.int .i64 (-(v : Int)))
                                      have hb2 := hb.setCell (p := ⟨g, 3, none⟩) (by simp; omega) (.int .i64 (-(v : Int)))
                                      clear hb hr hv cv0 cv1 cv2 cv3 cv4 fcv0 fcv1 fcv2 fcv3 fcv4 lcv
                                      generalize wr.setCell _ _ = wr at *
                                      have hb := hb2
                                      have hr := hr2
                                      have hv := hv2
                                      have HF := Lib.hid (show PR = some (sn, a0 :: E, f.length, (-(v : Int)), false) by rw [HQ2.out, HVV.out]; rfl)
                                      have cv0 : wr.cell? ⟨g, 0, none⟩ = some (.bool sn) := (hv).cell 0
                                      have fcv0 := (hv).frozen 0
                                      have cv1 : wr.cell? ⟨g, 1, none⟩ = some (.string ⟨(a0 :: E).toArray⟩) := (hv).cell 1
                                      have fcv1 := (hv).frozen 1
                                      have cv2 : wr.cell? ⟨g, 2, none⟩ = some (.int .i64 f.length) := (hv).cell 2
                                      have fcv2 := (hv).frozen 2
                                      have cv3 : wr.cell? ⟨g, 3, none⟩ = some (.int .i64 (-(v : Int))) := (hv).cell 3
                                      have fcv3 := (hv).frozen 3
                                      have cv4 : wr.cell? ⟨g, 4, none⟩ = some (.bool false) := (hv).cell 4
                                      have fcv4 := (hv).frozen 4
                                      have lcv := (hv).lt
                                      have cr0 : wr.cell? ⟨w.heap.size, 0, none⟩ = some (.bool false) := (hr).cell 0
                                      have fcr0 := (hr).frozen 0
                                      have cr1 : wr.cell? ⟨w.heap.size, 1, none⟩ = some (.string ⟨#[]⟩) := (hr).cell 1
                                      have fcr1 := (hr).frozen 1
                                      have cr2 : wr.cell? ⟨w.heap.size, 2, none⟩ = some (.int .i64 0) := (hr).cell 2
                                      have fcr2 := (hr).frozen 2
                                      have cr3 : wr.cell? ⟨w.heap.size, 3, none⟩ = some (.int .i64 0) := (hr).cell 3
                                      have fcr3 := (hr).frozen 3
                                      have cr4 : wr.cell? ⟨w.heap.size, 4, none⟩ = some (.bool false) := (hr).cell 4
                                      have fcr4 := (hr).frozen 4
                                      have lcr := (hr).lt
                                      go_wp2_with fail
                                      exact bodyPost_ret (v := .tuple #[.agg #[.bool sn, .string ⟨(a0 :: E).toArray⟩, .int .i64 f.length, .int .i64 (-(v : Int)), .bool false], .bool true]) (by simp [results, Tryd.results37, go_sem, cr0, cr1, cr2, cr3, cr4, lcr, cv0, cv1, cv2, cv3, cv4, lcv]) rfl (cut_some HF.out (by repeat (first | with_reducible exact hb | (with_reducible refine Below.setCell ?_ ?hq _; case hq => first | (simp; done) | (simp; omega)) | with_reducible refine Below.drew ?_ | with_reducible refine below_alloc_self ?_ _ | with_reducible refine below_grow ?_ _)))
                                    | false =>
                                      have HF := Lib.hid (show PR = some (sn, a0 :: E, f.length, (v : Int), false) by rw [HQ2.out, HVV.out]; rfl)
                                      have cv0 : wr.cell? ⟨g, 0, none⟩ = some (.bool sn) := (hv).cell 0
                                      have fcv0 := (hv).frozen 0
                                      have cv1 : wr.cell? ⟨g, 1, none⟩ = some (.string ⟨(a0 :: E).toArray⟩) := (hv).cell 1
                                      have fcv1 := (hv).frozen 1
                                      have cv2 : wr.cell? ⟨g, 2, none⟩ = some (.int .i64 f.length) := (hv).cell 2
                                      have fcv2 := (hv).frozen 2
                                      have cv3 : wr.cell? ⟨g, 3, none⟩ = some (.int .i64 (v : Int)) := (hv).cell 3
                                      have fcv3 := (hv).frozen 3
                                      have cv4 : wr.cell? ⟨g, 4, none⟩ = some (.bool false) := (hv).cell 4
                                      have fcv4 := (hv).frozen 4
                                      have lcv := (hv).lt
                                      have cr0 : wr.cell? ⟨w.heap.size, 0, none⟩ = some (.bool false) := (hr).cell 0
                                      have fcr0 := (hr).frozen 0
                                      have cr1 : wr.cell? ⟨w.heap.size, 1, none⟩ = some (.string ⟨#[]⟩) := (hr).cell 1
                                      have fcr1 := (hr).frozen 1
                                      have cr2 : wr.cell? ⟨w.heap.size, 2, none⟩ = some (.int .i64 0) := (hr).cell 2
                                      have fcr2 := (hr).frozen 2
                                      have cr3 : wr.cell? ⟨w.heap.size, 3, none⟩ = some (.int .i64 0) := (hr).cell 3
                                      have fcr3 := (hr).frozen 3
                                      have cr4 : wr.cell? ⟨w.heap.size, 4, none⟩ = some (.bool false) := (hr).cell 4
                                      have fcr4 := (hr).frozen 4
                                      have lcr := (hr).lt
                                      go_wp2_with fail
                                      exact bodyPost_ret (v := .tuple #[.agg #[.bool sn, .string ⟨(a0 :: E).toArray⟩, .int .i64 f.length, .int .i64 (v : Int), .bool false], .bool true]) (by simp [results, Tryd.results37, go_sem, cr0, cr1, cr2, cr3, cr4, lcr, cv0, cv1, cv2, cv3, cv4, lcv]) rfl (cut_some HF.out (by repeat (first | with_reducible exact hb | (with_reducible refine Below.setCell ?_ ?hq _; case hq => first | (simp; done) | (simp; omega)) | with_reducible refine Below.drew ?_ | with_reducible refine below_alloc_self ?_ _ | with_reducible refine below_grow ?_ _)))

end Go.Proofs.YtgjhaanpkfheeaaDoor
