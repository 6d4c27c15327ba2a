/- Of my texts: OpenV. -/
import Derived.Test.YtplnhjmomomphaaDoorM06
import Derived.Test.YtplnhjmomomphaaDoorM17
import Derived.Test.YtplnhjmomomphaaDoorM22
import Derived.Test.YtplnhjmomomphaaDoorM23
import Derived.Lib.LaidTab
import Derived.Lib.LaidU8
import Derived.SizedLaws
namespace Go.Proofs.YtplnhjmomomphaaDoor
set_option linter.unusedVariables false
set_option linter.unusedSimpArgs false
open Go.ChangeShapes Go.WideShapes Go.ChangeAt Go.RowKit Go.Deep

section
variable {H : Type} {enc : TypeId × Value → H} {w : World} {base : Nat} {spare : Nat → Bool} {held : Bool}

set_option maxRecDepth 100000 in
theorem open_vls {r : Reach} {b0 : Nat} {v : Value} {d : DataW H} {p : List MemPlace} (hv : Value.okWide Tryd.prog w r b0 22 v) (h : DataW.Trod enc Tryd.prog w base spare held 22 v d p)
    (hw : ∀ n ∈ d.weights Tryd.prog 22, n ≤ 140737488355328) : ∃ (oa : Option Addr) (cap b o : Nat) (l : List Vl) (h : Nat), v = .slice oa l.length cap ∧ VsIn w h oa cap b o l := by
  obtain ⟨oa, len, cap, rfl⟩ := okWide_slice Tryd.underlying22 hv
  obtain ⟨fuel, g1⟩ := h
  rcases DataW.trod_slice Tryd.underlying22 g1 with ⟨hc, hd⟩ | ⟨a, len', cap', elems, rest, m2, hm2, hc, hd, hb, hle, hcm, hel, hall, _, _⟩
  · obtain ⟨rfl, rfl, rfl⟩ : oa = none ∧ len = 0 ∧ cap = 0 := by simpa [Value.cells] using hc
    exact ⟨none, 0, 0, 0, [], 0, rfl, by simp, ⟨rfl, Nat.le_refl _, Nat.zero_le _, fun h => absurd h (by simp), fun j v h => by simp at h⟩, fun i x h => by simp at h⟩
  · obtain ⟨rfl, rfl, rfl⟩ : oa = some a ∧ len = len' ∧ cap = cap' := by simpa [Value.cells] using hc
    simp only [Prod.mk.injEq] at hd
    obtain ⟨hd, _⟩ := hd
    rw [hd] at hw
    simp only [DataW.weights, Tryd.underlying22, bytesValue, List.length_map, List.mem_cons, List.mem_append] at hw
    have hw0 := hw _ (Or.inl rfl)
    have each : ∀ i, i < len → ∃ v : Vl, (∀ j u, (vcells v)[j]? = some u → w.cell? ((a.add (i * 7)).add j) = some u) ∧ VlIn w m2 v := fun i hi => by
      have hi' := hall i hi
      rw [cellsValue] at hi'
      obtain ⟨y, hy⟩ : ∃ y, elems[i]? = some y := ⟨elems[i]'(by omega), List.getElem?_eq_getElem (by omega)⟩
      rw [hy] at hi'
      obtain ⟨cs', hcs, hy'⟩ := Option.bind_eq_some_iff.1 hi'
      obtain ⟨_, hcl, hcell⟩ := World.cells?_some hcs
      obtain ⟨v, rfl, hv⟩ := open_vl m2 cs' y hy' (fun n hn => hw n (Or.inr (Or.inl (open_ex.weights_all hy hn))))
      refine ⟨v, fun j u hj => ?_, hv⟩
      have hj7 : j < 7 := by have := (List.getElem?_eq_some_iff.1 hj).1; rw [vcells_length] at this; exact this
      exact (hcell j hj7).trans hj
    obtain ⟨f, hf⟩ := choose_lt each
    obtain ⟨ab, ao, asp⟩ := a
    have hsp : 0 < len → asp = none ∧ ab < w.heap.size := fun hpos => by
      obtain ⟨v, hv⟩ : ∃ v, (vcells (f 0))[0]? = some v := by cases f 0; exact ⟨_, rfl⟩
      have hc := (hf 0 hpos).1 0 v hv
      refine ⟨by simpa [Addr.add] using World.cell?_spot hc, by simpa [Addr.add] using World.block_lt_of_cell? w _ hc⟩
    have hat : ∀ i x, ((List.range len).map f)[i]? = some x → i < len ∧ x = f i := fun i x hx => by
      rw [List.getElem?_map] at hx
      rcases Nat.lt_or_ge i len with hi | hi
      · rw [List.getElem?_range hi] at hx
        exact ⟨hi, (Option.some.inj hx).symm⟩
      · rw [List.getElem?_eq_none (by simpa using hi)] at hx
        cases hx
    refine ⟨some ⟨ab, ao, asp⟩, cap, ab, ao, (List.range len).map f, m2, by simp, by simp; omega, ⟨by rw [flat_length vcells_length], by simpa using hle, hcm, fun hpos => ?_, fun k u hk => ?_⟩, fun i x hx => ?_⟩
    · simp only [List.length_map, List.length_range] at hpos
      exact ⟨by rw [(hsp hpos).1], (hsp hpos).2⟩
    · obtain ⟨i, x, j, h1, h2, rfl⟩ := flat_split vcells_length (by decide) _ _ _ hk
      obtain ⟨hi, rfl⟩ := hat i x h1
      obtain ⟨rfl, _⟩ := hsp (by omega)
      have := (hf i hi).1 j u h2
      rw [Addr.add_lit, Addr.add_lit] at this
      rw [show ao + (i * 7 + j) = ao + i * 7 + j by omega]
      exact this
    · obtain ⟨hi, rfl⟩ := hat i x hx
      exact (hf i hi).2

set_option maxRecDepth 100000 in
theorem expr_open {r : Reach} {b0 : Nat} {v : Value} {d : DataW H} {p : List MemPlace} (hv : Value.okWide Tryd.prog w r b0 27 v) (h : DataW.Trod enc Tryd.prog w base spare held 27 v d p)
    (hw : ∀ n ∈ d.weights Tryd.prog 27, n ≤ 140737488355328) : ∃ (e : Ex) (h : Nat), v = xv e ∧ ExIn w h e := by
  obtain ⟨cs, rfl, _⟩ := okWide_struct Tryd.underlying27 hv
  obtain ⟨fuel, hf⟩ := h
  obtain ⟨e, he, hi⟩ := open_ex fuel _ _ hf hw
  refine ⟨e, fuel, ?_, hi⟩
  have e2 : cs.toList = xcells e := he
  show Value.agg cs = Value.agg (xcells e).toArray
  rw [← e2]
end

theorem reach_le {n : Nat} (h : n ≤ reachBytes) : n ≤ 140737488355328 := Nat.le_trans h (by decide)
theorem reach_of {H : Type} {P : Program} {ts : List TypeId} {ds : List (DataW H)} (h : (DataW.weightsEach P ts ds).all (· ≤ reachBytes) = true) {j : Nat} {t : TypeId} {d : DataW H} (ht : ts[j]? = some t) (hd : ds[j]? = some d) : ∀ n ∈ d.weights P t, n ≤ 140737488355328 := fun n hn =>
  reach_le (by simpa using List.all_eq_true.1 h n (DataW.weights_mem_each ht hd n hn))

theorem gKinds : Tryd.prog.globalNamed "jalousie/jalousieref3.kinds" = some 0 := by kernel_rfl
theorem gKindsType : (Tryd.prog.globals[0]?).map (·.type) = some 92 := by kernel_rfl
theorem cellsKinds : Tryd.prog.cellsOf 92 = 9 := by kernel_rfl
theorem kindsData : (Rows.laid_jalousie_jalousieref3_kinds : DataW Unit) = Lib.tabData .i64 kindsL := by kernel_rfl

theorem kd_of_laid {W : World} (h' : laidMet Tryd.prog [("jalousie/jalousieref3.kinds", Rows.laid_jalousie_jalousieref3_kinds)] W) : Kd W := by
  obtain ⟨g, t, cs, fuel, p, e1, e2, e3, e4⟩ := Lib.laidMet.reads h' (List.mem_singleton.2 rfl)
  obtain rfl := Option.some.inj (gKinds.symm.trans e1)
  obtain rfl := Option.some.inj (gKindsType.symm.trans e2)
  rw [kindsData] at e4
  have e5 := Lib.cells_of_tab Tryd.underlying92 Tryd.underlying3 cellsInt cellsKinds e4
  rw [World.var?, gKinds] at e3
  simp only [Option.bind_some] at e3
  split at e3
  · rename_i c t' fr hg
    obtain rfl := Option.some.inj e3
    refine ⟨(Array.getElem?_eq_some_iff.1 hg).1, fun j k hk => ?_⟩
    rw [cell_of_row W _ j _ _ _ hg]
    have : c.toList[j]? = some (.int .i64 k) := by rw [e5, List.getElem?_map, hk]; rfl
    simpa using this
  · cases e3

end Go.Proofs.YtplnhjmomomphaaDoor
