/- Of my texts: TokQ. -/
import Derived.Test.YtplnhjmomomphaaGreatDoorM15
namespace Go.Proofs.YtplnhjmomomphaaGreatDoor
set_option linter.unusedVariables false
set_option linter.unusedSimpArgs false
open Go.RowKit
def tkcells (t : Tk) : List Value := [.int .i64 t.kind, .string ⟨t.text.toArray⟩, .int .i64 t.num.1, .int .i64 t.num.2, .bool t.int, .bool t.id]
def toksV (l : List Tk) : List Value := l.flatMap tkcells
theorem elTok : El 62 42 (.agg #[.int .i64 0, .string ⟨#[]⟩, .int .i64 0, .int .i64 0, .bool false, .bool false]) 6 48 := ⟨Tryz.underlying62, by kernel_rfl, rfl, by decide⟩
theorem owns_low {w : World} {base base' : Nat} {e : TypeId} {size : Nat} {v : Value} {n : Nat} {xs : List Value} (h : w.ownsRow base e size v n xs) (hb : base' ≤ base) : w.ownsRow base' e size v n xs := by
 refine ⟨h.1, ?_⟩
 rcases h.2 with h0 | ⟨g, cap, cur, hv, hg, rest⟩
 · exact .inl h0
 · exact .inr ⟨g, cap, cur, hv, Nat.le_trans hb hg, rest⟩
set_option maxRecDepth 20000 in
set_option maxHeartbeats 8000000 in
theorem tokens_any (l : List Int) (oa : Option Addr) (cap b o : Nat) (w : World) (hs : Sl w oa l.length cap b o 1 (runesV l)) (h32 : ∀ x ∈ l, I32 x) (hK : Kd w) (hm : l.length ≤ 4294967296) :
 Calls Tryz.prog 44 #[.slice oa l.length cap] w fun e w' => (∃ v, e = .returned v ∧ Rw w w' 42 6 v (tokensF l).length (toksV (tokensF l))) := by
 obtain ⟨X, hX⟩ : ∃ X, tokensF l = X := ⟨_, rfl⟩
 rw [hX]
 have HX := Lib.hid (show [] ++ tokG l (l.length + 2) 0 = X from hX)
 obtain ⟨B, hB⟩ : ∃ B, w.heap.size = B := ⟨_, rfl⟩
 have hKB : 0 ≠ B := by have := hK.1; omega
 -- a place for the characters that is not the reader's
 obtain ⟨b2, o2, hb2, hs2⟩ : ∃ b2 o2, b2 ≠ B ∧ Sl w oa l.length cap b2 o2 1 (runesV l) := by
  rcases Nat.eq_zero_or_pos l.length with h0 | hp
  · exact ⟨B + 1, 0, by omega, hs.len, hs.le, hs.max, fun hp => by omega, fun j v hv => by
     have := hs.pos hv
     omega⟩
  · exact ⟨b, o, by have := (hs.lies hp).2; omega, hs⟩
 have HS := Lib.hid hs2
 have H32 := Lib.hid h32
 have HK := Lib.hid hK
 clear hX hs hs2 h32 hK
 go_enter Tryz.func44, Tryz.ntmps44
 go_upto_region 3 with fail
 have hblk := Blk.new w 103 #[.slice oa l.length cap, .int .i64 0]
 rw [hB] at hblk
 have hbw : Below w.heap.size w (w.alloc (.cells #[.slice oa l.length cap, .int .i64 0] 103)) := (Below.refl _ _).alloc (Nat.le_refl _) _
 have HR := Lib.hid (show RAt (w.alloc (.cells #[.slice oa l.length cap, .int .i64 0] 103)) B oa cap b2 o2 l 0 from ⟨hblk, HS.out.below hbw, hb2, H32.out, by omega, by omega⟩)
 have HK1 := Lib.hid (HK.out.below hbw)
 have HBW := Lib.hid hbw
 clear hblk hbw HS HK
 generalize w.alloc _ = w1 at *
 have hB1 := HR.out.blk.lt
 have HM := Lib.hid (Moved.start HR.out)
 have hw1 := HBW.out.size
 go_loopg [3] (l.length + 2) (fun q s3 wr => ∃ (p f : Nat) (D : List Tk) (v : Value), v = s3 ∧ Hid (Moved w1 wr B oa cap b2 o2 l p) ∧ Hid (wr.ownsRow w1.heap.size 42 6 v D.length (toksV D)) ∧ Hid (D ++ tokG l f p = X) ∧ l.length ≤ f + p ∧ p ≤ l.length + 2 ∧ D.length ≤ p ∧ f ≤ q)
 case atStart => exact ⟨0, _, [], _, rfl, HM, Lib.hid (World.ownsRow_nil _ _ _ _), HX, by omega, by omega, by simp, Nat.le_refl _⟩
 case round =>
  clear HM HX
  obtain ⟨p, f, D, v, rfl, hM, hO, hG, hf, hp, hD, hq⟩ := hrel
  have HX1 := Lib.hid (remarks_any hM.out.rd hp)
  have hpr : p ≤ remF l p := remE_le l _ p
  obtain ⟨r, hr⟩ : ∃ r, remF l p = r := ⟨_, rfl⟩
  have hx1 := HX1.out
  rw [hr] at hx1 hpr
  have HX1 := Lib.hid hx1
  clear hx1
  go_wp2_with fail
  ((with_reducible refine HX1.out.mono ?_); rintro e w2 ⟨rfl, hmv, hr2⟩)
  have HM2 := Lib.hid (hM.out.next hmv)
  have HO2 := Lib.hid (owns_moved hO.out hmv.gb hB1)
  clear hM hO hmv HX1
  have hA := at0_any HM2.out.rd
  obtain ⟨c, hc⟩ : ∃ c, aF l r = c := ⟨_, rfl⟩
  rw [hc] at hA
  have HA := Lib.hid hA
  clear hA
  go_wp2_with fail
  go_wp2_with fail
  ((with_reducible refine (HA.out).mono ?_); rintro e w' ⟨rfl, hbw⟩)
  obtain ⟨m, rfl⟩ := grow_mk hbw
  clear hbw
  have HM3 := Lib.hid (HM2.out.grow m)
  have HO3 := Lib.hid (owns_grow HO2.out m)
  clear HM2 HO2 HA
  generalize grow _ m = w3 at *
  by_cases hend : c = -1
  · subst hend
    have hDX : D = X := by
     have h0 := hG.out
     cases f with
     | zero => rw [tokG, List.append_nil] at h0; exact h0
     | succ f => rw [tokG, hr, if_pos hc, List.append_nil] at h0; exact h0
    subst hDX
    clear hG hc hr
    go_wp2_with fail
    go_ret
    exact ⟨_, rfl, below_far HBW.out HM3.out.gb (fun k hk => by cases hk; omega), owns_low HO3.out hw1⟩
  · have g1 : (c == -1) = false := by simpa using hend
    have hrl : r < l.length := aF_lt (by rw [hc]; exact hend)
    obtain ⟨f, rfl⟩ : ∃ f', f = f' + 1 := ⟨f - 1, by omega⟩
    have hG2 := hG.out
    rw [tokG, hr, if_neg (by rw [hc]; exact hend)] at hG2
    have hne := nextF_end (l := l) (i := r) (by rw [hc]; exact hend)
    have hfig : figE l r ≤ r + 4294967296 := by
     have h1 := figS_len (l := l) (i := r) (by omega)
     have h2 := digF_len h1.2
     have h3 := figP_len h2.2
     have h4 := figX_len h3.2
     have : figE l r ≤ l.length := h4.2
     omega
    have hx := next_any HM3.out.rd (HK1.out.grown HM3.out.gb (by simpa using hKB)) hKB (by rw [hc]; exact hend) hfig
    obtain ⟨⟨⟨uk, ut, ⟨un, ud⟩, ui, uid⟩, ue⟩, hu⟩ : ∃ U, nextF l r = U := ⟨_, rfl⟩
    rw [hu] at hx hG2 hne
    simp only [tv] at hx hne
    have HX2 := Lib.hid hx
    have HG2 := Lib.hid hG2
    clear hx hG2 hG hu hc hr hfig hend
    go_wp2_with fail
    ((with_reducible refine HX2.out.mono ?_); rintro e w4 ⟨rfl, hmv⟩)
    have HM4 := Lib.hid (HM3.out.next hmv)
    have HO4 := Lib.hid (owns_moved HO3.out hmv.gb hB1)
    have hsz4 := HM4.out.gb.size
    clear hmv HM3 HO3 HX2
    go_wp2_with (at_builtin; refine wpList_put elTok rfl _ _ rfl rfl HO4.out (by omega) 1 1 #[.int .i64 uk, .string ⟨ut.toArray⟩, .int .i64 un, .int .i64 ud, .bool ui, .bool uid] _ rfl rfl (by simp [Value.oneCell']) (by omega) (by omega) (by omega) ?_; intro g2 cap2 w5 hR2 hg2 hr2; have HM5 := Lib.hid (HM4.out.push HR.out hg2 hr2); have HO5 := Lib.hid hR2; clear hR2 hg2 hr2 HM4 HO4)
    go_roundg f
    case measure => omega
    case rel => exact ⟨ue, f, D ++ [⟨uk, ut, (un, ud), ui, uid⟩], _, rfl, HM5, Lib.hid (by have := HO5.out; simpa [toksV, tkcells] using this), Lib.hid (by rw [List.append_assoc]; exact HG2.out), by omega, by omega, by simp; omega, Nat.le_refl _⟩
theorem decG_32 : ∀ (y : Int) (l : List Int), (∀ x ∈ l, 0 ≤ x ∧ x ≤ 16777216) → ∀ x ∈ decG y l, I32 x
 | _, [], _, x, hx => by cases hx
 | y, z :: r, h, x, hx => by
   have hr := decG_32 z r (fun u hu => h u (List.mem_cons_of_mem _ hu))
   have hz := h z (List.mem_cons_self ..)
   unfold decG at hx
   split at hx
   · exact hr x hx
   · rcases List.mem_cons.1 hx with rfl | hx
     · unfold yF I32
       split
       · omega
       · split <;> omega
     · exact hr x hx
theorem decodeF_32 (l : List UInt8) : ∀ x ∈ decodeF l, I32 x := decG_32 0 _ (fun x hx => rawF_fits _ _ _ x hx)
theorem bom_len (l : List UInt8) : (bomF l).length ≤ l.length := by
 rcases bom_ways l with ⟨_, hb⟩ | ⟨x0, x1, x2, r, el, ⟨_, hb⟩ | ⟨_, _, hb⟩ | ⟨_, _, _, hb⟩ | ⟨_, _, _, hb⟩⟩ <;> rw [hb] <;> simp
theorem decodeF_len (l : List UInt8) : (decodeF l).length ≤ l.length := Nat.le_trans (decG_len _ _) (Nat.le_trans (rawF_len _ _ _) (bom_len l))
set_option maxHeartbeats 4000000 in
theorem bytes_any (l : List UInt8) (oa : Option Addr) (cap b o : Nat) (w : World) (hs : Sl w oa l.length cap b o 1 (bytesV l)) (hK : Kd w) (hm : l.length ≤ 4294967296) :
 Calls Tryz.prog 24 #[.slice oa l.length cap] w fun e w' => (∃ v, e = .returned v ∧ Rw w w' 42 6 v (bytesF l).length (toksV (bytesF l))) := by
 have hd := decode_any l oa cap b o w hs (by omega)
 have hln := decodeF_len l
 have h32 := decodeF_32 l
 unfold bytesF
 generalize decodeF l = D at *
 have HD := Lib.hid hd
 have HK := Lib.hid hK
 clear hd hs hK
 go_enter Tryz.func24, Tryz.ntmps24
 go_wp2_with fail
 ((with_reducible refine HD.out.mono ?_); rintro e w2 ⟨v, rfl, hR⟩)
 obtain ⟨ya, yc, yb, rfl, hsl, _⟩ := hR.sl
 have hbw := hR.below
 have HT := Lib.hid (tokens_any D ya yc yb 0 w2 hsl h32 (HK.out.below hbw) (by omega))
 clear hR hsl HD
 go_wp2_with fail
 ((with_reducible refine HT.out.mono ?_); rintro e w3 ⟨v, rfl, hR⟩)
 go_wp2_with fail
 go_ret
 exact ⟨_, rfl, hR.base hbw⟩
end Go.Proofs.YtplnhjmomomphaaGreatDoor
