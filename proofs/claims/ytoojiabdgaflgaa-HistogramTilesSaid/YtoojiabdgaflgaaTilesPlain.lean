/-
  Plain law: the histograms of the tiles of a plane add up to that of the plane.
-/
import Derived.Test.YtoojiabdgaflgaaHistCount
import Derived.Test.YtoojiabdgaflgaaSumPlain
import Derived.Test.YtoojiabdgaflgaaPartPlain
import Derived.Test.YtoojiabdgaflgaaMergePlain
namespace Go.Proofs.Ytoojiabdgaflgaa

def pixB (w mx bins : Int) (zs : List Int) (m Y X : Nat) : Int := if (hBin (zs.getD (Y * w.toNat + X) 0) mx bins).toNat = m then 1 else 0
def inR (r0 r1 r2 r3 : Int) (X Y : Nat) : Prop := r0 ≤ X ∧ X < r2 ∧ r1 ≤ Y ∧ Y < r3
instance (r0 r1 r2 r3 : Int) (X Y : Nat) : Decidable (inR r0 r1 r2 r3 X Y) := by unfold inR; exact inferInstance

theorem hOk_in {w h mx bins : Int} {zs : List Int} (hv : pValid w h mx zs = true) (b1 : 1 ≤ bins) (b2 : bins ≤ 128) {r0 r1 r2 r3 : Int} (hi : 0 ≤ r0 ∧ r0 < r2 ∧ r2 ≤ w ∧ 0 ≤ r1 ∧ r1 < r3 ∧ r3 ≤ h) : hOk w h mx zs bins r0 r1 r2 r3 = 0 := by
  obtain ⟨p1, p2, p3, p4, _⟩ := pOk_iff.1 (pValid_iff.1 hv).1
  unfold hOk
  rw [if_neg (by rw [hv]; simp), if_neg (by simp; omega), if_neg (by rw [(inside_iff p1 p2 p3 p4).2 hi]; simp)]

theorem rect_counts {w h mx bins : Int} {zs : List Int} (hv : pValid w h mx zs = true) (b1 : 1 ≤ bins) (b2 : bins ≤ 128) {r0 r1 r2 r3 : Int} (hi : 0 ≤ r0 ∧ r0 < r2 ∧ r2 ≤ w ∧ 0 ≤ r1 ∧ r1 < r3 ∧ r3 ≤ h) :
    (hList w h mx zs bins r0 r1 r2 r3).length = bins.toNat ∧ ∀ m, m < bins.toNat → (hList w h mx zs bins r0 r1 r2 r3).getD m 0 = sumN (fun Y => sumN (fun X => if inR r0 r1 r2 r3 X Y then pixB w mx bins zs m Y X else 0) w.toNat) h.toNat := by
  obtain ⟨i1, i2, i3, i4, i5, i6⟩ := hi
  have h1 : hList w h mx zs bins r0 r1 r2 r3 = hRows (hG w mx bins r0 r1 zs) (r2 - r0).toNat bins.toNat (r3 - r1).toNat := by
    unfold hList; rw [if_pos (hOk_in hv b1 b2 ⟨i1, i2, i3, i4, i5, i6⟩)]
  refine ⟨by rw [h1, hRows_len], fun m hm => ?_⟩
  obtain ⟨x0, rfl⟩ := Int.eq_ofNat_of_zero_le i1
  obtain ⟨y0, rfl⟩ := Int.eq_ofNat_of_zero_le i4
  obtain ⟨wd, hwd⟩ : ∃ wd : Nat, r2 = (x0 : Int) + wd := ⟨(r2 - x0).toNat, by omega⟩
  obtain ⟨ht, hht⟩ : ∃ ht : Nat, r3 = (y0 : Int) + ht := ⟨(r3 - y0).toNat, by omega⟩
  subst hwd
  subst hht
  have e1 : ((x0 : Int) + wd - x0).toNat = wd := by omega
  have e2 : ((y0 : Int) + ht - y0).toNat = ht := by omega
  have hg : ∀ k j, hG w mx bins x0 y0 zs k j = (hBin (zs.getD ((y0 + k) * w.toNat + (x0 + j)) 0) mx bins).toNat := fun k j => by
    unfold hG
    congr 3
    have : (((y0 + k) * w.toNat + x0 : Nat) : Int) = ((y0 : Int) + k) * w + x0 := by
      rw [Int.natCast_add, Int.natCast_mul, Int.natCast_add, Int.toNat_of_nonneg (by omega)]
    rw [← this, Int.toNat_natCast, Nat.add_assoc]
  rw [h1, e1, e2, hRows_get _ _ _ _ _ hm, countP_flat]
  have hin : ∀ k, (((List.range wd).map (hG w mx bins x0 y0 zs k)).countP (fun i => decide (i = m)) : Int) = sumN (fun X => if x0 ≤ X ∧ X < x0 + wd then pixB w mx bins zs m (y0 + k) X else 0) w.toNat := fun k => by
    rw [countP_range, sumN_window (fun X => pixB w mx bins zs m (y0 + k) X) (by omega)]
    refine sumN_congr fun j hj => ?_
    rw [hg k j]
    unfold pixB
    simp
  rw [sumN_congr (fun k _ => hin k), ← sumN_window (fun Y => sumN (fun X => if x0 ≤ X ∧ X < x0 + wd then pixB w mx bins zs m Y X else 0) w.toNat) (n := h.toNat) (by omega)]
  refine sumN_congr fun Y hY => ?_
  by_cases hy : y0 ≤ Y ∧ Y < y0 + ht
  · rw [if_pos hy]
    refine sumN_congr fun X hX => ?_
    by_cases hx : x0 ≤ X ∧ X < x0 + wd
    · rw [if_pos hx, if_pos (by unfold inR; omega)]
    · rw [if_neg hx, if_neg (by unfold inR; omega)]
  · rw [if_neg hy]
    exact (sumN_none fun X hX => by rw [if_neg (by unfold inR; omega)]).symm
theorem pixB_nonneg (w mx bins : Int) (zs : List Int) (m Y X : Nat) : 0 ≤ pixB w mx bins zs m Y X ∧ pixB w mx bins zs m Y X ≤ 1 := by
  unfold pixB; split <;> omega
theorem all_counts {w h mx bins : Int} {zs : List Int} (hv : pValid w h mx zs = true) (b1 : 1 ≤ bins) (b2 : bins ≤ 128) :
    (hList w h mx zs bins 0 0 w h).length = bins.toNat ∧ ∀ m, m < bins.toNat → (hList w h mx zs bins 0 0 w h).getD m 0 = sumN (fun Y => sumN (fun X => pixB w mx bins zs m Y X) w.toNat) h.toNat := by
  obtain ⟨p1, p2, p3, p4, _⟩ := pOk_iff.1 (pValid_iff.1 hv).1
  obtain ⟨l, c⟩ := rect_counts hv b1 b2 (r0 := 0) (r1 := 0) (r2 := w) (r3 := h) (by omega)
  refine ⟨l, fun m hm => ?_⟩
  rw [c m hm]
  exact sumN_congr fun Y hY => sumN_congr fun X hX => by rw [if_pos (by unfold inR; omega)]
/-- The counts add up to the number of pixels. -/
theorem all_total {w h mx bins : Int} {zs : List Int} (hv : pValid w h mx zs = true) (b1 : 1 ≤ bins) (b2 : bins ≤ 128) :
    sumN (fun m => (hList w h mx zs bins 0 0 w h).getD m 0) bins.toNat = w * h := by
  obtain ⟨p1, p2, p3, p4, _⟩ := pOk_iff.1 (pValid_iff.1 hv).1
  obtain ⟨_, c⟩ := all_counts hv b1 b2
  rw [sumN_congr c, sumN_swap]
  rw [sumN_congr (g := fun _ => w) (fun Y hY => by
    rw [sumN_swap, sumN_congr (g := fun _ => 1) (fun X hX => by
      unfold pixB
      have hb := hBin_bd (v := zs.getD (Y * w.toNat + X) 0) (mx := mx) b1
      rw [sumN_congr (g := fun i => if i = (hBin (zs.getD (Y * w.toNat + X) 0) mx bins).toNat then 1 else 0) (fun i hi => by simp only [eq_comm]), sumN_single _ (by omega)])]
    rw [sumN_const, Int.mul_one, Int.toNat_of_nonneg (by omega)])]
  rw [sumN_const, Int.toNat_of_nonneg (by omega), Int.mul_comm]

theorem inR_contains {r0 r1 r2 r3 : Int} {X Y : Nat} (h0 : 0 ≤ r0 ∧ r0 < r2 ∧ r2 ≤ 128 ∧ 0 ≤ r1 ∧ r1 < r3 ∧ r3 ≤ 128) : inR r0 r1 r2 r3 X Y ↔ rContains r0 r1 r2 r3 X Y = true := by
  have hv : rValid r0 r1 r2 r3 = true := rValid_iff.2 (.inr (by omega))
  simp only [rContains, hv, Bool.true_and, decide_eq_true_eq]
  exact Iff.rfl
theorem tile_in {w h tw th i : Int} (ht : gTok w h tw th i = true) : 0 ≤ gT0 w h tw th i ∧ gT0 w h tw th i < gT2 w h tw th i ∧ gT2 w h tw th i ≤ w ∧ 0 ≤ gT1 w h tw th i ∧ gT1 w h tw th i < gT3 w h tw th i ∧ gT3 w h tw th i ≤ h := by
  obtain ⟨_, _, _, _, t1, t2, t3, t4⟩ := tile_bd ht
  obtain ⟨g1, g2, g3, g4, g5, g6, g7, g8⟩ := gOk_iff.1 (gTok_iff.1 ht).1
  simp only [gT0, gT1, gT2, gT3, ht, if_true]
  omega
/-- The histogram of the tile with a number. -/
def tList (w h mx : Int) (zs : List Int) (bins tw th : Int) (i : Nat) : List Int := hList w h mx zs bins (gT0 w h tw th i) (gT1 w h tw th i) (gT2 w h tw th i) (gT3 w h tw th i)
theorem tiles_sum {w h mx bins tw th : Int} {zs : List Int} (hv : pValid w h mx zs = true) (b1 : 1 ≤ bins) (b2 : bins ≤ 128) (hg : gOk w h tw th = true) {N : Nat} (hN : gNx w h tw th * gNy w h tw th = N) {m : Nat} (hm : m < bins.toNat) :
    sumN (fun i => (tList w h mx zs bins tw th i).getD m 0) N = (hList w h mx zs bins 0 0 w h).getD m 0 := by
  have htok : ∀ i : Nat, i < N → gTok w h tw th i = true := fun i hi => gTok_iff.2 ⟨hg, by omega, by omega⟩
  rw [(all_counts hv b1 b2).2 m hm]
  rw [sumN_congr (g := fun i => sumN (fun Y => sumN (fun X => if i = (gOf w h tw th X Y).toNat then pixB w mx bins zs m Y X else 0) w.toNat) h.toNat) (fun i hi => by
    unfold tList
    rw [(rect_counts hv b1 b2 (tile_in (htok i hi))).2 m hm]
    refine sumN_congr fun Y hY => sumN_congr fun X hX => ?_
    have hc := contains_iff (htok i hi) (x := X) (y := Y) (by omega) (by omega) (by omega) (by omega)
    have ho := of_lt (a := w) (b := h) (c := tw) (d := th) (x := X) (y := Y) (gOfOk_iff.2 ⟨hg, by omega, by omega, by omega, by omega⟩)
    have he : inR (gT0 w h tw th i) (gT1 w h tw th i) (gT2 w h tw th i) (gT3 w h tw th i) X Y ↔ i = (gOf w h tw th X Y).toNat := by
      rw [show (i = (gOf w h tw th X Y).toNat) ↔ (i : Int) = gOf w h tw th X Y by omega, ← hc]
      have ht := tile_in (htok i hi)
      obtain ⟨g1, g2, g3, g4, _⟩ := gOk_iff.1 hg
      exact inR_contains (by omega)
    by_cases h1 : i = (gOf w h tw th X Y).toNat
    · rw [if_pos h1, if_pos (he.2 h1)]
    · rw [if_neg h1, if_neg (fun h2 => h1 (he.1 h2))])]
  rw [sumN_swap]
  refine sumN_congr fun Y hY => ?_
  rw [sumN_swap]
  refine sumN_congr fun X hX => ?_
  have ho := of_lt (a := w) (b := h) (c := tw) (d := th) (x := X) (y := Y) (gOfOk_iff.2 ⟨hg, by omega, by omega, by omega, by omega⟩)
  exact sumN_single _ (by omega)
end Go.Proofs.Ytoojiabdgaflgaa
