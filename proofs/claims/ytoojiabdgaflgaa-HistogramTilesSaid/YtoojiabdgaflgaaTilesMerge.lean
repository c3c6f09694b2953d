/-
  Plain law: merging the histograms of the tiles, in any turn, gives that of the plane.
-/
import Derived.Test.YtoojiabdgaflgaaTilesPlain
namespace Go.Proofs.Ytoojiabdgaflgaa

theorem addAt_get (l : List Int) (i m : Nat) (v : Int) (hm : m < l.length) : (addAt l i v).getD m 0 = l.getD m 0 + if i = m then v else 0 := by
  unfold addAt
  rw [List.getD_eq_getElem?_getD, List.getElem?_set]
  by_cases e : i = m
  · subst e; simp [hm]
  · simp [e]
theorem mCols_len (r l : List Int) (j : Nat) : (mCols r l j).length = l.length := by
  induction j with
  | zero => rfl
  | succ j ih => rw [mCols, addAt, List.length_set, ih]
theorem mCols_get (r l : List Int) (j m : Nat) (hm : m < l.length) : (mCols r l j).getD m 0 = l.getD m 0 + if m < j then r.getD m 0 else 0 := by
  induction j with
  | zero => simp [mCols]
  | succ j ih =>
    rw [mCols, addAt_get _ _ _ _ (by rw [mCols_len]; exact hm), ih]
    by_cases e : j = m
    · subst e; rw [if_neg (by omega), if_pos rfl, if_pos (by omega)]; omega
    · rw [if_neg e]
      by_cases h : m < j
      · rw [if_pos h, if_pos (by omega)]; omega
      · rw [if_neg h, if_neg (by omega)]; omega
theorem mRows_len (L : List (List Int)) (n k : Nat) : (mRows L n k).length = n := by
  induction k with
  | zero => simp [mRows]
  | succ k ih => rw [mRows, mCols_len, ih]
theorem mRows_get (L : List (List Int)) (n k m : Nat) (hm : m < n) : (mRows L n k).getD m 0 = sumN (fun i => (L.getD i []).getD m 0) k := by
  induction k with
  | zero => simp [mRows, sumN, List.getD_eq_getElem?_getD, hm]
  | succ k ih => rw [mRows, mCols_get _ _ _ _ (by rw [mRows_len]; exact hm), ih, if_pos hm, sumN]
theorem eq_of_get {xs ys : List Int} (hl : xs.length = ys.length) (h : ∀ i, i < xs.length → xs.getD i 0 = ys.getD i 0) : xs = ys := by
  refine List.ext_getElem hl fun i h1 h2 => ?_
  have := h i h1
  rwa [List.getD_eq_getElem?_getD, List.getD_eq_getElem?_getD, List.getElem?_eq_getElem h1, List.getElem?_eq_getElem h2] at this

theorem whole_bd {w h mx bins : Int} {zs : List Int} (hv : pValid w h mx zs = true) (b1 : 1 ≤ bins) (b2 : bins ≤ 128) {m : Nat} (hm : m < bins.toNat) : 0 ≤ (hList w h mx zs bins 0 0 w h).getD m 0 ∧ (hList w h mx zs bins 0 0 w h).getD m 0 ≤ 4096 := by
  obtain ⟨p1, p2, p3, p4, p5, _⟩ := pOk_iff.1 (pValid_iff.1 hv).1
  rw [(all_counts hv b1 b2).2 m hm]
  refine ⟨sumN_nonneg fun Y _ => sumN_nonneg fun X _ => (pixB_nonneg _ _ _ _ _ _ _).1, ?_⟩
  have h1 : sumN (fun Y => sumN (fun X => pixB w mx bins zs m Y X) w.toNat) h.toNat ≤ sumN (fun _ => w) h.toNat := sumN_le fun Y _ => by
    have : sumN (fun X => pixB w mx bins zs m Y X) w.toNat ≤ sumN (fun _ => 1) w.toNat := sumN_le fun X _ => (pixB_nonneg _ _ _ _ _ _ _).2
    rw [sumN_const, Int.mul_one, Int.toNat_of_nonneg (by omega)] at this
    exact this
  rw [sumN_const, Int.toNat_of_nonneg (by omega), Int.mul_comm] at h1
  omega
theorem tiles_merge {w h mx bins tw th : Int} {zs : List Int} (hv : pValid w h mx zs = true) (b1 : 1 ≤ bins) (b2 : bins ≤ 128) (hg : gOk w h tw th = true) {N t : Nat} (hN : gNx w h tw th * gNy w h tw th = N) (ht : t < N) (hN2 : N ≤ 4096)
    {L : List (List Int)} (hL : L.length = N) (hT : ∀ i, i < N → L.getD i [] = tList w h mx zs bins tw th ((i + t) % N)) :
    mCode L = 0 ∧ mList L = hList w h mx zs bins 0 0 w h := by
  obtain ⟨p1, p2, p3, p4, p5, _⟩ := pOk_iff.1 (pValid_iff.1 hv).1
  have htok : ∀ i : Nat, i < N → gTok w h tw th i = true := fun i hi => gTok_iff.2 ⟨hg, by omega, by omega⟩
  have hmod : ∀ i, (i + t) % N < N := fun i => Nat.mod_lt _ (by omega)
  have hlen : ∀ i, i < N → (L.getD i []).length = bins.toNat := fun i hi => by
    rw [hT i hi]; exact (rect_counts hv b1 b2 (tile_in (htok _ (hmod i)))).1
  have hn0 := hlen 0 (by omega)
  have hnn : ∀ i, i < N → ∀ m, m < bins.toNat → 0 ≤ (tList w h mx zs bins tw th i).getD m 0 := fun i hi m hm => by
    unfold tList
    rw [(rect_counts hv b1 b2 (tile_in (htok i hi))).2 m hm]
    exact sumN_nonneg fun Y _ => sumN_nonneg fun X _ => by split <;> first | exact (pixB_nonneg _ _ _ _ _ _ _).1 | exact Int.le_refl _
  obtain ⟨lw, cw⟩ := all_counts hv b1 b2
  have htop : ∀ m, m < bins.toNat → (hList w h mx zs bins 0 0 w h).getD m 0 ≤ 4096 := fun m hm => by
    rw [cw m hm]
    have h1 : sumN (fun Y => sumN (fun X => pixB w mx bins zs m Y X) w.toNat) h.toNat ≤ sumN (fun _ => w) h.toNat := sumN_le fun Y _ => by
      have : sumN (fun X => pixB w mx bins zs m Y X) w.toNat ≤ sumN (fun _ => 1) w.toNat := sumN_le fun X _ => (pixB_nonneg _ _ _ _ _ _ _).2
      rw [sumN_const, Int.mul_one, Int.toNat_of_nonneg (by omega)] at this
      exact this
    rw [sumN_const, Int.toNat_of_nonneg (by omega), Int.mul_comm] at h1
    omega
  have hsum : ∀ m, m < bins.toNat → sumN (fun i => (L.getD i []).getD m 0) N = (hList w h mx zs bins 0 0 w h).getD m 0 := fun m hm => by
    rw [sumN_congr (g := fun i => (fun i => (tList w h mx zs bins tw th i).getD m 0) ((i + t) % N)) (fun i hi => by rw [hT i hi]), sumN_turn (fun i => (tList w h mx zs bins tw th i).getD m 0) N t ht, tiles_sum hv b1 b2 hg hN hm]
  have hS : mSum L = hList w h mx zs bins 0 0 w h := by
    unfold mSum
    rw [hn0, hL]
    refine eq_of_get (by rw [mRows_len, lw]) fun m hm => ?_
    rw [mRows_len] at hm
    rw [mRows_get _ _ _ _ hm, hsum m hm]
  have hb : 1 ≤ bins.toNat ∧ bins.toNat ≤ 128 := by omega
  have hc : mCode L = 0 := by
    unfold mCode
    rw [if_neg (by omega), if_neg (by rw [hn0]; omega), if_neg ?_, if_neg ?_, if_neg ?_]
    · rw [hS, (mTop_iff (l := hList w h mx zs bins 0 0 w h)).2 (fun i hi => htop i (by rw [lw] at hi; exact hi))]; simp
    · rw [mIn_iff.2 fun i hi j hj => ?_]
      · simp
      · rw [hL] at hi
        rw [hlen i hi] at hj
        have h1 := hnn _ (hmod i) j hj
        have h2 := sumN_part (f := fun i => (tList w h mx zs bins tw th i).getD j 0) (n := N) (fun i hi => hnn i hi j hj) (hmod i)
        rw [tiles_sum hv b1 b2 hg hN hj] at h2
        have h3 := htop j hj
        rw [hT i hi]
        exact ⟨h1, by omega⟩
    · rw [mLens_iff.2 fun i hi => by rw [hn0, hlen i (by omega)]]; simp
  exact ⟨hc, by unfold mList; rw [if_pos hc, hS]⟩
end Go.Proofs.Ytoojiabdgaflgaa
