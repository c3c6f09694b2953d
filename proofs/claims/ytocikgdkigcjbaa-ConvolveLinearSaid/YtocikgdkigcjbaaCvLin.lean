/-
  Plain law: convolutions of sums of planes with small weights; the kernel of one weight 1.
-/
import Derived.Test.YtocikgdkigcjbaaCvLaw
namespace Go.Proofs.Ytocikgdkigcjbaa
open Go.RowKit
set_option linter.unusedVariables false

theorem app_sum {pl ql sl : List Int} (a b : Int) (h1 : pl.length = sl.length) (h2 : ql.length = sl.length) (h : ∀ i, sl.getD i 0 = pl.getD i 0 + ql.getD i 0) : ∀ i, (sl ++ [a + b]).getD i 0 = (pl ++ [a]).getD i 0 + (ql ++ [b]).getD i 0 := fun i => by
  have e := h i
  rw [List.getD_eq_getElem?_getD, List.getD_eq_getElem?_getD, List.getD_eq_getElem?_getD, List.getElem?_append, List.getElem?_append, List.getElem?_append]
  rw [List.getD_eq_getElem?_getD, List.getD_eq_getElem?_getD, List.getD_eq_getElem?_getD] at e
  rw [h1, h2]
  split
  · exact e
  · cases hk : i - sl.length with
    | zero => rfl
    | succ n => rfl
theorem lin_valid {nw nh : Nat} {zs : List Int} (hw : 1 ≤ nw ∧ nw ≤ 5) (hh : 1 ≤ nh ∧ nh ≤ 4) (hl : zs.length = nw * nh) (hz : ∀ i, 0 ≤ zs.getD i 0 ∧ zs.getD i 0 ≤ 1000) : pValid (nw : Int) (nh : Int) 1000 zs = true := by
  have h1 := Nat.mul_le_mul hw.2 hh.2
  refine pValid_iff.2 ⟨pOk_iff.2 ⟨by omega, by omega, by omega, by omega, by rw [← Int.natCast_mul]; omega, by omega, by omega⟩, by rw [hl]; simp, fun v hv => ?_⟩
  obtain ⟨i, _, rfl⟩ := mem_getD' hv
  exact hz i
theorem lin_val {w h : Int} {zs : List Int} {p : Int} {ws : List Int} (hz : ∀ i, 0 ≤ zs.getD i 0 ∧ zs.getD i 0 ≤ 1000) (hl : ws.length = 9) (hw : ∀ i, 0 ≤ ws.getD i 0 ∧ ws.getD i 0 ≤ 4) (x y : Int) :
    cvP w h zs p 0 3 3 ws 0 1000000 x y = cvS w h zs p 0 3 3 ws x y ws.length := by
  have hb := cvS_small (w := w) (h := h) (p := p) (kw := 3) (kh := 3) (m := 1000) (c := 4) hz (by omega) (fun i _ => hw i) x y
  rw [show ((ws.length : Nat) : Int) * (4 * 1000) = 36000 by rw [hl]; rfl] at hb
  unfold cvP
  rw [shV_zero (by omega), clV_id hb.1 (by omega)]
theorem mv_split {nw nh i : Nat} (hi : i < nw * nh) : ∃ r c, c < nw ∧ r < nh ∧ i = r * nw + c := by
  have hw : 0 < nw := by
    rcases Nat.eq_zero_or_pos nw with h | h
    · subst h; omega
    · exact h
  exact ⟨i / nw, i % nw, Nat.mod_lt _ hw, Nat.div_lt_of_lt_mul hi, by rw [Nat.mul_comm]; exact (Nat.div_add_mod i nw).symm⟩
theorem lin_at {nw nh : Nat} {pl ql sl : List Int} {p : Int} {ws : List Int} (hw : 1 ≤ nw ∧ nw ≤ 5) (hh : 1 ≤ nh ∧ nh ≤ 4) (hp : 0 ≤ p ∧ p ≤ 2) (hl : ws.length = 9) (hws : ∀ i, 0 ≤ ws.getD i 0 ∧ ws.getD i 0 ≤ 4)
    (h1 : ∀ i, 0 ≤ pl.getD i 0 ∧ pl.getD i 0 ≤ 399) (h2 : ∀ i, 0 ≤ ql.getD i 0 ∧ ql.getD i 0 ≤ 399) (h3 : ∀ i, sl.getD i 0 = pl.getD i 0 + ql.getD i 0) {i : Nat} (hi : i < nw * nh) :
    (cvL nw nh pl p 0 3 3 ws 0 1000000 0 0 nw nh).getD i 0 + (cvL nw nh ql p 0 3 3 ws 0 1000000 0 0 nw nh).getD i 0 = (cvL nw nh sl p 0 3 3 ws 0 1000000 0 0 nw nh).getD i 0 := by
  obtain ⟨r, c, hc, hr, rfl⟩ := mv_split hi
  unfold cvL
  rw [rG_get _ rfl rfl hr hc, rG_get _ rfl rfl hr hc, rG_get _ rfl rfl hr hc, lin_val (fun i => by have := h1 i; omega) hl hws, lin_val (fun i => by have := h2 i; omega) hl hws, lin_val (fun i => by have := h1 i; have := h2 i; have := h3 i; omega) hl hws]
  exact (cvS_sum (by omega) (by omega) (by omega) (by omega) hp h3 3 3 ws _ _ _).symm
theorem cvL_len {nw nh : Nat} (zs : List Int) (p f kw kh : Int) (ws : List Int) (s out : Int) : (cvL nw nh zs p f kw kh ws s out 0 0 nw nh).length = nw * nh := by
  unfold cvL; rw [rG_len, show ((nh : Int) - 0).toNat = nh by omega, show ((nw : Int) - 0).toNat = nw by omega, Nat.mul_comm]
theorem cvL_bd {nw nh : Nat} (zs : List Int) (p f kw kh : Int) (ws : List Int) (s : Int) {out : Int} (ho : 0 ≤ out) {i : Nat} (hi : i < nw * nh) : 0 ≤ (cvL nw nh zs p f kw kh ws s out 0 0 nw nh).getD i 0 ∧ (cvL nw nh zs p f kw kh ws s out 0 0 nw nh).getD i 0 ≤ out := by
  obtain ⟨r, c, hc, hr, rfl⟩ := mv_split hi
  unfold cvL
  rw [rG_get _ rfl rfl hr hc]
  exact cvP_bd _ _ _ _ _ _ _ _ _ ho _ _
/-- The kernel 1 changes nothing. -/
theorem one_all {nw nh : Nat} {pl : List Int} {p : Int} (hw : 1 ≤ nw ∧ nw ≤ 5) (hh : 1 ≤ nh ∧ nh ≤ 4) (hp : 0 ≤ p ∧ p ≤ 2) (hl : pl.length = nw * nh) (h1 : ∀ i, 0 ≤ pl.getD i 0 ∧ pl.getD i 0 ≤ 399) : cvL nw nh pl p 0 1 1 [1] 0 1000 0 0 nw nh = pl := by
  apply List.ext_getElem (by rw [cvL_len, hl])
  intro i hi1 hi2
  have e1 : (cvL nw nh pl p 0 1 1 [1] 0 1000 0 0 nw nh).getD i 0 = (cvL nw nh pl p 0 1 1 [1] 0 1000 0 0 nw nh)[i] := by rw [List.getD_eq_getElem?_getD, List.getElem?_eq_getElem hi1]; rfl
  have e2 : pl.getD i 0 = pl[i] := by rw [List.getD_eq_getElem?_getD, List.getElem?_eq_getElem hi2]; rfl
  rw [← e1, ← e2]
  obtain ⟨r, c, hc, hr, rfl⟩ := mv_split (nw := nw) (nh := nh) (i := i) (by omega)
  unfold cvL
  rw [rG_get _ rfl rfl hr hc]
  have hv := h1 (r * nw + c)
  have e3 : cvS (nw : Int) (nh : Int) pl p 0 1 1 [1] (c : Int) (r : Int) ([1] : List Int).length = pl.getD (r * nw + c) 0 := by
    show (0 : Int) + 1 * pPix (nw : Int) (nh : Int) pl p 0 ((c : Int) + (0 : Int) % 1 - 1 / 2) ((r : Int) + (0 : Int) / 1 - 1 / 2) = _
    rw [show (c : Int) + (0 : Int) % 1 - 1 / 2 = c by omega, show (r : Int) + (0 : Int) / 1 - 1 / 2 = r by omega, pPix_in pl (by omega) (by omega) (by omega) (by omega) (by omega), show ((r : Int) * (nw : Int) + (c : Int)).toNat = r * nw + c by rw [← Int.natCast_mul]; omega]
    omega
  unfold cvP
  rw [e3, shV_zero (by omega), clV_id (by omega) (by omega)]
end Go.Proofs.Ytocikgdkigcjbaa
