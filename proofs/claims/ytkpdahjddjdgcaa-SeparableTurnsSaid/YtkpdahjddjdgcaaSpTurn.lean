/-
  Plain law: turned planes, and what convolutions by rows and columns make of them.
-/
import Derived.Test.YtkpdahjddjdgcaaSpDense
namespace Go.Proofs.Ytkpdahjddjdgcaa
open Go.RowKit
set_option linter.unusedVariables false

/-- Where a pixel comes to lie when a plane is turned at its diagonal. -/
def tvI (nw nh i : Nat) : Nat := i % nw * nh + i / nw
theorem tvI_at {nw : Nat} (nh r c : Nat) (hc : c < nw) : tvI nw nh (r * nw + c) = c * nh + r := by
  unfold tvI
  rw [Nat.mul_comm r nw, Nat.mul_add_mod, Nat.mod_eq_of_lt hc, Nat.mul_add_div (by omega), Nat.div_eq_of_lt hc, Nat.add_zero]
theorem split_at {nw nh i : Nat} (hi : i < nh * nw) : ∃ r c, c < nw ∧ r < nh ∧ i = r * nw + c := by
  have hw : 0 < nw := by
    rcases Nat.eq_zero_or_pos nw with h | h
    · subst h; omega
    · exact h
  exact ⟨i / nw, i % nw, Nat.mod_lt _ hw, Nat.div_lt_of_lt_mul (by rw [Nat.mul_comm]; exact hi), by rw [Nat.mul_comm]; exact (Nat.div_add_mod i nw).symm⟩
theorem grid_lt {nw nh r c : Nat} (hr : r < nh) (hc : c < nw) : r * nw + c < nh * nw := by
  have := Nat.mul_le_mul_right nw (show r + 1 ≤ nh from hr)
  rw [Nat.add_mul, Nat.one_mul] at this; omega
theorem tvI_lt {nw nh i : Nat} (hi : i < nh * nw) : tvI nw nh i < nw * nh := by
  obtain ⟨r, c, hc, hr, rfl⟩ := split_at hi
  rw [tvI_at nh r c hc]; exact grid_lt hc hr
theorem tvI_inj {nw nh i j : Nat} (hi : i < nh * nw) (hj : j < nh * nw) (h : tvI nw nh i = tvI nw nh j) : i = j := by
  obtain ⟨r, c, hc, hr, rfl⟩ := split_at hi
  obtain ⟨r', c', hc', hr', rfl⟩ := split_at hj
  rw [tvI_at nh r c hc, tvI_at nh r' c' hc'] at h
  have e : c = c' := by
    rcases Nat.lt_trichotomy c c' with h1 | h1 | h1
    · have := Nat.mul_le_mul_right nh (show c + 1 ≤ c' from h1); rw [Nat.add_mul, Nat.one_mul] at this; omega
    · exact h1
    · have := Nat.mul_le_mul_right nh (show c' + 1 ≤ c from h1); rw [Nat.add_mul, Nat.one_mul] at this; omega
  subst e
  have : r = r' := by omega
  rw [this]
/-- What has been laid while a plane is turned: the first j places. -/
def TurnTo (nw nh : Nat) (zs ql : List Int) (j : Nat) : Prop := ql.length = zs.length ∧ ∀ i, i < j → ql.getD (tvI nw nh i) 0 = zs.getD i 0
def Turned (nw nh : Nat) (zs ql : List Int) : Prop := TurnTo nw nh zs ql zs.length
theorem TurnTo.next {nw nh j : Nat} {zs ql : List Int} (h : TurnTo nw nh zs ql j) (hl : zs.length = nh * nw) (hj : j < zs.length) : TurnTo nw nh zs (ql.set (tvI nw nh j) (zs.getD j 0)) (j + 1) := by
  refine ⟨by rw [List.length_set]; exact h.1, fun i hi => ?_⟩
  rw [List.getD_eq_getElem?_getD, List.getElem?_set]
  by_cases e : i = j
  · subst e
    rw [if_pos rfl, if_pos (by rw [h.1, hl, Nat.mul_comm]; exact tvI_lt (by omega))]; rfl
  · rw [if_neg (fun e' => e (tvI_inj (by omega) (by omega) e'.symm)), ← List.getD_eq_getElem?_getD]
    exact h.2 i (by omega)
theorem Turned.get {nw nh : Nat} {zs ql : List Int} (h : Turned nw nh zs ql) (hl : zs.length = nh * nw) {r c : Nat} (hr : r < nh) (hc : c < nw) : ql.getD (c * nh + r) 0 = zs.getD (r * nw + c) 0 := by
  have := h.2 (r * nw + c) (by rw [hl]; exact grid_lt hr hc)
  rwa [tvI_at nh r c hc] at this
theorem Turned.unique {nw nh : Nat} {zs q1 q2 : List Int} (hl : zs.length = nh * nw) (h1 : Turned nw nh zs q1) (h2 : Turned nw nh zs q2) : q1 = q2 := by
  apply List.ext_getElem (by rw [h1.1, h2.1])
  intro i hi1 hi2
  have e1 : q1.getD i 0 = q1[i] := by rw [List.getD_eq_getElem?_getD, List.getElem?_eq_getElem hi1]; rfl
  have e2 : q2.getD i 0 = q2[i] := by rw [List.getD_eq_getElem?_getD, List.getElem?_eq_getElem hi2]; rfl
  rw [← e1, ← e2]
  obtain ⟨c, r, hr, hc, rfl⟩ := split_at (nw := nh) (nh := nw) (i := i) (by rw [Nat.mul_comm, ← hl, ← h1.1]; exact hi1)
  rw [h1.get hl hr hc, h2.get hl hr hc]
theorem Turned.valid {w h mx : Int} {nw nh : Nat} {zs ql : List Int} (hw : w = nw) (hh : h = nh) (hv : pValid w h mx zs = true) (ht : Turned nw nh zs ql) : pValid h w mx ql = true := by
  obtain ⟨p1, p2, p3, p4, p5, p6, p7⟩ := pOk_iff.1 (pValid_iff.1 hv).1
  have hl := (pValid_iff.1 hv).2.1
  have hl2 : zs.length = nh * nw := by rw [hw, hh, ← Int.natCast_mul, Nat.mul_comm] at hl; omega
  refine pValid_iff.2 ⟨pOk_iff.2 ⟨p3, p4, p1, p2, by rw [Int.mul_comm]; exact p5, p6, p7⟩, by rw [ht.1, hl, Int.mul_comm], fun v hv' => ?_⟩
  obtain ⟨i, hi, rfl⟩ := mem_getD' hv'
  obtain ⟨c, r, hr, hc, rfl⟩ := split_at (nw := nh) (nh := nw) (i := i) (by rw [Nat.mul_comm, ← hl2, ← ht.1]; exact hi)
  rw [ht.get hl2 hr hc]
  exact (pValid_iff.1 hv).2.2 _ (getD_mem' (by rw [hl2]; exact grid_lt hr hc))
theorem pPix_turn {w h mx : Int} {nw nh : Nat} {zs ql : List Int} (hw : w = nw) (hh : h = nh) (hv : pValid w h mx zs = true) (ht : Turned nw nh zs ql) (p f x y : Int) : pPix h w ql p f y x = pPix w h zs p f x y := by
  have hl := (pValid_iff.1 hv).2.1
  have hl2 : zs.length = nh * nw := by rw [hw, hh, ← Int.natCast_mul, Nat.mul_comm] at hl; omega
  unfold pPix
  by_cases hx : bOk x w p = true
  · by_cases hy : bOk y h p = true
    · rw [if_pos ⟨hy, hx⟩, if_pos ⟨hx, hy⟩]
      obtain ⟨_, _, x1, x2⟩ := bIdx_bd hx
      obtain ⟨_, _, y1, y2⟩ := bIdx_bd hy
      obtain ⟨c, hc⟩ : ∃ c : Nat, bIdx x w p = c := ⟨(bIdx x w p).toNat, by omega⟩
      obtain ⟨r, hr⟩ : ∃ r : Nat, bIdx y h p = r := ⟨(bIdx y h p).toNat, by omega⟩
      rw [hc, hr, hw, hh]
      rw [show ((c : Int) * (nh : Int) + (r : Int)).toNat = c * nh + r by rw [← Int.natCast_mul]; omega, show ((r : Int) * (nw : Int) + (c : Int)).toNat = r * nw + c by rw [← Int.natCast_mul]; omega]
      exact ht.get hl2 (by omega) (by omega)
    · rw [if_neg (fun e => hy e.1), if_neg (fun e => hy e.2)]
  · rw [if_neg (fun e => hx e.2), if_neg (fun e => hx e.1)]
theorem spS_zero {w h mx : Int} {zs : List Int} {p f : Int} (hv : pValid w h mx zs = true) (hb : bValid p f mx = true) (hm : mx ≤ 65535) {a b : List Int} (hr : 1 ≤ a.length ∧ a.length ≤ 9) (hwr : ∀ i, -20 ≤ a.getD i 0 ∧ a.getD i 0 ≤ 20) (x y : Int) :
    spS w h zs p f a b 0 x y b.length = sumN (fun j => sumN (fun i => b.getD j 0 * (a.getD i 0 * pPix w h zs p f (x + (i : Int) - (a.length : Int) / 2) (y + (j : Int) - (b.length : Int) / 2))) a.length) b.length := by
  unfold spS
  refine sumN_congr fun j _ => ?_
  rw [spM_zero hv hb hm hr hwr]
  unfold spR
  rw [sumN_mul]
theorem turn_sum {w h mx : Int} {nw nh : Nat} {zs ql : List Int} {p f : Int} (hw : w = nw) (hh : h = nh) (hv : pValid w h mx zs = true) (ht : Turned nw nh zs ql) (hb : bValid p f mx = true) (hm : mx ≤ 65535) {a b : List Int} (ha : 1 ≤ a.length ∧ a.length ≤ 9) (hwa : ∀ i, -20 ≤ a.getD i 0 ∧ a.getD i 0 ≤ 20) (hbl : 1 ≤ b.length ∧ b.length ≤ 9) (hwb : ∀ i, -20 ≤ b.getD i 0 ∧ b.getD i 0 ≤ 20) (x y : Int) :
    spS h w ql p f b a 0 y x a.length = spS w h zs p f a b 0 x y b.length := by
  rw [spS_zero (ht.valid hw hh hv) hb hm hbl hwb, spS_zero hv hb hm ha hwa, sumN_swap]
  refine sumN_congr fun j _ => sumN_congr fun i _ => ?_
  rw [pPix_turn hw hh hv ht, ← Int.mul_assoc, ← Int.mul_assoc, Int.mul_comm (a.getD i 0)]
/-- The turned result is the result of the turned plane. -/
theorem turn_all {w h mx : Int} {nw nh : Nat} {zs ql : List Int} {p f : Int} (hw : w = nw) (hh : h = nh) (hv : pValid w h mx zs = true) (ht : Turned nw nh zs ql) (hb : bValid p f mx = true) (hm : mx ≤ 65535) {a b : List Int} (ha : 1 ≤ a.length ∧ a.length ≤ 9) (hwa : ∀ i, -20 ≤ a.getD i 0 ∧ a.getD i 0 ≤ 20) (hbl : 1 ≤ b.length ∧ b.length ≤ 9) (hwb : ∀ i, -20 ≤ b.getD i 0 ∧ b.getD i 0 ≤ 20) (s out : Int) :
    Turned nw nh (spL w h zs p f a b 0 s out 0 0 w h) (spL h w ql p f b a 0 s out 0 0 h w) := by
  have e1 : (spL w h zs p f a b 0 s out 0 0 w h).length = nh * nw := by unfold spL; rw [rG_len, show (h - 0).toNat = nh by omega, show (w - 0).toNat = nw by omega]
  have e2 : (spL h w ql p f b a 0 s out 0 0 h w).length = nw * nh := by unfold spL; rw [rG_len, show (h - 0).toNat = nh by omega, show (w - 0).toNat = nw by omega]
  refine ⟨by rw [e1, e2, Nat.mul_comm], fun i hi => ?_⟩
  rw [e1] at hi
  obtain ⟨r, c, hc, hr, rfl⟩ := split_at hi
  rw [tvI_at nh r c hc]
  unfold spL
  rw [rG_get _ hh hw hc hr, rG_get _ hw hh hr hc]
  unfold spP
  rw [turn_sum hw hh hv ht hb hm ha hwa hbl hwb]
end Go.Proofs.Ytkpdahjddjdgcaa
