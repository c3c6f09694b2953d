/-
  Plain law: the sums of rectangles out of integral planes; and the program's integral plane of a valid plane.
-/
import Derived.Test.YtoojiabdgaflgaaKH
namespace Go.Proofs.Ytoojiabdgaflgaa
open Go.RowKit
set_option linter.unusedVariables false

/-- The integral plane's pixels. -/
def wList (w : Int) (zs : List Int) (nh nw : Nat) : List Int := gridL (fun k j => rowsS w zs 0 0 (k + 1) (j + 1)) nw nh 0
theorem wList_len (w : Int) (zs : List Int) (nh nw : Nat) : (wList w zs nh nw).length = nh * nw := by unfold wList; rw [gridL_len]; rfl
theorem wList_get {w : Int} {zs : List Int} {nh nw k j : Nat} (hk : k < nh) (hj : j < nw) : (wList w zs nh nw).getD (k * nw + j) 0 = rowsS w zs 0 0 (k + 1) (j + 1) := by
  unfold wList; exact gridL_get _ nw nh 0 k j hj (.inl hk)
theorem iOk_small {w h mx : Int} (w1 : 1 ≤ w) (w2 : w ≤ 6) (h1 : 1 ≤ h) (h2 : h ≤ 5) (m1 : 1 ≤ mx) (m2 : mx ≤ 65535) : iOk w h mx = true ∧ 1 ≤ w * h ∧ w * h ≤ 30 ∧ 1 ≤ w * h * mx ∧ w * h * mx ≤ 1966050 := by
  have a1 := Int.mul_le_mul (a := w) (c := 6) (b := h) (d := 5) w2 h2 (by omega) (by omega)
  have a2 := Int.mul_le_mul (a := 1) (c := w) (b := 1) (d := h) w1 h1 (by omega) (by omega)
  have a3 := Int.mul_le_mul (a := w * h) (c := 30) (b := mx) (d := 65535) (by omega) m2 (by omega) (by omega)
  have a4 := Int.mul_le_mul (a := 1) (c := w * h) (b := 1) (d := mx) (by omega) m1 (by omega) (by omega)
  exact ⟨iOk_iff.2 (by omega), by omega, by omega, by omega, by omega⟩
theorem wList_valid {w h mx : Int} {zs : List Int} (hv : pValid w h mx zs = true) (hi : iOk w h mx = true) {nh nw : Nat} (hnh : h = nh) (hnw : w = nw) : pValid w h (w * h * mx) (wList w zs nh nw) = true := by
  obtain ⟨p1, p2, p3, p4, p5, p6, p7⟩ := pOk_iff.1 (pValid_iff.1 hv).1
  obtain ⟨i1, i2, i3, i4, i5⟩ := iOk_iff.1 hi
  have e1 := Int.mul_le_mul (a := 1) (c := w) (b := 1) (d := h) p1 p3 (by omega) (by omega)
  have e2 := Int.mul_le_mul (a := 1) (c := w * h) (b := 1) (d := mx) (by omega) i3 (by omega) (by omega)
  refine pValid_iff.2 ⟨pOk_iff.2 (by omega), ?_, ?_⟩
  · rw [wList_len, hnh, hnw, Int.mul_comm]; simp
  · unfold wList
    refine (gridL_all _ nw nh).2 fun a ha b hb => ?_
    exact whole_in hv (by omega) (by omega)
theorem rowsS_zero (w : Int) (zs : List Int) (r0 r1 : Int) (k : Nat) : rowsS w zs r0 r1 k 0 = 0 := sumN_none fun _ _ => rfl
theorem qAt_whole {w : Int} {zs : List Int} {nh nw : Nat} (hnw : w = nw) {k j : Nat} (hk : k ≤ nh) (hj : j ≤ nw) : qAt w (wList w zs nh nw) ((j : Int) - 1) ((k : Int) - 1) = rowsS w zs 0 0 k j := by
  unfold qAt
  rcases Nat.eq_zero_or_pos j with h0 | hj0
  · subst h0; rw [if_pos (by omega), rowsS_zero]
  rcases Nat.eq_zero_or_pos k with h0 | hk0
  · subst h0; rw [if_pos (by omega)]; rfl
  rw [if_neg (by omega)]
  obtain ⟨k', rfl⟩ : ∃ m, k = m + 1 := ⟨k - 1, by omega⟩
  obtain ⟨j', rfl⟩ : ∃ m, j = m + 1 := ⟨j - 1, by omega⟩
  have e : ((((k' + 1 : Nat) : Int) - 1) * w + (((j' + 1 : Nat) : Int) - 1)).toNat = k' * nw + j' := by
    subst hnw
    have e1 : ((k' + 1 : Nat) : Int) - 1 = k' := by omega
    have e2 : ((j' + 1 : Nat) : Int) - 1 = j' := by omega
    have e3 : (k' : Int) * (nw : Int) = ((k' * nw : Nat) : Int) := by simp
    rw [e1, e2, e3]
    omega
  rw [e]
  exact wList_get (by omega) (by omega)
theorem tPix_shift (w : Int) (zs : List Int) (a b i j : Nat) : tPix w zs 0 0 (a + i) (b + j) = tPix w zs b a i j := by
  unfold tPix
  have e : (0 + ((a + i : Nat) : Int)) * w + 0 + ((b + j : Nat) : Int) = ((a : Int) + i) * w + b + j := by simp [Int.add_assoc]
  rw [e]
theorem rowS_shift (w : Int) (zs : List Int) (a b i j : Nat) : rowS w zs 0 0 (a + i) (b + j) = rowS w zs 0 0 (a + i) b + rowS w zs b a i j := by
  unfold rowS
  rw [sumN_split]
  congr 1
  exact sumN_congr fun c _ => tPix_shift w zs a b i c
/-- The sum of a rectangle out of four sums from the plane's corner. -/
theorem rowsS_rect (w : Int) (zs : List Int) (a b k j : Nat) : rowsS w zs 0 0 (a + k) (b + j) - rowsS w zs 0 0 (a + k) b - rowsS w zs 0 0 a (b + j) + rowsS w zs 0 0 a b = rowsS w zs b a k j := by
  have e1 : rowsS w zs 0 0 (a + k) (b + j) = rowsS w zs 0 0 a (b + j) + sumN (fun i => rowS w zs 0 0 (a + i) (b + j)) k := sumN_split _ a k
  have e2 : rowsS w zs 0 0 (a + k) b = rowsS w zs 0 0 a b + sumN (fun i => rowS w zs 0 0 (a + i) b) k := sumN_split _ a k
  have e3 : sumN (fun i => rowS w zs 0 0 (a + i) (b + j)) k = sumN (fun i => rowS w zs 0 0 (a + i) b) k + rowsS w zs b a k j :=
    (sumN_congr fun i _ => rowS_shift w zs a b i j).trans (sumN_add _ _ k)
  omega
theorem sRaw_whole {w h : Int} {zs : List Int} {nh nw : Nat} (hnh : h = nh) (hnw : w = nw) {r0 r1 r2 r3 : Int} (h0 : 0 ≤ r0) (h1 : r0 < r2) (h2 : r2 ≤ w) (h3 : 0 ≤ r1) (h4 : r1 < r3) (h5 : r3 ≤ h) :
    sRaw w (wList w zs nh nw) r0 r1 r2 r3 = rowsS w zs r0 r1 (r3 - r1).toNat (r2 - r0).toNat := by
  obtain ⟨a, ha⟩ : ∃ a : Nat, r1 = a := ⟨r1.toNat, by omega⟩
  obtain ⟨b, hb⟩ : ∃ b : Nat, r0 = b := ⟨r0.toNat, by omega⟩
  obtain ⟨k, hk⟩ : ∃ k : Nat, r3 = ((a + k : Nat) : Int) := ⟨(r3 - r1).toNat, by omega⟩
  obtain ⟨j, hj⟩ : ∃ j : Nat, r2 = ((b + j : Nat) : Int) := ⟨(r2 - r0).toNat, by omega⟩
  have q1 : (r3 - r1).toNat = k := by omega
  have q2 : (r2 - r0).toNat = j := by omega
  have i1 : b + j ≤ nw := by omega
  have i2 : a + k ≤ nh := by omega
  rw [q1, q2]
  unfold sRaw
  rw [hj, hk, ha, hb, qAt_whole hnw i2 i1, qAt_whole hnw i2 (by omega), qAt_whole hnw (by omega) i1, qAt_whole hnw (by omega) (by omega)]
  exact rowsS_rect w zs a b k j
theorem sum_ok {w h m : Int} {L : List Int} (hv : pValid w h m L = true) {r0 r1 r2 r3 : Int} (hin : 0 ≤ r0 ∧ r0 < r2 ∧ r2 ≤ w ∧ 0 ≤ r1 ∧ r1 < r3 ∧ r3 ≤ h) : sCode w h m L r0 r1 r2 r3 = 0 ∧ sVal w h m L r0 r1 r2 r3 = sRaw w L r0 r1 r2 r3 := by
  obtain ⟨p1, p2, p3, p4, p5, p6, p7⟩ := pOk_iff.1 (pValid_iff.1 hv).1
  have hi := (inside_iff (w := w) (h := h) p1 p2 p3 p4).2 hin
  have hc : sCode w h m L r0 r1 r2 r3 = 0 := by unfold sCode; rw [if_neg (by rw [hv]; simp), if_neg (by rw [hi]; simp)]
  exact ⟨hc, by unfold sVal; rw [if_pos hc]⟩
theorem sRaw_cut (w : Int) (L : List Int) (r0 r1 c r2 r3 : Int) : sRaw w L r0 r1 c r3 + sRaw w L c r1 r2 r3 = sRaw w L r0 r1 r2 r3 := by unfold sRaw; omega
theorem sumN_succ (f : Nat → Int) (n : Nat) : sumN f (n + 1) = sumN f n + f n := rfl
/-- All pixels' sum. -/
theorem rowsS_all {w : Int} {zs : List Int} {nw : Nat} (hnw : w = nw) (k : Nat) : rowsS w zs 0 0 k nw = sumN (fun i => zs.getD i 0) (k * nw) := by
  induction k with
  | zero => rw [Nat.zero_mul]; rfl
  | succ k ih =>
    rw [Nat.add_mul, Nat.one_mul, sumN_split, ← ih]
    show rowsS w zs 0 0 k nw + rowS w zs 0 0 k nw = _
    congr 1
    unfold rowS
    refine sumN_congr fun b _ => ?_
    unfold tPix
    congr 1
    subst hnw
    have : (k : Int) * (nw : Int) = ((k * nw : Nat) : Int) := by simp
    rw [Int.zero_add, this]
    omega
theorem rowS_up {w h mx : Int} {zs : List Int} (hv : pValid w h mx zs = true) (k j : Nat) : rowS w zs 0 0 k j ≤ rowS w zs 0 0 k (j + 1) := by
  have := (tPix_bd hv 0 0 k j).1
  show _ ≤ rowS w zs 0 0 k j + tPix w zs 0 0 k j
  omega
theorem rowsS_right {w h mx : Int} {zs : List Int} (hv : pValid w h mx zs = true) (k j : Nat) : rowsS w zs 0 0 k j ≤ rowsS w zs 0 0 k (j + 1) := sumN_le fun i _ => rowS_up hv i j
theorem rowsS_down {w h mx : Int} {zs : List Int} (hv : pValid w h mx zs = true) (k j : Nat) : rowsS w zs 0 0 k j ≤ rowsS w zs 0 0 (k + 1) j := by
  have := (rowS_le hv 0 0 k j).1
  show _ ≤ rowsS w zs 0 0 k j + rowS w zs 0 0 k j
  omega
theorem wList_right {w h mx : Int} {zs : List Int} (hv : pValid w h mx zs = true) {nh nw i : Nat} (hi : i < nh * nw) (hm : 0 < i % nw) : (wList w zs nh nw).getD (i - 1) 0 ≤ (wList w zs nh nw).getD i 0 := by
  have hw : 0 < nw := by rcases Nat.eq_zero_or_pos nw with h' | h'; subst h'; simp at hi; exact h'
  have hk : i / nw < nh := (Nat.div_lt_iff_lt_mul hw).2 hi
  have hj := Nat.mod_lt i hw
  have e := Nat.div_add_mod i nw
  rw [Nat.mul_comm] at e
  obtain ⟨j, ej⟩ : ∃ j, i % nw = j + 1 := ⟨i % nw - 1, by omega⟩
  have e2 : i - 1 = i / nw * nw + j := by omega
  have e3 : (wList w zs nh nw).getD i 0 = rowsS w zs 0 0 (i / nw + 1) (j + 1 + 1) := by
    rw [← ej, ← wList_get hk hj, e]
  rw [e2, e3, wList_get hk (by omega)]
  exact rowsS_right hv _ _
theorem wList_down {w h mx : Int} {zs : List Int} (hv : pValid w h mx zs = true) {nh nw i : Nat} (hi : i < nh * nw) (hm : nw ≤ i) : (wList w zs nh nw).getD (i - nw) 0 ≤ (wList w zs nh nw).getD i 0 := by
  have hw : 0 < nw := by rcases Nat.eq_zero_or_pos nw with h' | h'; subst h'; simp at hi; exact h'
  have hk : i / nw < nh := (Nat.div_lt_iff_lt_mul hw).2 hi
  have hj := Nat.mod_lt i hw
  have e := Nat.div_add_mod i nw
  rw [Nat.mul_comm] at e
  have h1 : 1 ≤ i / nw := (Nat.le_div_iff_mul_le hw).2 (by omega)
  obtain ⟨k, ek⟩ : ∃ k, i / nw = k + 1 := ⟨i / nw - 1, by omega⟩
  have e2 : i - nw = k * nw + i % nw := by rw [ek, Nat.add_mul, Nat.one_mul] at e; omega
  have e3 : (wList w zs nh nw).getD i 0 = rowsS w zs 0 0 (k + 1 + 1) (i % nw + 1) := by
    rw [← ek, ← wList_get hk hj, e]
  rw [e2, e3, wList_get (by omega) hj]
  exact rowsS_down hv _ _

theorem rect_bd {w h mx : Int} {zs : List Int} (hv : pValid w h mx zs = true) (hm : mx ≤ 65535) (r0 r1 : Int) {k j : Nat} (hk : k ≤ 5) (hj : j ≤ 6) : 0 ≤ rowsS w zs r0 r1 k j ∧ rowsS w zs r0 r1 k j ≤ 1966050 := by
  obtain ⟨h0, h1⟩ := rowsS_le hv r0 r1 k j
  have hm0 := (pOk_iff.1 (pValid_iff.1 hv).1).2.2.2.2.2.1
  have a1 : (j : Int) * mx ≤ 6 * 65535 := Int.mul_le_mul (by omega) hm (by omega) (by omega)
  have a2 : (k : Int) * (j * mx) ≤ 5 * (6 * 65535) := Int.mul_le_mul (by omega) a1 (Int.mul_nonneg (by omega) (by omega)) (by omega)
  omega
theorem rowS_bd5 {w h mx : Int} {zs : List Int} (hv : pValid w h mx zs = true) (hm : mx ≤ 65535) (r0 r1 : Int) (k : Nat) {j : Nat} (hj : j ≤ 6) : 0 ≤ rowS w zs r0 r1 k j ∧ rowS w zs r0 r1 k j ≤ 393210 := by
  obtain ⟨h0, h1⟩ := rowS_le hv r0 r1 k j
  have hm0 := (pOk_iff.1 (pValid_iff.1 hv).1).2.2.2.2.2.1
  have a1 : (j : Int) * mx ≤ 6 * 65535 := Int.mul_le_mul (by omega) hm (by omega) (by omega)
  omega
/-- The program's integral plane of a valid plane. -/
theorem iwhole_ok (w h mx : Int) (a : Option Addr) (n c : Nat) (zs : List Int) (W : World) (hs : Slc W a n c zs) (hv : pValid w h mx zs = true) (hi : iOk w h mx = true) (nh nw : Nat) (hnh : h = nh) (hnw : w = nw) :
    Calls Try.prog 37 #[.agg #[.int .i64 w, .int .i64 h, .int .i64 mx, .slice a n c]] W fun e w' =>
      ∃ v, e = .returned (.tuple #[.agg #[.int .i64 w, .int .i64 h, .int .i64 (w * h * mx), v], .int .i64 0]) ∧ Own W.heap.size w' v (wList w zs nh nw) ∧ Below W.heap.size W w' := by
  refine (iwhole_any w h mx a n c zs W hs).mono ?_
  rintro e w' ⟨v, rfl, ho, hb⟩
  have e1 : h.toNat = nh := by omega
  have e2 : w.toNat = nw := by omega
  have hc := whole_code hv hi nh nw hnh hnw
  rw [← e1, ← e2] at hc
  have ht : ∀ x, tIf w h mx zs 0 0 w h (List.replicate h.toNat 0) (List.replicate w.toNat 0) 0 x = x := fun x => by unfold tIf; rw [if_pos hc]
  have hl : tList w h mx zs 0 0 w h (List.replicate h.toNat 0) (List.replicate w.toNat 0) 0 = wList w zs nh nw := by
    unfold tList; rw [if_pos hc, e1, e2, whole_all hv nh nw hnh hnw]; rfl
  rw [hl] at ho
  refine ⟨v, ?_, ho, hb⟩
  rw [ht, ht, ht, hc, Int.sub_zero, Int.sub_zero]
end Go.Proofs.Ytoojiabdgaflgaa
