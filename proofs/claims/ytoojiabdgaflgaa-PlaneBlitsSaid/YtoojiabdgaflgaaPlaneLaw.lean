/-
  Plain law: crops and blits of planes: what fits, what is read back, what stays.
-/
import Derived.Test.YtoojiabdgaflgaaQBlit
namespace Go.Proofs.Ytoojiabdgaflgaa
open Go.RowKit
set_option linter.unusedVariables false

theorem crop_ok {w h mx : Int} {zs : List Int} {r0 r1 r2 r3 : Int} (hv : pValid w h mx zs = true) (hin : 0 ≤ r0 ∧ r0 < r2 ∧ r2 ≤ w ∧ 0 ≤ r1 ∧ r1 < r3 ∧ r3 ≤ h) : cOk w h mx zs r0 r1 r2 r3 = true := by
  obtain ⟨p1, p2, p3, p4, _, _, _⟩ := pOk_iff.1 (pValid_iff.1 hv).1
  unfold cOk
  rw [hv, (inside_iff p1 p2 p3 p4).2 hin]; rfl
theorem cAll_len (w : Int) (zs : List Int) (r0 r1 r2 r3 : Int) : (cAll w zs r0 r1 r2 r3).length = (r3 - r1).toNat * (r2 - r0).toNat := by unfold cAll; rw [gridL_len]; rfl
theorem crop_valid {w h mx : Int} {zs : List Int} {r0 r1 r2 r3 : Int} (hv : pValid w h mx zs = true) (hin : 0 ≤ r0 ∧ r0 < r2 ∧ r2 ≤ w ∧ 0 ≤ r1 ∧ r1 < r3 ∧ r3 ≤ h) : pValid (r2 - r0) (r3 - r1) mx (cAll w zs r0 r1 r2 r3) = true := by
  obtain ⟨p1, p2, p3, p4, p5, p6, p7⟩ := pOk_iff.1 (pValid_iff.1 hv).1
  have e1 := Int.mul_le_mul (a := r2 - r0) (c := w) (b := r3 - r1) (d := h) (by omega) (by omega) (by omega) (by omega)
  obtain ⟨a, ha⟩ : ∃ a : Nat, r2 - r0 = a := ⟨(r2 - r0).toNat, by omega⟩
  obtain ⟨b, hb⟩ : ∃ b : Nat, r3 - r1 = b := ⟨(r3 - r1).toNat, by omega⟩
  refine pValid_iff.2 ⟨pOk_iff.2 (by omega), ?_, ?_⟩
  · rw [cAll_len, ha, hb, Int.mul_comm]; simp
  · unfold cAll
    exact (gridL_all _ _ _).2 fun a _ b _ => tPix_bd hv r0 r1 a b
theorem blit_ok {w h mx : Int} {zs : List Int} {u v : Int} {qs : List Int} {x y : Int} (hv : pValid w h mx zs = true) (hq : pValid u v mx qs = true) (hin : 0 ≤ x ∧ x ≤ w - u ∧ 0 ≤ y ∧ y ≤ h - v) : blOk w h mx zs u v mx qs x y = true :=
  blOk_iff.2 ⟨hv, hq, hin, fun z hz => ((pValid_iff.1 hq).2.2 z hz).2⟩
theorem valid_len {w h mx : Int} {zs : List Int} (hv : pValid w h mx zs = true) : 1 ≤ zs.length ∧ zs.length ≤ 4096 := by
  obtain ⟨p1, p2, p3, p4, p5, _, _⟩ := pOk_iff.1 (pValid_iff.1 hv).1
  have e := (pValid_iff.1 hv).2.1
  have e1 := Int.mul_le_mul (a := 1) (c := w) (b := 1) (d := h) p1 p3 (by omega) (by omega)
  omega
theorem splice_getD (L cs : List Int) (off i : Nat) (h : off + cs.length ≤ L.length) : (splice L off cs).getD i 0 = if off ≤ i ∧ i < off + cs.length then cs.getD (i - off) 0 else L.getD i 0 := by
  unfold splice
  have e : (L.take off).length = off := by rw [List.length_take]; omega
  rw [List.getD_eq_getElem?_getD, List.getElem?_append, e]
  by_cases h1 : i < off
  · rw [if_pos h1, if_neg (by omega), List.getElem?_take_of_lt h1, List.getD_eq_getElem?_getD]
  · rw [if_neg h1, List.getElem?_append]
    by_cases h2 : i - off < cs.length
    · rw [if_pos h2, if_pos (by omega), List.getD_eq_getElem?_getD]
    · rw [if_neg h2, if_neg (by omega), List.getElem?_drop, List.getD_eq_getElem?_getD]
      congr 2; omega
theorem bRow_getD (qs : List Int) (qw k b : Nat) (hb : b < qw) : (bRow qs qw k qw).getD b 0 = qs.getD (k * qw + b) 0 := by
  simp [bRow, List.getD_eq_getElem?_getD, hb]
/-- A pixel behind a blit. -/
theorem bl_at {zs qs : List Int} {nh nw X Y qw qh : Nat} (hl : zs.length = nh * nw) (hx : X + qw ≤ nw) (hy : Y + qh ≤ nh) {r c : Nat} (hc : c < nw) :
    ∀ {k : Nat}, k ≤ qh → (bl zs qs nw X Y qw k).getD (r * nw + c) 0 = if X ≤ c ∧ c < X + qw ∧ Y ≤ r ∧ r < Y + k then qs.getD ((r - Y) * qw + (c - X)) 0 else zs.getD (r * nw + c) 0
  | 0, _ => by rw [if_neg (by omega)]; rfl
  | k + 1, hk => by
    have ih := bl_at (qs := qs) hl hx hy (r := r) hc (k := k) (by omega)
    have hfit := row_fits (nh := nh) hx hy (k := k) (by omega)
    show (splice _ _ _).getD _ 0 = _
    rw [splice_getD _ _ _ _ (by rw [bRow_len, bl_len hl hx hy (by omega), hl]; exact hfit), bRow_len, ih]
    rcases Nat.lt_trichotomy r (Y + k) with h | h | h
    · have e1 : (r + 1) * nw ≤ (Y + k) * nw := Nat.mul_le_mul_right _ (by omega)
      rw [Nat.add_mul, Nat.one_mul] at e1
      rw [if_neg (by omega)]
      by_cases h2 : X ≤ c ∧ c < X + qw ∧ Y ≤ r
      · rw [if_pos (by omega), if_pos (by omega)]
      · rw [if_neg (by omega), if_neg (by omega)]
    · subst h
      by_cases h2 : X ≤ c ∧ c < X + qw
      · rw [if_pos (by omega), if_pos (by omega), show (Y + k) * nw + c - ((Y + k) * nw + X) = c - X by omega, bRow_getD _ _ _ _ (by omega), show Y + k - Y = k by omega]
      · rw [if_neg (by omega), if_neg (by omega), if_neg (by omega)]
    · have e1 : (Y + k + 1) * nw ≤ r * nw := Nat.mul_le_mul_right _ (by omega)
      rw [Nat.add_mul, Nat.one_mul] at e1
      rw [if_neg (by omega), if_neg (by omega), if_neg (by omega)]
theorem tPix_nat (zs : List Int) (nw X Y a b : Nat) : tPix (nw : Int) zs (X : Int) (Y : Int) a b = zs.getD ((Y + a) * nw + (X + b)) 0 := by
  unfold tPix
  congr 1
  have : ((Y : Int) + (a : Int)) * (nw : Int) = (((Y + a) * nw : Nat) : Int) := by simp
  rw [this]
  omega
/-- Cropping what was blitted gives it back. -/
theorem crop_blit {zs qs : List Int} {nh nw X Y qw qh : Nat} (hl : zs.length = nh * nw) (hq : qs.length = qh * qw) (hw : 0 < qw) (hx : X + qw ≤ nw) (hy : Y + qh ≤ nh) : gridL (tPix (nw : Int) (bl zs qs nw X Y qw qh) (X : Int) (Y : Int)) qw qh 0 = qs := by
  refine eq_of_getD (by rw [gridL_len, hq]; rfl) fun i hi => ?_
  rw [gridL_len] at hi
  have hk : i / qw < qh := (Nat.div_lt_iff_lt_mul hw).2 (by omega)
  have hj := Nat.mod_lt i hw
  have e := Nat.div_add_mod i qw
  rw [Nat.mul_comm] at e
  obtain ⟨a, ha⟩ : ∃ a, i / qw = a := ⟨_, rfl⟩
  obtain ⟨b, hb⟩ : ∃ b, i % qw = b := ⟨_, rfl⟩
  rw [ha, hb] at e
  rw [ha] at hk
  rw [hb] at hj
  rw [← e, gridL_get _ qw qh 0 a b hj (.inl hk), tPix_nat, bl_at hl hx hy (by omega) (Nat.le_refl _), if_pos (by omega), show Y + a - Y = a by omega, show X + b - X = b by omega]
/-- Blitting a crop at its place changes nothing. -/
theorem blit_crop {zs : List Int} {nh nw X Y qw qh : Nat} (hl : zs.length = nh * nw) (hw : 0 < nw) (hx : X + qw ≤ nw) (hy : Y + qh ≤ nh) : bl zs (gridL (tPix (nw : Int) zs (X : Int) (Y : Int)) qw qh 0) nw X Y qw qh = zs := by
  refine eq_of_getD (bl_len hl hx hy (Nat.le_refl _)) fun i hi => ?_
  have hj := Nat.mod_lt i hw
  have e := Nat.div_add_mod i nw
  rw [Nat.mul_comm] at e
  obtain ⟨r, hr⟩ : ∃ a, i / nw = a := ⟨_, rfl⟩
  obtain ⟨c, hc⟩ : ∃ b, i % nw = b := ⟨_, rfl⟩
  rw [hr, hc] at e
  rw [hc] at hj
  rw [← e, bl_at hl hx hy hj (Nat.le_refl _)]
  by_cases h : X ≤ c ∧ c < X + qw ∧ Y ≤ r ∧ r < Y + qh
  · rw [if_pos h, gridL_get _ qw qh 0 (r - Y) (c - X) (by omega) (.inl (by omega)), tPix_nat, show Y + (r - Y) = r by omega, show X + (c - X) = c by omega]
  · rw [if_neg h]
/-- The same of whole planes. -/
theorem dims {w h mx : Int} {zs : List Int} {r0 r1 r2 r3 : Int} (hv : pValid w h mx zs = true) (hin : 0 ≤ r0 ∧ r0 < r2 ∧ r2 ≤ w ∧ 0 ≤ r1 ∧ r1 < r3 ∧ r3 ≤ h) :
    ∃ nw nh X Y qw qh : Nat, w = nw ∧ h = nh ∧ r0 = X ∧ r1 = Y ∧ r2 - r0 = qw ∧ r3 - r1 = qh ∧ zs.length = nh * nw ∧ 0 < nw ∧ 0 < qw ∧ X + qw ≤ nw ∧ Y + qh ≤ nh := by
  obtain ⟨p1, p2, p3, p4, p5, _, _⟩ := pOk_iff.1 (pValid_iff.1 hv).1
  have e := (pValid_iff.1 hv).2.1
  refine ⟨w.toNat, h.toNat, r0.toNat, r1.toNat, (r2 - r0).toNat, (r3 - r1).toNat, by omega, by omega, by omega, by omega, by omega, by omega, ?_, by omega, by omega, by omega, by omega⟩
  obtain ⟨nw, hnw⟩ : ∃ m : Nat, w = m := ⟨w.toNat, by omega⟩
  obtain ⟨nh, hnh⟩ : ∃ m : Nat, h = m := ⟨h.toNat, by omega⟩
  subst hnw hnh
  rw [Int.mul_comm] at e
  exact_mod_cast e
theorem cAll_nat {zs : List Int} {nw X Y qw qh : Nat} {w r0 r1 r2 r3 : Int} (e1 : w = nw) (e3 : r0 = X) (e4 : r1 = Y) (e5 : r2 - r0 = qw) (e6 : r3 - r1 = qh) : cAll w zs r0 r1 r2 r3 = gridL (tPix (nw : Int) zs (X : Int) (Y : Int)) qw qh 0 := by
  unfold cAll
  rw [e5, e6, e1, e3, e4]; rfl
theorem blit_crop' {w h mx : Int} {zs : List Int} {r0 r1 r2 r3 : Int} (hv : pValid w h mx zs = true) (hin : 0 ≤ r0 ∧ r0 < r2 ∧ r2 ≤ w ∧ 0 ≤ r1 ∧ r1 < r3 ∧ r3 ≤ h) : bl zs (cAll w zs r0 r1 r2 r3) w.toNat r0.toNat r1.toNat (r2 - r0).toNat (r3 - r1).toNat = zs := by
  obtain ⟨nw, nh, X, Y, qw, qh, e1, e2, e3, e4, e5, e6, hl, h1, h2, hx, hy⟩ := dims hv hin
  rw [cAll_nat e1 e3 e4 e5 e6, e5, e6, e1, e3, e4]
  exact blit_crop hl h1 hx hy
theorem qlen {u v mx : Int} {qs : List Int} {qw qh : Nat} (hq : pValid u v mx qs = true) (e5 : u = qw) (e6 : v = qh) : qs.length = qh * qw := by
  have e := (pValid_iff.1 hq).2.1
  rw [e5, e6, Int.mul_comm] at e
  exact_mod_cast e
theorem crop_blit' {w h mx : Int} {zs qs : List Int} {r0 r1 r2 r3 : Int} (hv : pValid w h mx zs = true) (hin : 0 ≤ r0 ∧ r0 < r2 ∧ r2 ≤ w ∧ 0 ≤ r1 ∧ r1 < r3 ∧ r3 ≤ h) (hq : pValid (r2 - r0) (r3 - r1) mx qs = true) :
    cAll w (bl zs qs w.toNat r0.toNat r1.toNat (r2 - r0).toNat (r3 - r1).toNat) r0 r1 r2 r3 = qs := by
  obtain ⟨nw, nh, X, Y, qw, qh, e1, e2, e3, e4, e5, e6, hl, h1, h2, hx, hy⟩ := dims hv hin
  rw [cAll_nat e1 e3 e4 e5 e6, e5, e6, e1, e3, e4]
  exact crop_blit hl (qlen hq e5 e6) h2 hx hy
theorem blit_valid' {w h mx : Int} {zs qs : List Int} {r0 r1 r2 r3 : Int} (hv : pValid w h mx zs = true) (hin : 0 ≤ r0 ∧ r0 < r2 ∧ r2 ≤ w ∧ 0 ≤ r1 ∧ r1 < r3 ∧ r3 ≤ h) (hq : pValid (r2 - r0) (r3 - r1) mx qs = true) :
    pValid w h mx (bl zs qs w.toNat r0.toNat r1.toNat (r2 - r0).toNat (r3 - r1).toNat) = true := by
  obtain ⟨nw, nh, X, Y, qw, qh, e1, e2, e3, e4, e5, e6, hl, h1, h2, hx, hy⟩ := dims hv hin
  have hql := qlen hq e5 e6
  have hlen := bl_len (qs := qs) hl hx hy (Nat.le_refl qh)
  rw [e5, e6, e1, e3, e4]
  refine pValid_iff.2 ⟨by rw [← e1]; exact (pValid_iff.1 hv).1, ?_, fun v hv' => ?_⟩
  · simp only [Int.toNat_natCast]
    rw [hlen, ← e1]; exact (pValid_iff.1 hv).2.1
  · simp only [Int.toNat_natCast] at hv'
    obtain ⟨i, hi, rfl⟩ := mem_getD' hv'
    rw [hlen, hl] at hi
    have hj := Nat.mod_lt i h1
    have e := Nat.div_add_mod i nw
    rw [Nat.mul_comm] at e
    have hk : i / nw < nh := (Nat.div_lt_iff_lt_mul h1).2 (by omega)
    obtain ⟨r, hr⟩ : ∃ a, i / nw = a := ⟨_, rfl⟩
    obtain ⟨c, hc⟩ : ∃ b, i % nw = b := ⟨_, rfl⟩
    rw [hr, hc] at e
    rw [hc] at hj
    rw [← e, bl_at hl hx hy hj (Nat.le_refl _)]
    split
    · rename_i hin2
      refine (pValid_iff.1 hq).2.2 _ (getD_mem' ?_)
      have : (r - Y + 1) * qw ≤ qh * qw := Nat.mul_le_mul_right _ (by omega)
      rw [Nat.add_mul, Nat.one_mul] at this
      omega
    · exact (pValid_iff.1 hv).2.2 _ (getD_mem' (by rw [e, hl]; omega))
theorem bl_out' {w h mx : Int} {zs qs : List Int} {r0 r1 r2 r3 : Int} (hv : pValid w h mx zs = true) (hin : 0 ≤ r0 ∧ r0 < r2 ∧ r2 ≤ w ∧ 0 ≤ r1 ∧ r1 < r3 ∧ r3 ≤ h) {n : Nat} (hn : n < zs.length)
    (ho : ¬ (r0 ≤ (n : Int) % w ∧ (n : Int) % w < r2 ∧ r1 ≤ (n : Int) / w ∧ (n : Int) / w < r3)) : (bl zs qs w.toNat r0.toNat r1.toNat (r2 - r0).toNat (r3 - r1).toNat).getD n 0 = zs.getD n 0 := by
  obtain ⟨nw, nh, X, Y, qw, qh, e1, e2, e3, e4, e5, e6, hl, h1, h2, hx, hy⟩ := dims hv hin
  have hj := Nat.mod_lt n h1
  have e := Nat.div_add_mod n nw
  rw [Nat.mul_comm] at e
  have c1 : (n : Int) % w = ((n % nw : Nat) : Int) := by rw [e1]; simp
  have c2 : (n : Int) / w = ((n / nw : Nat) : Int) := by rw [e1]; simp
  rw [c1, c2] at ho
  obtain ⟨r, hr⟩ : ∃ a, n / nw = a := ⟨_, rfl⟩
  obtain ⟨c, hc⟩ : ∃ b, n % nw = b := ⟨_, rfl⟩
  rw [hr, hc] at ho e
  rw [hc] at hj
  rw [e5, e6, e1, e3, e4]
  simp only [Int.toNat_natCast]
  rw [← e, bl_at hl hx hy hj (Nat.le_refl _), if_neg (by omega)]
end Go.Proofs.Ytoojiabdgaflgaa
