/-
  Plain law of tables of taps: valid tables, linear and box taps, division by largest remainders; with no program in sight.
-/
import Derived.Test.YtlidacfokgdlgaaKF
namespace Go.Proofs.Ytlidacfokgdlgaa
set_option linter.unusedVariables false

abbrev Tbl := List (Int × List Int)
def tFirst (k : Int) : Bool := decide (-128 ≤ k ∧ k ≤ 256)
def tvOne (p : Int × List Int) : Int := if p.2.length = 0 ∨ 8 < p.2.length then 9 else if wAll p.2 = false then 10 else if tFirst p.1 = false then 2 else 0
def tvTo (ts : Tbl) : Nat → Int
  | 0 => 0
  | j + 1 => if tvTo ts j ≠ 0 then tvTo ts j else tvOne (ts.getD j (0, []))
def tvCode (ts : Tbl) (n : Int) : Int := if n < 1 ∨ 128 < n ∨ ts.length = 0 ∨ 128 < ts.length then 8 else tvTo ts ts.length
def tgCode (n m s : Int) : Int := if n < 1 ∨ 128 < n ∨ m < 1 ∨ 128 < m then 8 else if s < 0 ∨ 14 < s then 2 else 0
-- linear
def lnP (n m : Int) (i : Nat) : Int := (2 * (i : Int) + 1) * n - m
def lnK (n m : Int) (i : Nat) : Int := lnP n m i / (2 * m)
def lnR (n m : Int) (i : Nat) : Int := lnP n m i % (2 * m)
def lnW (n m s : Int) (i : Nat) : Int := (lnR n m i * 2 ^ s.toNat + m) / (2 * m)
def lnTap (n m s : Int) (i : Nat) : Int × List Int := (lnK n m i, [2 ^ s.toNat - lnW n m s i, lnW n m s i])
def lnTo (n m s : Int) (j : Nat) : Tbl := (List.range j).map (lnTap n m s)
def lnT (n m s : Int) : Tbl := if tgCode n m s = 0 then lnTo n m s m.toNat else []
-- division
def amax (rs : List Int) : Nat → Nat
  | 0 => 0
  | j + 1 => if rs.getD (amax rs j) 0 < rs.getD j 0 then j else amax rs j
def dvStep (p : List Int × List Int) : List Int × List Int := (p.1.set (amax p.2 p.2.length) (p.1.getD (amax p.2 p.2.length) 0 + 1), p.2.set (amax p.2 p.2.length) (-1))
def dvGo (p : List Int × List Int) : Nat → List Int × List Int
  | 0 => p
  | k + 1 => dvStep (dvGo p k)
def dvF (total n : Int) (l : List Int) : List Int := l.map fun x => total * x / n
def dvR (total n : Int) (l : List Int) : List Int := l.map fun x => total * x % n
def dvM (total n : Int) (l : List Int) (j : Nat) : Int := total - sumN (fun i => total * l.getD i 0 / n) j
def dvW (total n : Int) (l : List Int) : List Int := (dvGo (dvF total n l, dvR total n l) (dvM total n l l.length).toNat).1
-- boxes
def bxA (n : Int) (i : Nat) : Int := (i : Int) * n
def bxE (n m : Int) (i : Nat) : Int := (((i : Int) + 1) * n + (m - 1)) / m
def bxK (n m : Int) (i : Nat) : Int := (i : Int) * n / m
def bxL (n m : Int) (i : Nat) (d : Nat) : Int := mnI (((i : Int) + 1) * n) ((bxK n m i + (d : Int) + 1) * m) - mxI ((i : Int) * n) ((bxK n m i + (d : Int)) * m)
def bxN (n m : Int) (i : Nat) : Nat := (bxE n m i - bxK n m i).toNat
def bxLens (n m : Int) (i : Nat) (j : Nat) : List Int := (List.range j).map (bxL n m i)
def bxTap (n m s : Int) (i : Nat) : Int × List Int := (bxK n m i, dvW (2 ^ s.toNat) n (bxLens n m i (bxN n m i)))
def bxTo (n m s : Int) (j : Nat) : Tbl := (List.range j).map (bxTap n m s)
def bxBad (n m : Int) : Nat → Bool
  | 0 => false
  | j + 1 => bxBad n m j || decide (8 < bxN n m j)
def bxCode (n m s : Int) : Int := if tgCode n m s ≠ 0 then tgCode n m s else if bxBad n m m.toNat = true then 9 else 0
def bxT (n m s : Int) : Tbl := if bxCode n m s = 0 then bxTo n m s m.toNat else []

theorem tvTo_bad {ts : Tbl} (j : Nat) (hj : j < ts.length) (h0 : tvTo ts j = 0) (h : tvOne (ts.getD j (0, [])) ≠ 0) : tvTo ts ts.length = tvOne (ts.getD j (0, [])) := by
  have h1 : tvTo ts (j + 1) = tvOne (ts.getD j (0, [])) := by simp only [tvTo]; rw [if_neg (by simpa using h0)]
  have key : ∀ k, tvTo ts (j + 1 + k) = tvOne (ts.getD j (0, [])) := by
    intro k
    induction k with
    | zero => exact h1
    | succ k ih => show tvTo ts ((j + 1 + k) + 1) = _; simp only [tvTo]; rw [if_pos (by rw [ih]; exact h), ih]
  have := key (ts.length - (j + 1))
  rwa [show j + 1 + (ts.length - (j + 1)) = ts.length by omega] at this
theorem tvTo_next {ts : Tbl} {j : Nat} (h0 : tvTo ts j = 0) (h : tvOne (ts.getD j (0, [])) = 0) : tvTo ts (j + 1) = 0 := by simp only [tvTo]; rw [if_neg (by simpa using h0)]; exact h
theorem rangeD {α : Type} (f : Nat → α) (d : α) {n i : Nat} (h : i < n) : ((List.range n).map f).getD i d = f i := by
  rw [List.getD_eq_getElem?_getD, List.getElem?_map, List.getElem?_range h]; rfl
theorem range_snoc {α : Type} (f : Nat → α) (n : Nat) : (List.range (n + 1)).map f = (List.range n).map f ++ [f n] := by rw [List.range_succ, List.map_append]; rfl
theorem amax_lt (rs : List Int) (j : Nat) : amax rs j = 0 ∨ amax rs j < j := by
  induction j with
  | zero => exact .inl rfl
  | succ j ih => simp only [amax]; split <;> omega
theorem amax_one (rs : List Int) : amax rs 1 = 0 := by simp [amax]
theorem dvStep_len (p : List Int × List Int) : (dvStep p).1.length = p.1.length ∧ (dvStep p).2.length = p.2.length := by simp [dvStep]
theorem dvGo_len (p : List Int × List Int) (k : Nat) : (dvGo p k).1.length = p.1.length ∧ (dvGo p k).2.length = p.2.length := by
  induction k with
  | zero => exact ⟨rfl, rfl⟩
  | succ k ih => have := dvStep_len (dvGo p k); simp only [dvGo]; omega
theorem sumN_set {l : List Int} {i : Nat} (hi : i < l.length) (v : Int) : sumN (fun j => (l.set i v).getD j 0) l.length = sumN (fun j => l.getD j 0) l.length + v - l.getD i 0 := by
  have gen : ∀ n, sumN (fun j => (l.set i v).getD j 0) n = sumN (fun j => l.getD j 0) n + (if i < n then v - l.getD i 0 else 0) := by
    intro n
    induction n with
    | zero => simp [sumN]
    | succ n ih =>
      have e : (l.set i v).getD n 0 = if n = i then v else l.getD n 0 := by
        rw [List.getD_eq_getElem?_getD, List.getElem?_set]
        by_cases h : i = n
        · subst h; simp [hi]
        · rw [if_neg h, if_neg (fun e => h e.symm), List.getD_eq_getElem?_getD]
      simp only [sumN]
      rw [ih, e]
      by_cases h : n = i
      · subst h; simp; omega
      · by_cases h2 : i < n
        · rw [if_neg h, if_pos h2, if_pos (show i < n + 1 by omega)]; omega
        · rw [if_neg h, if_neg h2, if_neg (show ¬ (i < n + 1) by omega)]; omega
  have := gen l.length
  rw [if_pos hi] at this; omega
theorem dvGo_sum (p : List Int × List Int) (h : p.1.length = p.2.length) (h0 : 0 < p.1.length) (k : Nat) : sumN (fun j => (dvGo p k).1.getD j 0) p.1.length = sumN (fun j => p.1.getD j 0) p.1.length + (k : Int) := by
  induction k with
  | zero => simp [dvGo]
  | succ k ih =>
    obtain ⟨l1, l2⟩ := dvGo_len p k
    have hb : amax (dvGo p k).2 (dvGo p k).2.length < (dvGo p k).1.length := by have := amax_lt (dvGo p k).2 (dvGo p k).2.length; omega
    have := sumN_set hb ((dvGo p k).1.getD (amax (dvGo p k).2 (dvGo p k).2.length) 0 + 1)
    simp only [dvGo, dvStep]
    rw [l1] at this
    rw [this, ih]; omega
theorem dvF_get (total n : Int) (l : List Int) (j : Nat) : (dvF total n l).getD j 0 = total * l.getD j 0 / n := by
  unfold dvF; rw [List.getD_eq_getElem?_getD, List.getD_eq_getElem?_getD, List.getElem?_map]; cases l[j]? <;> simp
theorem dvR_get (total n : Int) (l : List Int) (j : Nat) : (dvR total n l).getD j 0 = total * l.getD j 0 % n := by
  unfold dvR; rw [List.getD_eq_getElem?_getD, List.getD_eq_getElem?_getD, List.getElem?_map]; cases l[j]? <;> simp
theorem dvF_len (total n : Int) (l : List Int) : (dvF total n l).length = l.length := by simp [dvF]
theorem dvR_len (total n : Int) (l : List Int) : (dvR total n l).length = l.length := by simp [dvR]
theorem dvW_len (total n : Int) (l : List Int) : (dvW total n l).length = l.length := by unfold dvW; rw [(dvGo_len _ _).1, dvF_len]

theorem ln_facts {n m : Int} {i : Nat} (hn : 1 ≤ n ∧ n ≤ 128) (hm : 1 ≤ m ∧ m ≤ 128) (hi : (i : Int) < m) : 1 ≤ (2 * (i : Int) + 1) * n ∧ (2 * (i : Int) + 1) * n ≤ 32640 ∧
    -(2 * m) < Int.tmod (lnP n m i) (2 * m) ∧ Int.tmod (lnP n m i) (2 * m) < 2 * m ∧ -32768 ≤ Int.tdiv (lnP n m i) (2 * m) ∧ Int.tdiv (lnP n m i) (2 * m) ≤ 32768 ∧
    (lnK n m i = if Int.tmod (lnP n m i) (2 * m) < 0 then Int.tdiv (lnP n m i) (2 * m) - 1 else Int.tdiv (lnP n m i) (2 * m)) ∧
    (lnR n m i = if Int.tmod (lnP n m i) (2 * m) < 0 then Int.tmod (lnP n m i) (2 * m) + 2 * m else Int.tmod (lnP n m i) (2 * m)) := by
  have h1 : 1 * 1 ≤ (2 * (i : Int) + 1) * n := Int.mul_le_mul (by omega) hn.1 (by omega) (by omega)
  have h2 : (2 * (i : Int) + 1) * n ≤ 255 * 128 := Int.mul_le_mul (by omega) hn.2 (by omega) (by omega)
  have hP : lnP n m i = (2 * (i : Int) + 1) * n - m := rfl
  have hK : lnK n m i = lnP n m i / (2 * m) := rfl
  have hR : lnR n m i = lnP n m i % (2 * m) := rfl
  obtain ⟨P, hp⟩ : ∃ P, lnP n m i = P := ⟨_, rfl⟩
  rw [hp] at hP hK hR ⊢
  rw [hK, hR]
  have e1 := Int.mul_tdiv_add_tmod P (2 * m)
  have e2 := Int.mul_ediv_add_emod P (2 * m)
  have g1 := Int.emod_nonneg P (b := 2 * m) (by omega)
  have g2 := Int.emod_lt_of_pos P (b := 2 * m) (by omega)
  have hd : ∀ x y r s : Int, 2 * m * x + r = 2 * m * y + s → 0 ≤ r → r < 2 * m → 0 ≤ s → s < 2 * m → x = y := by
    intro x y r s h a1 a2 a3 a4
    by_cases hx : x = y
    · exact hx
    · exfalso
      rcases Int.lt_or_gt_of_ne hx with h | h
      · have : 2 * m * (x + 1) ≤ 2 * m * y := Int.mul_le_mul_of_nonneg_left (by omega) (by omega)
        rw [Int.mul_add, Int.mul_one] at this; omega
      · have : 2 * m * (y + 1) ≤ 2 * m * x := Int.mul_le_mul_of_nonneg_left (by omega) (by omega)
        rw [Int.mul_add, Int.mul_one] at this; omega
  have ht : -(2 * m) < Int.tmod P (2 * m) ∧ Int.tmod P (2 * m) < 2 * m := by
    refine ⟨?_, Int.tmod_lt_of_pos P (by omega)⟩
    by_cases h0 : 0 ≤ P
    · have := Int.tmod_nonneg (2 * m) h0; omega
    · exact (tmod_neg P (2 * m) (by omega) (by omega)).1
  obtain ⟨q, hq⟩ : ∃ q, Int.tdiv P (2 * m) = q := ⟨_, rfl⟩
  obtain ⟨r, hr⟩ : ∃ q, Int.tmod P (2 * m) = q := ⟨_, rfl⟩
  rw [hq, hr] at e1
  rw [hr] at ht
  rw [hq, hr]
  have qb : -32768 ≤ q ∧ q ≤ 32768 := by
    constructor
    · by_cases h : -32768 ≤ q
      · exact h
      · exfalso
        have : 2 * m * q ≤ 2 * m * (-32769) := Int.mul_le_mul_of_nonneg_left (by omega) (by omega)
        have h3 : 2 * (-32769) ≥ 2 * m * (-32769) := by omega
        omega
    · by_cases h : q ≤ 32768
      · exact h
      · exfalso
        have : 2 * m * 32769 ≤ 2 * m * q := Int.mul_le_mul_of_nonneg_left (by omega) (by omega)
        omega
  refine ⟨by omega, by omega, ht.1, ht.2, qb.1, qb.2, ?_, ?_⟩
  · split
    · refine hd _ _ (P % (2 * m)) (r + 2 * m) ?_ g1 g2 (by omega) (by omega)
      rw [Int.mul_sub, Int.mul_one]; omega
    · refine hd _ _ (P % (2 * m)) r ?_ g1 g2 (by omega) (by omega)
      omega
  · split
    · have := hd (P / (2 * m)) (q - 1) (P % (2 * m)) (r + 2 * m) (by rw [Int.mul_sub, Int.mul_one]; omega) g1 g2 (by omega) (by omega)
      rw [this, Int.mul_sub, Int.mul_one] at e2; omega
    · have := hd (P / (2 * m)) q (P % (2 * m)) r (by omega) g1 g2 (by omega) (by omega)
      rw [this] at e2; omega
theorem lnR_bd (n : Int) {m : Int} (i : Nat) (hm : 1 ≤ m) : 0 ≤ lnR n m i ∧ lnR n m i < 2 * m := ⟨Int.emod_nonneg _ (by omega), Int.emod_lt_of_pos _ (by omega)⟩
theorem sh_bd {s : Int} (h : 0 ≤ s ∧ s ≤ 14) : 1 ≤ (2 : Int) ^ s.toNat ∧ (2 : Int) ^ s.toNat ≤ 16384 := by
  have h1 := pow_pos' s.toNat
  have h2 : (2 : Int) ^ s.toNat ≤ 2 ^ 14 := pow_le (by omega)
  exact ⟨by omega, by simpa using h2⟩
theorem lnW_bd {n m s : Int} {i : Nat} (hm : 1 ≤ m ∧ m ≤ 128) (hs : 0 ≤ s ∧ s ≤ 14) : 0 ≤ lnR n m i * 2 ^ s.toNat ∧ lnR n m i * 2 ^ s.toNat ≤ 4194304 ∧ 0 ≤ lnW n m s i ∧ lnW n m s i ≤ 2 ^ s.toNat := by
  obtain ⟨a1, a2⟩ := lnR_bd n i hm.1
  obtain ⟨b1, b2⟩ := sh_bd hs
  unfold lnW
  obtain ⟨R, hR⟩ : ∃ R, lnR n m i = R := ⟨_, rfl⟩
  obtain ⟨S, hS⟩ : ∃ S, (2 : Int) ^ s.toNat = S := ⟨_, rfl⟩
  rw [hR] at a1 a2 ⊢
  rw [hS] at b1 b2 ⊢
  have h1 : 0 ≤ R * S := Int.mul_nonneg a1 (by omega)
  have h2 : R * S ≤ 256 * 16384 := Int.mul_le_mul (by omega) b2 (by omega) (by omega)
  have h3 : R * S ≤ (2 * m - 1) * S := Int.mul_le_mul_of_nonneg_right (by omega) (by omega)
  refine ⟨h1, by omega, Int.ediv_nonneg (by omega) (by omega), ?_⟩
  have : (R * S + m) / (2 * m) < S + 1 := Int.ediv_lt_of_lt_mul (by omega) (by rw [Int.sub_mul, Int.one_mul] at h3; rw [Int.add_mul, Int.one_mul, Int.mul_comm S]; omega)
  omega
/-- The reference's spelling of the weight. -/
theorem lnW_ref (n m s : Int) (i : Nat) (hm : 1 ≤ m) : (2 * lnR n m i * 2 ^ s.toNat + 2 * m) / (2 * (2 * m)) = lnW n m s i := by
  unfold lnW
  rw [show 2 * lnR n m i * 2 ^ s.toNat + 2 * m = 2 * (lnR n m i * 2 ^ s.toNat + m) by rw [Int.mul_add, Int.mul_assoc]]
  exact Int.mul_ediv_mul_of_pos _ _ (by omega)
end Go.Proofs.Ytlidacfokgdlgaa
