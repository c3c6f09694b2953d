/-
 Plain law of tables of taps: valid tables, linear and box taps, division by largest remainders; with no program in sight. Plain law of box taps: how many coordinates an interval covers, and their lengths' sum; with no program in sight. Plain law: programs of operations on a stack: which are valid, their intervals and values. Plain law: values are within the interval of a program; a program behind another one computes the composition. Plain law: the programs that a tape makes: they are valid and their values are small. Plain facts on the tiles of a grid, with no program in sight.
-/
import Derived.Test.YteejjnhlfgjlaaaGreatKF
import Derived.Test.YteejjnhlfgjlaaaGreatKA
namespace Go.Proofs.YteejjnhlfgjlaaaGreat
section
set_option linter.unusedVariables false

abbrev Tbl := List (Int × List Int)
def tFirst (k : Int) : Bool := decide (-128 ≤ k ∧ k ≤ 256)
def tvOne (p : Int × List Int) : Int := if p.2.length = 0 ∨ 8 < p.2.length then 9 else if wAll p.2 = false then 10 else if tFirst p.1 = false then 2 else 0
def tvTo (ts : Tbl) : Nat → Int
 | 0 => 0
 | j + 1 => if tvTo ts j ≠ 0 then tvTo ts j else tvOne (ts.getD j (0, []))
def tvCode (ts : Tbl) (n : Int) : Int := if n < 1 ∨ 128 < n ∨ ts.length = 0 ∨ 128 < ts.length then 8 else tvTo ts ts.length
def tgCode (n m s : Int) : Int := if n < 1 ∨ 128 < n ∨ m < 1 ∨ 128 < m then 8 else if s < 0 ∨ 14 < s then 2 else 0
-- linear
def lnP (n m : Int) (i : Nat) : Int := (2 * (i : Int) + 1) * n - m
def lnK (n m : Int) (i : Nat) : Int := lnP n m i / (2 * m)
def lnR (n m : Int) (i : Nat) : Int := lnP n m i % (2 * m)
def lnW (n m s : Int) (i : Nat) : Int := (lnR n m i * 2 ^ s.toNat + m) / (2 * m)
def lnTap (n m s : Int) (i : Nat) : Int × List Int := (lnK n m i, [2 ^ s.toNat - lnW n m s i, lnW n m s i])
def lnTo (n m s : Int) (j : Nat) : Tbl := (List.range j).map (lnTap n m s)
def lnT (n m s : Int) : Tbl := if tgCode n m s = 0 then lnTo n m s m.toNat else []
-- division
def amax (rs : List Int) : Nat → Nat
 | 0 => 0
 | j + 1 => if rs.getD (amax rs j) 0 < rs.getD j 0 then j else amax rs j
def dvStep (p : List Int × List Int) : List Int × List Int := (p.1.set (amax p.2 p.2.length) (p.1.getD (amax p.2 p.2.length) 0 + 1), p.2.set (amax p.2 p.2.length) (-1))
def dvGo (p : List Int × List Int) : Nat → List Int × List Int
 | 0 => p
 | k + 1 => dvStep (dvGo p k)
def dvF (total n : Int) (l : List Int) : List Int := l.map fun x => total * x / n
def dvR (total n : Int) (l : List Int) : List Int := l.map fun x => total * x % n
def dvM (total n : Int) (l : List Int) (j : Nat) : Int := total - sumN (fun i => total * l.getD i 0 / n) j
def dvW (total n : Int) (l : List Int) : List Int := (dvGo (dvF total n l, dvR total n l) (dvM total n l l.length).toNat).1
-- boxes
def bxE (n m : Int) (i : Nat) : Int := (((i : Int) + 1) * n + (m - 1)) / m
def bxK (n m : Int) (i : Nat) : Int := (i : Int) * n / m
def bxL (n m : Int) (i : Nat) (d : Nat) : Int := mnI (((i : Int) + 1) * n) ((bxK n m i + (d : Int) + 1) * m) - mxI ((i : Int) * n) ((bxK n m i + (d : Int)) * m)
def bxN (n m : Int) (i : Nat) : Nat := (bxE n m i - bxK n m i).toNat
def bxLens (n m : Int) (i : Nat) (j : Nat) : List Int := (List.range j).map (bxL n m i)
def bxTap (n m s : Int) (i : Nat) : Int × List Int := (bxK n m i, dvW (2 ^ s.toNat) n (bxLens n m i (bxN n m i)))
def bxTo (n m s : Int) (j : Nat) : Tbl := (List.range j).map (bxTap n m s)
def bxBad (n m : Int) : Nat → Bool
 | 0 => false
 | j + 1 => bxBad n m j || decide (8 < bxN n m j)
def bxCode (n m s : Int) : Int := if tgCode n m s ≠ 0 then tgCode n m s else if bxBad n m m.toNat = true then 9 else 0
def bxT (n m s : Int) : Tbl := if bxCode n m s = 0 then bxTo n m s m.toNat else []

theorem tvTo_bad {ts : Tbl} (j : Nat) (hj : j < ts.length) (h0 : tvTo ts j = 0) (h : tvOne (ts.getD j (0, [])) ≠ 0) : tvTo ts ts.length = tvOne (ts.getD j (0, [])) := by
 have h1 : tvTo ts (j + 1) = tvOne (ts.getD j (0, [])) := by simp only [tvTo]; rw [if_neg (by simpa using h0)]
 have key : ∀ k, tvTo ts (j + 1 + k) = tvOne (ts.getD j (0, [])) := by
  intro k
  induction k with
  | zero => exact h1
  | succ k ih => show tvTo ts ((j + 1 + k) + 1) = _; simp only [tvTo]; rw [if_pos (by rw [ih]; exact h), ih]
 have := key (ts.length - (j + 1))
 rwa [show j + 1 + (ts.length - (j + 1)) = ts.length by omega] at this
theorem tvTo_next {ts : Tbl} {j : Nat} (h0 : tvTo ts j = 0) (h : tvOne (ts.getD j (0, [])) = 0) : tvTo ts (j + 1) = 0 := by simp only [tvTo]; rw [if_neg (by simpa using h0)]; exact h
theorem rangeD {α : Type} (f : Nat → α) (d : α) {n i : Nat} (h : i < n) : ((List.range n).map f).getD i d = f i := by
 rw [List.getD_eq_getElem?_getD, List.getElem?_map, List.getElem?_range h]; rfl
theorem range_snoc {α : Type} (f : Nat → α) (n : Nat) : (List.range (n + 1)).map f = (List.range n).map f ++ [f n] := by rw [List.range_succ, List.map_append]; rfl
theorem amax_lt (rs : List Int) (j : Nat) : amax rs j = 0 ∨ amax rs j < j := by
 induction j with
 | zero => exact .inl rfl
 | succ j ih => simp only [amax]; split <;> omega
theorem amax_one (rs : List Int) : amax rs 1 = 0 := by simp [amax]
theorem dvStep_len (p : List Int × List Int) : (dvStep p).1.length = p.1.length ∧ (dvStep p).2.length = p.2.length := by simp [dvStep]
theorem dvGo_len (p : List Int × List Int) (k : Nat) : (dvGo p k).1.length = p.1.length ∧ (dvGo p k).2.length = p.2.length := by
 induction k with
 | zero => exact ⟨rfl, rfl⟩
 | succ k ih => have := dvStep_len (dvGo p k); simp only [dvGo]; omega
theorem sumN_set {l : List Int} {i : Nat} (hi : i < l.length) (v : Int) : sumN (fun j => (l.set i v).getD j 0) l.length = sumN (fun j => l.getD j 0) l.length + v - l.getD i 0 := by
 have gen : ∀ n, sumN (fun j => (l.set i v).getD j 0) n = sumN (fun j => l.getD j 0) n + (if i < n then v - l.getD i 0 else 0) := by
  intro n
  induction n with
  | zero => simp [sumN]
  | succ n ih =>
   have e : (l.set i v).getD n 0 = if n = i then v else l.getD n 0 := by
    rw [List.getD_eq_getElem?_getD, List.getElem?_set]; by_cases h : i = n
    ·
     subst h; simp [hi]
    rw [if_neg h, if_neg (fun e => h e.symm), List.getD_eq_getElem?_getD]
   simp only [sumN]; rw [ih, e]; by_cases h : n = i
   ·
    subst h; simp; omega
   by_cases h2 : i < n
   ·
    rw [if_neg h, if_pos h2, if_pos (show i < n + 1 by omega)]; omega
   rw [if_neg h, if_neg h2, if_neg (show ¬ (i < n + 1) by omega)]; omega
 have := gen l.length; rw [if_pos hi] at this; omega
theorem dvGo_sum (p : List Int × List Int) (h : p.1.length = p.2.length) (h0 : 0 < p.1.length) (k : Nat) : sumN (fun j => (dvGo p k).1.getD j 0) p.1.length = sumN (fun j => p.1.getD j 0) p.1.length + (k : Int) := by
 induction k with
 | zero => simp [dvGo]
 | succ k ih =>
  obtain ⟨l1, l2⟩ := dvGo_len p k; have hb : amax (dvGo p k).2 (dvGo p k).2.length < (dvGo p k).1.length := by have := amax_lt (dvGo p k).2 (dvGo p k).2.length; omega
  have := sumN_set hb ((dvGo p k).1.getD (amax (dvGo p k).2 (dvGo p k).2.length) 0 + 1); simp only [dvGo, dvStep]; rw [l1] at this; rw [this, ih]; omega
theorem dvF_get (total n : Int) (l : List Int) (j : Nat) : (dvF total n l).getD j 0 = total * l.getD j 0 / n := by
 unfold dvF; rw [List.getD_eq_getElem?_getD, List.getD_eq_getElem?_getD, List.getElem?_map]; cases l[j]? <;> simp
theorem dvR_get (total n : Int) (l : List Int) (j : Nat) : (dvR total n l).getD j 0 = total * l.getD j 0 % n := by
 unfold dvR; rw [List.getD_eq_getElem?_getD, List.getD_eq_getElem?_getD, List.getElem?_map]; cases l[j]? <;> simp
theorem dvF_len (total n : Int) (l : List Int) : (dvF total n l).length = l.length := by simp [dvF]
theorem dvR_len (total n : Int) (l : List Int) : (dvR total n l).length = l.length := by simp [dvR]
theorem dvW_len (total n : Int) (l : List Int) : (dvW total n l).length = l.length := by unfold dvW; rw [(dvGo_len _ _).1, dvF_len]

theorem ln_facts {n m : Int} {i : Nat} (hn : 1 ≤ n ∧ n ≤ 128) (hm : 1 ≤ m ∧ m ≤ 128) (hi : (i : Int) < m) : 1 ≤ (2 * (i : Int) + 1) * n ∧ (2 * (i : Int) + 1) * n ≤ 32640 ∧
  -(2 * m) < Int.tmod (lnP n m i) (2 * m) ∧ Int.tmod (lnP n m i) (2 * m) < 2 * m ∧ -32768 ≤ Int.tdiv (lnP n m i) (2 * m) ∧ Int.tdiv (lnP n m i) (2 * m) ≤ 32768 ∧
  (lnK n m i = if Int.tmod (lnP n m i) (2 * m) < 0 then Int.tdiv (lnP n m i) (2 * m) - 1 else Int.tdiv (lnP n m i) (2 * m)) ∧
  (lnR n m i = if Int.tmod (lnP n m i) (2 * m) < 0 then Int.tmod (lnP n m i) (2 * m) + 2 * m else Int.tmod (lnP n m i) (2 * m)) := by
 have h1 : 1 * 1 ≤ (2 * (i : Int) + 1) * n := Int.mul_le_mul (by omega) hn.1 (by omega) (by omega); have h2 : (2 * (i : Int) + 1) * n ≤ 255 * 128 := Int.mul_le_mul (by omega) hn.2 (by omega) (by omega); have hP : lnP n m i = (2 * (i : Int) + 1) * n - m := rfl; have hK : lnK n m i = lnP n m i / (2 * m) := rfl; have hR : lnR n m i = lnP n m i % (2 * m) := rfl; obtain ⟨P, hp⟩ : ∃ P, lnP n m i = P := ⟨_, rfl⟩; rw [hp] at hP hK hR ⊢; rw [hK, hR]; have e1 := Int.mul_tdiv_add_tmod P (2 * m); have e2 := Int.mul_ediv_add_emod P (2 * m); have g1 := Int.emod_nonneg P (b := 2 * m) (by omega); have g2 := Int.emod_lt_of_pos P (b := 2 * m) (by omega)
 have hd : ∀ x y r s : Int, 2 * m * x + r = 2 * m * y + s → 0 ≤ r → r < 2 * m → 0 ≤ s → s < 2 * m → x = y := by
  intro x y r s h a1 a2 a3 a4; by_cases hx : x = y
  ·
   exact hx
  exfalso
  rcases Int.lt_or_gt_of_ne hx with h | h
  ·
   have : 2 * m * (x + 1) ≤ 2 * m * y := Int.mul_le_mul_of_nonneg_left (by omega) (by omega); rw [Int.mul_add, Int.mul_one] at this; omega
  have : 2 * m * (y + 1) ≤ 2 * m * x := Int.mul_le_mul_of_nonneg_left (by omega) (by omega); rw [Int.mul_add, Int.mul_one] at this; omega
 have ht : -(2 * m) < Int.tmod P (2 * m) ∧ Int.tmod P (2 * m) < 2 * m := by
  refine ⟨?_, Int.tmod_lt_of_pos P (by omega)⟩; by_cases h0 : 0 ≤ P
  ·
   have := Int.tmod_nonneg (2 * m) h0; omega
  exact (tmod_neg P (2 * m) (by omega) (by omega)).1
 obtain ⟨q, hq⟩ : ∃ q, Int.tdiv P (2 * m) = q := ⟨_, rfl⟩; obtain ⟨r, hr⟩ : ∃ q, Int.tmod P (2 * m) = q := ⟨_, rfl⟩; rw [hq, hr] at e1; rw [hr] at ht; rw [hq, hr]
 have qb : -32768 ≤ q ∧ q ≤ 32768 := by
  constructor
  ·
   by_cases h : -32768 ≤ q
   ·
    exact h
   exfalso
   have : 2 * m * q ≤ 2 * m * (-32769) := Int.mul_le_mul_of_nonneg_left (by omega) (by omega); have h3 : 2 * (-32769) ≥ 2 * m * (-32769) := by omega
   omega
  by_cases h : q ≤ 32768
  ·
   exact h
  exfalso
  have : 2 * m * 32769 ≤ 2 * m * q := Int.mul_le_mul_of_nonneg_left (by omega) (by omega)
  omega
 refine ⟨by omega, by omega, ht.1, ht.2, qb.1, qb.2, ?_, ?_⟩
 ·
  split
  ·
   refine hd _ _ (P % (2 * m)) (r + 2 * m) ?_ g1 g2 (by omega) (by omega); rw [Int.mul_sub, Int.mul_one]; omega
  refine hd _ _ (P % (2 * m)) r ?_ g1 g2 (by omega) (by omega)
  omega
 split
 ·
  have := hd (P / (2 * m)) (q - 1) (P % (2 * m)) (r + 2 * m) (by rw [Int.mul_sub, Int.mul_one]; omega) g1 g2 (by omega) (by omega); rw [this, Int.mul_sub, Int.mul_one] at e2; omega
 have := hd (P / (2 * m)) q (P % (2 * m)) r (by omega) g1 g2 (by omega) (by omega); rw [this] at e2; omega
theorem lnR_bd (n : Int) {m : Int} (i : Nat) (hm : 1 ≤ m) : 0 ≤ lnR n m i ∧ lnR n m i < 2 * m := ⟨Int.emod_nonneg _ (by omega), Int.emod_lt_of_pos _ (by omega)⟩
theorem sh_bd {s : Int} (h : 0 ≤ s ∧ s ≤ 14) : 1 ≤ (2 : Int) ^ s.toNat ∧ (2 : Int) ^ s.toNat ≤ 16384 := by
 have h1 := pow_pos' s.toNat; have h2 : (2 : Int) ^ s.toNat ≤ 2 ^ 14 := pow_le (by omega); exact ⟨by omega, by simpa using h2⟩
theorem lnW_bd {n m s : Int} {i : Nat} (hm : 1 ≤ m ∧ m ≤ 128) (hs : 0 ≤ s ∧ s ≤ 14) : 0 ≤ lnR n m i * 2 ^ s.toNat ∧ lnR n m i * 2 ^ s.toNat ≤ 4194304 ∧ 0 ≤ lnW n m s i ∧ lnW n m s i ≤ 2 ^ s.toNat := by
 obtain ⟨a1, a2⟩ := lnR_bd n i hm.1; obtain ⟨b1, b2⟩ := sh_bd hs
 unfold lnW
 obtain ⟨R, hR⟩ : ∃ R, lnR n m i = R := ⟨_, rfl⟩; obtain ⟨S, hS⟩ : ∃ S, (2 : Int) ^ s.toNat = S := ⟨_, rfl⟩; rw [hR] at a1 a2 ⊢; rw [hS] at b1 b2 ⊢; have h1 : 0 ≤ R * S := Int.mul_nonneg a1 (by omega); have h2 : R * S ≤ 256 * 16384 := Int.mul_le_mul (by omega) b2 (by omega) (by omega); have h3 : R * S ≤ (2 * m - 1) * S := Int.mul_le_mul_of_nonneg_right (by omega) (by omega); refine ⟨h1, by omega, Int.ediv_nonneg (by omega) (by omega), ?_⟩; have : (R * S + m) / (2 * m) < S + 1 := Int.ediv_lt_of_lt_mul (by omega) (by rw [Int.sub_mul, Int.one_mul] at h3; rw [Int.add_mul, Int.one_mul, Int.mul_comm S]; omega)
 omega
theorem lnW_ref (n m s : Int) (i : Nat) (hm : 1 ≤ m) : (2 * lnR n m i * 2 ^ s.toNat + 2 * m) / (2 * (2 * m)) = lnW n m s i := by
 unfold lnW
 rw [show 2 * lnR n m i * 2 ^ s.toNat + 2 * m = 2 * (lnR n m i * 2 ^ s.toNat + m) by rw [Int.mul_add, Int.mul_assoc]]; exact Int.mul_ediv_mul_of_pos _ _ (by omega)
end

section
set_option linter.unusedVariables false

theorem bx_facts {n m : Int} {i : Nat} (hn : 1 ≤ n ∧ n ≤ 128) (hm : 1 ≤ m ∧ m ≤ 128) (hi : (i : Int) < m) : 0 ≤ (i : Int) * n ∧ (i : Int) * n ≤ 16256 ∧ ((i : Int) + 1) * n = (i : Int) * n + n ∧ 0 ≤ bxK n m i ∧ bxK n m i ≤ 16256 ∧ bxK n m i * m ≤ (i : Int) * n ∧ (i : Int) * n < bxK n m i * m + m := by
 have h1 : 0 ≤ (i : Int) * n := Int.mul_nonneg (by omega) (by omega); have h2 : (i : Int) * n ≤ 127 * 128 := Int.mul_le_mul (by omega) hn.2 (by omega) (by omega); have e := Int.mul_ediv_add_emod ((i : Int) * n) m; have e1 := Int.emod_nonneg ((i : Int) * n) (b := m) (by omega); have e2 := Int.emod_lt_of_pos ((i : Int) * n) (b := m) (by omega); have h3 := Int.ediv_nonneg h1 (show 0 ≤ m by omega); have h4 := Int.ediv_le_self m h1
 unfold bxK
 rw [Int.mul_comm m] at e; refine ⟨h1, by omega, by rw [Int.add_mul, Int.one_mul], h3, by omega, by omega, by omega⟩
theorem bx_lt {n m : Int} {i d : Nat} (hn : 1 ≤ n ∧ n ≤ 128) (hm : 1 ≤ m ∧ m ≤ 128) (hi : (i : Int) < m) : (bxK n m i + (d : Int)) * m < ((i : Int) + 1) * n ↔ d < bxN n m i := by
 obtain ⟨f1, f2, f3, f4, f5, f6, f7⟩ := bx_facts hn hm hi
 have key : (bxK n m i + (d : Int) < bxE n m i) ↔ (bxK n m i + (d : Int)) * m < ((i : Int) + 1) * n := by
  unfold bxE
  rw [show (bxK n m i + (d : Int) < (((i : Int) + 1) * n + (m - 1)) / m) ↔ (bxK n m i + (d : Int) + 1 ≤ (((i : Int) + 1) * n + (m - 1)) / m) from Iff.rfl, Int.le_ediv_iff_mul_le (by omega), Int.add_mul, Int.one_mul]
  omega
 rw [← key]; unfold bxN; omega
theorem bxN_pos {n m : Int} {i : Nat} (hn : 1 ≤ n ∧ n ≤ 128) (hm : 1 ≤ m ∧ m ≤ 128) (hi : (i : Int) < m) : 1 ≤ bxN n m i := by
 obtain ⟨f1, f2, f3, f4, f5, f6, f7⟩ := bx_facts hn hm hi; have := (bx_lt (d := 0) hn hm hi).1 (by simp; omega)
 omega
theorem bxN_le {n m : Int} {i : Nat} (hn : 1 ≤ n ∧ n ≤ 128) (hm : 1 ≤ m ∧ m ≤ 128) (hi : (i : Int) < m) : bxN n m i ≤ 20000 := by
 obtain ⟨f1, f2, f3, f4, f5, f6, f7⟩ := bx_facts hn hm hi; by_cases h : bxN n m i ≤ 20000
 ·
  exact h
 exfalso
 have := (bx_lt (d := 20000) hn hm hi).2 (by omega); have h2 : 20000 * 1 ≤ (bxK n m i + ((20000 : Nat) : Int)) * m := Int.mul_le_mul (by omega) hm.1 (by omega) (by omega)
 omega
def bxC (n m : Int) (i d : Nat) : Int := mxI ((i : Int) * n) (mnI (((i : Int) + 1) * n) ((bxK n m i + (d : Int)) * m))
theorem bxL_step {n m : Int} {i d : Nat} (hn : 1 ≤ n ∧ n ≤ 128) (hm : 1 ≤ m ∧ m ≤ 128) (hi : (i : Int) < m) (hd : d < bxN n m i) : bxL n m i d = bxC n m i (d + 1) - bxC n m i d ∧ bxC n m i d ≤ bxC n m i (d + 1) := by
 obtain ⟨f1, f2, f3, f4, f5, f6, f7⟩ := bx_facts hn hm hi; have h1 := (bx_lt hn hm hi).2 hd
 have e1 : (bxK n m i + ((d + 1 : Nat) : Int)) * m = (bxK n m i + (d : Int)) * m + m := by
  rw [show bxK n m i + ((d + 1 : Nat) : Int) = (bxK n m i + (d : Int)) + 1 by omega, Int.add_mul, Int.one_mul]
 have e2 : (bxK n m i + (d : Int) + 1) * m = (bxK n m i + (d : Int)) * m + m := by rw [Int.add_mul, Int.one_mul]
 have e3 : bxK n m i * m ≤ (bxK n m i + (d : Int)) * m := Int.mul_le_mul_of_nonneg_right (by omega) (by omega)
 unfold bxL bxC
 rw [e1, e2, f3]; rw [f3] at h1
 unfold mnI mxI
 (repeat' split) <;> omega
theorem bxC_zero {n m : Int} {i : Nat} (hn : 1 ≤ n ∧ n ≤ 128) (hm : 1 ≤ m ∧ m ≤ 128) (hi : (i : Int) < m) : bxC n m i 0 = (i : Int) * n := by
 obtain ⟨f1, f2, f3, f4, f5, f6, f7⟩ := bx_facts hn hm hi
 unfold bxC
 rw [f3, show bxK n m i + ((0 : Nat) : Int) = bxK n m i by simp]
 unfold mnI mxI
 (repeat' split) <;> omega
theorem bxC_all {n m : Int} {i : Nat} (hn : 1 ≤ n ∧ n ≤ 128) (hm : 1 ≤ m ∧ m ≤ 128) (hi : (i : Int) < m) : bxC n m i (bxN n m i) = (i : Int) * n + n := by
 obtain ⟨f1, f2, f3, f4, f5, f6, f7⟩ := bx_facts hn hm hi; have h : ¬ ((bxK n m i + ((bxN n m i : Nat) : Int)) * m < ((i : Int) + 1) * n) := fun h => absurd ((bx_lt hn hm hi).1 h) (by omega)
 unfold bxC
 rw [f3] at *
 unfold mnI mxI
 (repeat' split) <;> omega
theorem bx_sumTo {n m : Int} {i : Nat} (hn : 1 ≤ n ∧ n ≤ 128) (hm : 1 ≤ m ∧ m ≤ 128) (hi : (i : Int) < m) (D : Nat) (hD : D ≤ bxN n m i) : sumN (bxL n m i) D = bxC n m i D - bxC n m i 0 := by
 induction D with
 | zero => simp [sumN]
 | succ D ih => have := ih (by omega); have h2 := (bxL_step hn hm hi (d := D) (by omega)).1; simp only [sumN]; omega
theorem bxC_mono {n m : Int} {i : Nat} (hn : 1 ≤ n ∧ n ≤ 128) (hm : 1 ≤ m ∧ m ≤ 128) (hi : (i : Int) < m) (D : Nat) (hD : D ≤ bxN n m i) : (i : Int) * n ≤ bxC n m i D ∧ bxC n m i D ≤ (i : Int) * n + n := by
 obtain ⟨f1, f2, f3, f4, f5, f6, f7⟩ := bx_facts hn hm hi
 unfold bxC; rw [f3]; unfold mnI mxI
 (repeat' split) <;> omega
theorem bxL_bd {n m : Int} {i d : Nat} (hn : 1 ≤ n ∧ n ≤ 128) (hm : 1 ≤ m ∧ m ≤ 128) (hi : (i : Int) < m) (hd : d < bxN n m i) : 0 ≤ bxL n m i d ∧ bxL n m i d ≤ n := by
 have h1 := bxL_step hn hm hi hd; have h2 := bxC_mono hn hm hi d (by omega); have h3 := bxC_mono hn hm hi (d + 1) (by omega)
 omega
theorem sumN_eq {f g : Nat → Int} {n : Nat} (h : ∀ i, i < n → f i = g i) : sumN f n = sumN g n := by
 induction n with
 | zero => rfl
 | succ n ih => simp only [sumN]; rw [ih (fun i hi => h i (by omega)), h n (by omega)]
theorem bxLens_len (n m : Int) (i j : Nat) : (bxLens n m i j).length = j := by simp [bxLens]
theorem bxLens_next (n m : Int) (i j : Nat) : bxLens n m i j ++ [bxL n m i j] = bxLens n m i (j + 1) := (range_snoc _ _).symm
theorem bx_sum {n m : Int} {i : Nat} (hn : 1 ≤ n ∧ n ≤ 128) (hm : 1 ≤ m ∧ m ≤ 128) (hi : (i : Int) < m) : sumN (fun d => (bxLens n m i (bxN n m i)).getD d 0) (bxLens n m i (bxN n m i)).length = n := by
 rw [bxLens_len, sumN_eq (g := bxL n m i) (fun d hd => by unfold bxLens; exact rangeD _ _ hd), bx_sumTo hn hm hi _ (Nat.le_refl _), bxC_all hn hm hi, bxC_zero hn hm hi]; omega
theorem bxBad_at {n m : Int} {j : Nat} (h : 8 < bxN n m j) : ∀ k, j < k → bxBad n m k = true := by
 intro k hk
 induction k with
 | zero => omega
 | succ k ih =>
  simp only [bxBad]; by_cases e : j = k
  ·
   subst e; simp [h]
  rw [ih (by omega)]; rfl
theorem bxBad_next {n m : Int} {j : Nat} (h : bxBad n m j = false) (h2 : ¬ (8 < bxN n m j)) : bxBad n m (j + 1) = false := by simp only [bxBad]; rw [h]; simp; omega
theorem bxT_no {n m s : Int} (h : bxCode n m s ≠ 0) : bxT n m s = [] := by unfold bxT; rw [if_neg h]
theorem bx_tg {n m s : Int} {k : Int} (h : tgCode n m s = k) (hk : k ≠ 0) : bxCode n m s = k := by unfold bxCode; rw [if_pos (by rw [h]; exact hk), h]
theorem bx_9 {n m s : Int} (h : tgCode n m s = 0) {j : Nat} (hj : (j : Int) < m) (h8 : 8 < bxN n m j) : bxCode n m s = 9 := by unfold bxCode; rw [if_neg (by rw [h]; simp), if_pos (bxBad_at h8 _ (by omega))]
theorem bx_0 {n m s : Int} (h : tgCode n m s = 0) (hb : bxBad n m m.toNat = false) : bxCode n m s = 0 := by unfold bxCode; rw [if_neg (by rw [h]; simp), if_neg (by rw [hb]; simp)]
end

section
def pwK (c : Int) : Nat := if c ≤ 2 then 0 else if 10 ≤ c then 1 else 2
def pwIs (c : Int) : Bool := decide (0 ≤ c ∧ c ≤ 11)
def pwArg (c g : Int) : Bool := if c = 2 then decide (-4294967296 ≤ g ∧ g ≤ 4294967296) else if c = 10 then decide (0 ≤ g ∧ g ≤ 24) else decide (g = 0)
def vGo : List (Int × Int) → Bool → Nat → Int
 | [], _, d => if d = 1 then 0 else 1
 | o :: l, two, d => if ¬ (0 ≤ o.1 ∧ o.1 ≤ 11) ∨ (o.1 = 1 ∧ two = false) ∨ d < pwK o.1 then 1 else if pwArg o.1 o.2 = true then vGo l two (d + 1 - pwK o.1) else 10
def vCode (l : List (Int × Int)) (two : Bool) : Int := if l.length = 0 ∨ 32 < l.length then 9 else vGo l two 0
def absI (x : Int) : Int := if x < 0 then -x else x
def pwVal (c g x y a b : Int) : Int :=
 if c = 0 then a else if c = 1 then b else if c = 2 then g else if c = 3 then x + y else if c = 4 then x - y else if c = 5 then x * y else if c = 6 then mnI x y else if c = 7 then mxI x y
 else if c = 8 then absI (x - y) else if c = 9 then Int.fdiv x y else if c = 10 then shV x g else absI x
def eGo : List (Int × Int) → List Int → Int → Int → Int × Int
 | [], st, _, _ => (st.headD 0, 0)
 | o :: l, st, a, b => if accOk (pwVal o.1 o.2 (st.getD (pwK o.1 - 1) 0) (st.getD 0 0) a b) = true then eGo l (pwVal o.1 o.2 (st.getD (pwK o.1 - 1) 0) (st.getD 0 0) a b :: st.drop (pwK o.1)) a b else (0, 11)
def pixOk (a : Int) : Bool := decide (0 ≤ a ∧ a ≤ 4294967296)
def evR (l : List (Int × Int)) (a b : Int) : Int × Int :=
 if vCode l true ≠ 0 then (0, vCode l true) else if ¬ (pixOk a = true ∧ pixOk b = true) then (0, 2) else eGo l [] a b
def pwInt (c g : Int) (x y : Int × Int) (a b : Int) : Int × Int :=
 if c = 0 then (0, a) else if c = 1 then (0, b) else if c = 2 then (g, g) else if c = 3 then (x.1 + y.1, x.2 + y.2) else if c = 4 then (x.1 - y.2, x.2 - y.1)
 else if c = 5 then (mnI (mnI (mnI (x.1 * y.1) (x.1 * y.2)) (x.2 * y.1)) (x.2 * y.2), mxI (mxI (mxI (x.1 * y.1) (x.1 * y.2)) (x.2 * y.1)) (x.2 * y.2))
 else if c = 6 then (mnI x.1 y.1, mnI x.2 y.2) else if c = 7 then (mxI x.1 y.1, mxI x.2 y.2)
 else if c = 8 then (0, mxI (x.2 - y.1) (y.2 - x.1)) else if c = 9 then (-mxI (absI x.1) (absI x.2), mxI (absI x.1) (absI x.2)) else if c = 10 then (shV x.1 g, shV x.2 g) else (0, mxI (absI x.1) (absI x.2))
def pwMul (x y : Int × Int) : Bool := accOk (x.1 * y.1) && (accOk (x.1 * y.2) && (accOk (x.2 * y.1) && accOk (x.2 * y.2)))
def pwIok (c g : Int) (x y : Int × Int) (a b : Int) : Bool := (if c = 5 then pwMul x y else true) && (accOk (pwInt c g x y a b).1 && accOk (pwInt c g x y a b).2)
def iGo : List (Int × Int) → List (Int × Int) → Int → Int → Int × Int × Int
 | [], st, _, _ => ((st.headD (0, 0)).1, (st.headD (0, 0)).2, 0)
 | o :: l, st, a, b => if pwIok o.1 o.2 (st.getD (pwK o.1 - 1) (0, 0)) (st.getD 0 (0, 0)) a b = true then iGo l (pwInt o.1 o.2 (st.getD (pwK o.1 - 1) (0, 0)) (st.getD 0 (0, 0)) a b :: st.drop (pwK o.1)) a b else (0, 0, 11)
def ivR (l : List (Int × Int)) (a b : Int) : Int × Int × Int :=
 if vCode l true ≠ 0 then (0, 0, vCode l true) else if ¬ (valOk a = true ∧ valOk b = true) then (0, 0, 2) else iGo l [] a b

theorem codes {c : Int} (h1 : 0 ≤ c) (h2 : c ≤ 11) : c = 0 ∨ c = 1 ∨ c = 2 ∨ c = 3 ∨ c = 4 ∨ c = 5 ∨ c = 6 ∨ c = 7 ∨ c = 8 ∨ c = 9 ∨ c = 10 ∨ c = 11 := by omega
theorem accOk_iff {z : Int} : accOk z = true ↔ -17592186044416 ≤ z ∧ z ≤ 17592186044416 := by simp [accOk]
theorem pixOk_iff {z : Int} : pixOk z = true ↔ 0 ≤ z ∧ z ≤ 4294967296 := by simp [pixOk]
theorem valOk_iff' {z : Int} : valOk z = true ↔ 1 ≤ z ∧ z ≤ 4294967296 := by simp [valOk]
theorem pwK_le (c : Int) : pwK c ≤ 2 := by unfold pwK; split <;> (try split) <;> omega
theorem pwK_0 {c : Int} (h : c ≤ 2) : pwK c = 0 := by unfold pwK; rw [if_pos h]
theorem pwK_2 {c : Int} (h : 3 ≤ c) (h' : c ≤ 9) : pwK c = 2 := by unfold pwK; rw [if_neg (by omega), if_neg (by omega)]
theorem vGo_cons {o : Int × Int} {l : List (Int × Int)} {two : Bool} {d : Nat} (h : vGo (o :: l) two d = 0) :
  0 ≤ o.1 ∧ o.1 ≤ 11 ∧ (o.1 = 1 → two = true) ∧ pwK o.1 ≤ d ∧ pwArg o.1 o.2 = true ∧ vGo l two (d + 1 - pwK o.1) = 0 := by
 unfold vGo at h
 split at h
 ·
  omega
 rename_i h1
 split at h
 ·
  rename_i h2; refine ⟨by omega, by omega, fun e => ?_, by omega, h2, h⟩; cases two
  ·
   exact absurd (Or.inr (Or.inl ⟨e, rfl⟩)) h1
  rfl
 omega
theorem vCode_zero {l : List (Int × Int)} {two : Bool} : vCode l two = 0 ↔ 1 ≤ l.length ∧ l.length ≤ 32 ∧ vGo l two 0 = 0 := by
 unfold vCode
 split
 ·
  constructor <;> intro h <;> omega
 constructor <;> intro h <;> omega
theorem vGo_two : ∀ (l : List (Int × Int)) (two : Bool) (d : Nat), vGo l two d = 0 → vGo l true d = 0
 | [], _, _, h => h
 | o :: l, two, d, h => by
  obtain ⟨h1, h2, _, h4, h5, h6⟩ := vGo_cons h
  unfold vGo
  rw [if_neg (by simp; omega), if_pos h5]; exact vGo_two l two _ h6
theorem vCode_two {l : List (Int × Int)} {two : Bool} (h : vCode l two = 0) : vCode l true = 0 := by
 rw [vCode_zero] at h ⊢; exact ⟨h.1, h.2.1, vGo_two _ _ _ h.2.2⟩
theorem absI_bd {x c : Int} (h : -c ≤ x ∧ x ≤ c) : 0 ≤ absI x ∧ absI x ≤ c := by unfold absI; split <;> omega
theorem mul_ok {x y : Int} (hx : accOk x = true) (hy : accOk y = true) : accOk (x * y) = true ↔ ¬ (y ≠ 0 ∧ (17592186044416 : Int) / absI y < absI x) := by
 rw [accOk_iff]; rw [accOk_iff] at hx hy; by_cases h0 : y = 0
 ·
  subst h0; simp
 have hpos : 0 < absI y := by unfold absI; split <;> omega
 have hxy : absI x * absI y = absI (x * y) := by
  unfold absI
  by_cases h1 : x < 0 <;> by_cases h2 : y < 0
  ·
   have := Int.mul_pos_of_neg_of_neg h1 h2; rw [if_pos h1, if_pos h2, if_neg (by omega), Int.neg_mul_neg]
  ·
   have h3 : x * y ≤ 0 := Int.mul_nonpos_of_nonpos_of_nonneg (by omega) (by omega); have h4 : x * y ≠ 0 := Int.mul_ne_zero (by omega) h0; rw [if_pos h1, if_neg h2, if_pos (by omega), Int.neg_mul]
  ·
   rcases Int.lt_or_eq_of_le (show 0 ≤ x by omega) with h5 | h5
   ·
    have := Int.mul_neg_of_pos_of_neg h5 h2; rw [if_neg h1, if_pos h2, if_pos (by omega), Int.mul_neg]
   subst h5; simp
  have := Int.mul_nonneg (show 0 ≤ x by omega) (show 0 ≤ y by omega); rw [if_neg h1, if_neg h2, if_neg (by omega)]
 have hlt : (17592186044416 : Int) / absI y < absI x ↔ 17592186044416 < absI x * absI y := by
  rw [Int.ediv_lt_iff_lt_mul hpos]
 rw [hlt, hxy]; have : (-17592186044416 ≤ x * y ∧ x * y ≤ 17592186044416) ↔ absI (x * y) ≤ 17592186044416 := by unfold absI; split <;> omega
 rw [this]
 constructor
 ·
  intro h hc; omega
 intro h; by_cases hc : absI (x * y) ≤ 17592186044416
 ·
  exact hc
 exact absurd ⟨h0, by omega⟩ h
theorem fdiv_tdiv {x y : Int} (h : y ≠ 0) : Int.fdiv x y = if Int.tmod x y ≠ 0 ∧ ¬ (x < 0 ↔ y < 0) then Int.tdiv x y - 1 else Int.tdiv x y := by
 rw [Int.fdiv_eq_tdiv]; have e : (y ∣ x) ↔ Int.tmod x y = 0 := Int.dvd_iff_tmod_eq_zero; by_cases hd : y ∣ x
 ·
  rw [if_pos hd, if_neg (by rw [e] at hd; simp [hd])]; omega
 have hd' : Int.tmod x y ≠ 0 := fun h' => hd (e.2 h')
 rw [if_neg hd]
 rcases Int.lt_or_gt_of_ne h with hy | hy
 ·
  by_cases hx : x < 0
  ·
   rw [if_neg (by omega), if_neg (by omega), Int.sign_eq_neg_one_of_neg hy, if_neg (by simp [hx, hy])]; omega
  rw [if_pos (by omega), if_neg (by omega), if_pos ⟨hd', by simp [hx, hy]⟩]
 by_cases hx : x < 0
 ·
  rw [if_neg (by omega), if_pos (by omega), Int.sign_eq_one_of_pos hy, if_pos ⟨hd', by simp [hx]; omega⟩]
 rw [if_pos (by omega), if_pos (by omega), if_neg (by simp [hx]; omega)]; omega
theorem fdiv_bd (x y : Int) : -absI x ≤ Int.fdiv x y ∧ Int.fdiv x y ≤ absI x := by
 by_cases h0 : y = 0
 ·
  subst h0; rw [Int.fdiv_zero]; unfold absI; split <;> omega
 rw [fdiv_tdiv h0]; have e1 := Int.mul_tdiv_add_tmod x y; have h1 := Int.natAbs_tdiv_le_natAbs x y; by_cases hz : Int.tmod x y = 0
 ·
  rw [if_neg (by simp [hz])]; unfold absI; split <;> omega
 split
 ·
  rename_i h2
  have hs : (Int.tdiv x y).natAbs < x.natAbs ∨ 0 ≤ Int.tdiv x y := by
   rcases Int.lt_or_le (Int.tdiv x y) 0 with h3 | h3
   ·
    left
    rcases Nat.lt_or_ge (Int.tdiv x y).natAbs x.natAbs with h4 | h4
    ·
     exact h4
    exfalso
    have h5 : (Int.tdiv x y).natAbs = x.natAbs := by omega
    have h6 : x.natAbs / y.natAbs = x.natAbs := by have := Int.natAbs_tdiv x y; rw [h5] at this; exact this.symm
    have hx0 : 0 < x.natAbs := by
     rcases Nat.eq_zero_or_pos x.natAbs with h7 | h7
     ·
      have : x = 0 := by omega
      subst this; simp at hz
     exact h7
    have hy1 : y.natAbs = 1 := by
     rcases Nat.lt_or_ge 1 y.natAbs with h7 | h7
     ·
      have := Nat.div_lt_self hx0 h7; omega
     have : y.natAbs ≠ 0 := by omega
     omega
    apply hz
    exact Int.dvd_iff_tmod_eq_zero.1 (Int.natAbs_dvd_natAbs.1 (by rw [hy1]; exact Nat.one_dvd _))
   exact .inr h3
  have hx1 : 1 ≤ x.natAbs := by
   rcases Nat.eq_zero_or_pos x.natAbs with h7 | h7
   ·
    have : x = 0 := by omega
    subst this; simp at hz
   exact h7
  unfold absI; split <;> omega
 unfold absI; split <;> omega
end

section
def Cont : List (Int × Int) → List Int → Prop
 | [], [] => True
 | p :: ps, z :: zs => (p.1 ≤ z ∧ z ≤ p.2) ∧ Cont ps zs
 | _, _ => False
theorem Cont.len : ∀ {ps : List (Int × Int)} {zs : List Int}, Cont ps zs → ps.length = zs.length
 | [], [], _ => rfl
 | _ :: _, _ :: _, h => by simp [Cont.len h.2]
 | [], _ :: _, h => h.elim
 | _ :: _, [], h => h.elim
theorem Cont.get : ∀ {ps : List (Int × Int)} {zs : List Int}, Cont ps zs → ∀ i, (ps.getD i (0, 0)).1 ≤ zs.getD i 0 ∧ zs.getD i 0 ≤ (ps.getD i (0, 0)).2
 | [], [], _, i => by simp
 | p :: ps, z :: zs, h, 0 => h.1
 | p :: ps, z :: zs, h, i + 1 => by simpa using Cont.get h.2 i
 | [], _ :: _, h, _ => h.elim
 | _ :: _, [], h, _ => h.elim
theorem Cont.drop : ∀ {ps : List (Int × Int)} {zs : List Int}, Cont ps zs → ∀ k, Cont (ps.drop k) (zs.drop k)
 | _, _, h, 0 => by simpa using h
 | [], [], _, k + 1 => by simp [Cont]
 | _ :: _, _ :: _, h, k + 1 => by simpa using Cont.drop h.2 k
 | [], _ :: _, h, _ + 1 => h.elim
 | _ :: _, [], h, _ + 1 => h.elim

theorem mnI_or (x y : Int) : mnI x y = x ∨ mnI x y = y := by unfold mnI; split <;> omega
theorem mxI_or (x y : Int) : mxI x y = x ∨ mxI x y = y := by unfold mxI; split <;> omega
theorem Cont.step {ps : List (Int × Int)} {zs : List Int} (h : Cont ps zs) {p : Int × Int} {z : Int} (hp : p.1 ≤ z ∧ z ≤ p.2) (k : Nat) : Cont (p :: ps.drop k) (z :: zs.drop k) := ⟨hp, h.drop k⟩
def allAcc (ps : List (Int × Int)) : Prop := ∀ i, accOk (ps.getD i (0, 0)).1 = true ∧ accOk (ps.getD i (0, 0)).2 = true
theorem allAcc.nil : allAcc [] := fun i => by simp [accOk]
theorem allAcc.step {ps : List (Int × Int)} (h : allAcc ps) {p : Int × Int} (hp : accOk p.1 = true ∧ accOk p.2 = true) (k : Nat) : allAcc (p :: ps.drop k) := fun i => by
 cases i with
 | zero => exact hp
 | succ i =>
  have := h (k + i); rw [List.getD_eq_getElem?_getD] at this ⊢; simpa [List.getElem?_drop] using this
/-! ## composition -/
theorem eGo_cons (o : Int × Int) (l : List (Int × Int)) (st : List Int) (a b : Int) : eGo (o :: l) st a b = if accOk (pwVal o.1 o.2 (st.getD (pwK o.1 - 1) 0) (st.getD 0 0) a b) = true then eGo l (pwVal o.1 o.2 (st.getD (pwK o.1 - 1) 0) (st.getD 0 0) a b :: st.drop (pwK o.1)) a b else (0, 11) := rfl
theorem vGo_rec (o : Int × Int) (l : List (Int × Int)) (two : Bool) (d : Nat) : vGo (o :: l) two d = if ¬ (0 ≤ o.1 ∧ o.1 ≤ 11) ∨ (o.1 = 1 ∧ two = false) ∨ d < pwK o.1 then 1 else if pwArg o.1 o.2 = true then vGo l two (d + 1 - pwK o.1) else 10 := rfl
theorem iGo_cons (o : Int × Int) (l : List (Int × Int)) (st : List (Int × Int)) (a b : Int) : iGo (o :: l) st a b = if pwIok o.1 o.2 (st.getD (pwK o.1 - 1) (0, 0)) (st.getD 0 (0, 0)) a b = true then iGo l (pwInt o.1 o.2 (st.getD (pwK o.1 - 1) (0, 0)) (st.getD 0 (0, 0)) a b :: st.drop (pwK o.1)) a b else (0, 0, 11) := rfl
theorem eGo_app (u v : Int) : ∀ (l m : List (Int × Int)) (st : List Int) (r : Int), (eGo l st u v) = (r, 0) → vGo l true st.length = 0 → eGo (l ++ m) st u v = eGo m [r] u v
 | [], m, st, r, h, hv => by
  unfold vGo at hv
  have hl : st.length = 1 := by
   split at hv
   ·
    assumption
   omega
  match st, hl with
  | [z], _ =>
   unfold eGo at h
   simp at h
   subst h; simp
 | o :: l, m, st, r, h, hv => by
  obtain ⟨h1, h2, _, h4, h5, h6⟩ := vGo_cons hv; rw [List.cons_append]; rw [eGo_cons] at h; rw [eGo_cons]
  split at h
  ·
   rename_i hk; rw [if_pos hk]; refine eGo_app u v l m _ r h ?_; rw [← h6]; simp only [List.length_cons, List.length_drop]
   congr 1
   omega
  simp at h
theorem vGo_app : ∀ (l m : List (Int × Int)) (two : Bool) (d : Nat), vGo l two d = 0 → vGo (l ++ m) two d = vGo m two 1
 | [], m, two, d, h => by
  unfold vGo at h
  have hl : d = 1 := by
   split at h
   ·
    assumption
   omega
  subst hl; rfl
 | o :: l, m, two, d, h => by
  obtain ⟨h1, h2, h3, h4, h5, h6⟩ := vGo_cons h; rw [List.cons_append, vGo_rec]
  rw [if_neg (fun hc => by
   rcases hc with hc | hc | hc
   ·
    omega
   ·
    have := h3 hc.1; rw [hc.2] at this; cases this
   omega), if_pos h5]
  exact vGo_app l m two _ h6
def noSrc (l : List (Int × Int)) : Prop := ∀ o, o ∈ l → o.1 ≠ 0 ∧ o.1 ≠ 1
end

section
set_option linter.unusedSimpArgs false

inductive OpsM : Bool → Nat → List (Int × Int) → Prop
 | one : OpsM false 0 [(0, 0)]
 | two {c : Int} (h : 3 ≤ c ∧ c ≤ 9) : OpsM true 0 [(0, 0), (1, 0), (c, 0)]
 | bin {b : Bool} {k : Nat} {l : List (Int × Int)} {g c : Int} (hl : OpsM b k l) (hg : -100 ≤ g ∧ g ≤ 199) (hc : 3 ≤ c ∧ c ≤ 9) : OpsM b (k + 1) (l ++ [(2, g), (c, 0)])
 | sh {b : Bool} {k : Nat} {l : List (Int × Int)} {g : Int} (hl : OpsM b k l) (hg : 0 ≤ g ∧ g ≤ 3) : OpsM b (k + 1) (l ++ [(10, g)])
 | ab {b : Bool} {k : Nat} {l : List (Int × Int)} (hl : OpsM b k l) : OpsM b (k + 1) (l ++ [(11, 0)])

theorem OpsM.len {b : Bool} {k : Nat} {l : List (Int × Int)} (h : OpsM b k l) : 1 ≤ l.length ∧ l.length ≤ 3 + 2 * k := by
 induction h with
 | one => simp
 | two => simp
 | bin _ _ _ ih => simp; omega
 | sh _ _ ih => simp; omega
 | ab _ ih => simp; omega
theorem pwArg_0 {c : Int} (h : c ≠ 2 ∧ c ≠ 10) : pwArg c 0 = true := by unfold pwArg; rw [if_neg h.1, if_neg h.2]; rfl
theorem vGo_bin {g c : Int} (two : Bool) (hg : -100 ≤ g ∧ g ≤ 199) (hc : 3 ≤ c ∧ c ≤ 9) : vGo [(2, g), (c, 0)] two 1 = 0 := by
 rw [vGo_rec, if_neg (by simp [pwK]), if_pos (by simp [pwArg]; omega), vGo_rec, if_neg (by simp [pwK_2 hc.1 hc.2, pwK_0]; omega), if_pos (pwArg_0 (by dsimp only; omega))]; simp [vGo, pwK_2 hc.1 hc.2, pwK_0]
theorem vGo_sh {g : Int} (two : Bool) (hg : 0 ≤ g ∧ g ≤ 3) : vGo [(10, g)] two 1 = 0 := by
 rw [vGo_rec, if_neg (by simp [pwK]), if_pos (by simp [pwArg]; omega)]; simp [vGo, pwK]
theorem vGo_ab (two : Bool) : vGo [(11, 0)] two 1 = 0 := by
 rw [vGo_rec, if_neg (by simp [pwK]), if_pos (pwArg_0 (by simp))]; simp [vGo, pwK]
theorem OpsM.valid {b : Bool} {k : Nat} {l : List (Int × Int)} (h : OpsM b k l) : vGo l b 0 = 0 := by
 induction h with
 | one => rw [vGo_rec, if_neg (by simp [pwK]), if_pos (pwArg_0 (by simp))]; simp [vGo, pwK]
 | two h =>
  rename_i c; rw [vGo_rec, if_neg (by simp [pwK]), if_pos (pwArg_0 (by simp)), vGo_rec, if_neg (by simp [pwK]), if_pos (pwArg_0 (by simp)), vGo_rec, if_neg (by simp [pwK_2 h.1 h.2, pwK_0]; omega), if_pos (pwArg_0 (by dsimp only; omega))]; simp [vGo, pwK_2 h.1 h.2, pwK_0]
 | bin hl hg hc ih => rw [vGo_app _ _ _ _ ih]; exact vGo_bin _ hg hc
 | sh hl hg ih => rw [vGo_app _ _ _ _ ih]; exact vGo_sh _ hg
 | ab hl ih => rw [vGo_app _ _ _ _ ih]; exact vGo_ab _
theorem OpsM.head {b : Bool} {k : Nat} {l : List (Int × Int)} (h : OpsM b k l) (hb : b = false) : ∃ t, l = (0, 0) :: t ∧ noSrc t := by
 induction h with
 | one => exact ⟨[], rfl, fun o ho => by simp at ho⟩
 | two _ => cases hb
 | bin hl hg hc ih =>
  obtain ⟨t, rfl, ht⟩ := ih hb; refine ⟨_, rfl, fun o ho => ?_⟩
  replace ho : o ∈ t ++ [_, _] := ho
  simp only [List.mem_append, List.mem_cons, List.not_mem_nil, or_false] at ho
  rcases ho with ho | rfl | rfl
  ·
   exact ht o ho
  ·
   simp
  simp; omega
 | sh hl hg ih =>
  obtain ⟨t, rfl, ht⟩ := ih hb; refine ⟨_, rfl, fun o ho => ?_⟩
  replace ho : o ∈ t ++ [_] := ho
  simp only [List.mem_append, List.mem_cons, List.not_mem_nil, or_false] at ho
  rcases ho with ho | rfl
  ·
   exact ht o ho
  simp
 | ab hl ih =>
  obtain ⟨t, rfl, ht⟩ := ih hb; refine ⟨_, rfl, fun o ho => ?_⟩
  replace ho : o ∈ t ++ [_] := ho
  simp only [List.mem_append, List.mem_cons, List.not_mem_nil, or_false] at ho
  rcases ho with ho | rfl
  ·
   exact ht o ho
  simp
theorem mul_small {x y M : Int} (hx : -M ≤ x ∧ x ≤ M) (hy : -199 ≤ y ∧ y ≤ 199) : -(199 * M) ≤ x * y ∧ x * y ≤ 199 * M := by
 have h1 : x.natAbs ≤ M.toNat := by omega
 have h2 : y.natAbs ≤ 199 := by omega
 have h3 := Nat.mul_le_mul h1 h2; rw [← Int.natAbs_mul] at h3
 omega
theorem shV_smallP {x s M : Int} (hx : -M ≤ x ∧ x ≤ M) (hs : 0 ≤ s ∧ s ≤ 3) : -(M + 8) ≤ shV x s ∧ shV x s ≤ M + 8 := by
 by_cases hk : -17592186044416 ≤ x ∧ x ≤ 17592186044416
 ·
  have h : s = 0 ∨ s = 1 ∨ s = 2 ∨ s = 3 := by omega
  unfold shV
  rcases h with rfl | rfl | rfl | rfl
  ·
   rw [if_pos (by omega), if_pos rfl]; omega
  ·
   rw [if_pos (by omega), if_neg (by omega)]; simp; omega
  ·
   rw [if_pos (by omega), if_neg (by omega)]; simp; omega
  rw [if_pos (by omega), if_neg (by omega)]; simp; omega
 rw [shV_no (by omega)]; omega
theorem bin_small {c x y M : Int} (h : 3 ≤ c ∧ c ≤ 9) (hM : 9 ≤ M) (hx : -M ≤ x ∧ x ≤ M) (hy : -199 ≤ y ∧ y ≤ 199) (a b : Int) : -(200 * M) ≤ pwVal c 0 x y a b ∧ pwVal c 0 x y a b ≤ 200 * M := by
 have m5 := mnI_or x y; have m6 := mxI_or x y
 rcases codes (c := c) (by omega) (by omega) with rfl | rfl | rfl | rfl | rfl | rfl | rfl | rfl | rfl | rfl | rfl | rfl
 ·
  omega
 ·
  omega
 ·
  omega
 ·
  show -(200 * M) ≤ x + y ∧ x + y ≤ 200 * M; omega
 ·
  show -(200 * M) ≤ x - y ∧ x - y ≤ 200 * M; omega
 ·
  have := mul_small hx hy
  show -(200 * M) ≤ x * y ∧ x * y ≤ 200 * M; omega
 ·
  show -(200 * M) ≤ mnI x y ∧ mnI x y ≤ 200 * M; omega
 ·
  show -(200 * M) ≤ mxI x y ∧ mxI x y ≤ 200 * M; omega
 ·
  show -(200 * M) ≤ absI (x - y) ∧ absI (x - y) ≤ 200 * M
  unfold absI; split <;> omega
 ·
  have h1 := fdiv_bd x y; have h2 := absI_bd hx
  show -(200 * M) ≤ Int.fdiv x y ∧ Int.fdiv x y ≤ 200 * M
  omega
 ·
  omega
 omega
theorem pow200 (k : Nat) : (1 : Int) ≤ 200 ^ k := by have : (0 : Int) < 200 ^ k := Int.pow_pos (by decide); omega
theorem pow200_le {k : Nat} (h : k ≤ 2) : (200 : Int) ^ k ≤ 40000 := by
 rcases (show k = 0 ∨ k = 1 ∨ k = 2 by omega) with rfl | rfl | rfl <;> decide
theorem OpsM.eval {b : Bool} {k : Nat} {l : List (Int × Int)} {u v : Int} (h : OpsM b k l) (hk : k ≤ 3) (hu : 0 ≤ u ∧ u ≤ 1000) (hv : 0 ≤ v ∧ v ≤ 255) (hb : b = true → u ≤ 255) :
  ∃ r, eGo l [] u v = (r, 0) ∧ -(65025 * 200 ^ k) ≤ r ∧ r ≤ 65025 * 200 ^ k := by
 induction h with
 | one =>
  refine ⟨u, ?_, by omega, by omega⟩; rw [eGo_cons, if_pos (by rw [accOk_iff]; show _ ≤ u ∧ u ≤ _; omega)]
  rfl
 | two h =>
  rename_i c; have hu2 := hb rfl
  have hm : 0 ≤ u * v ∧ u * v ≤ 65025 := by
   have h1 : u.toNat ≤ 255 := by omega
   have h2 : v.toNat ≤ 255 := by omega
   have h3 := Nat.mul_le_mul h1 h2; have h4 := Int.mul_nonneg hu.1 hv.1; have h5 : ((u.toNat * v.toNat : Nat) : Int) = u * v := by rw [Int.natCast_mul, Int.toNat_of_nonneg hu.1, Int.toNat_of_nonneg hv.1]
   omega
  have hp : -65025 ≤ pwVal c 0 u v u v ∧ pwVal c 0 u v u v ≤ 65025 := by
   have m5 := mnI_or u v; have m6 := mxI_or u v
   rcases codes (c := c) (by omega) (by omega) with rfl | rfl | rfl | rfl | rfl | rfl | rfl | rfl | rfl | rfl | rfl | rfl
   ·
    omega
   ·
    omega
   ·
    omega
   ·
    show -65025 ≤ u + v ∧ u + v ≤ 65025; omega
   ·
    show -65025 ≤ u - v ∧ u - v ≤ 65025; omega
   ·
    show -65025 ≤ u * v ∧ u * v ≤ 65025; omega
   ·
    show -65025 ≤ mnI u v ∧ mnI u v ≤ 65025; omega
   ·
    show -65025 ≤ mxI u v ∧ mxI u v ≤ 65025; omega
   ·
    show -65025 ≤ absI (u - v) ∧ absI (u - v) ≤ 65025
    unfold absI; split <;> omega
   ·
    have h1 := fdiv_bd u v; have h2 := absI_bd (x := u) (c := 255) (by omega)
    show -65025 ≤ Int.fdiv u v ∧ Int.fdiv u v ≤ 65025
    omega
   ·
    omega
   omega
  refine ⟨pwVal c 0 u v u v, ?_, by omega, by omega⟩; rw [eGo_cons, if_pos (by rw [accOk_iff]; show _ ≤ u ∧ u ≤ _; omega), eGo_cons, if_pos (by rw [accOk_iff]; show _ ≤ v ∧ v ≤ _; omega), eGo_cons]; have e : pwK c = 2 := pwK_2 h.1 h.2; have e1 : pwVal ((0 : Int), (0 : Int)).1 ((0 : Int), (0 : Int)).2 (([] : List Int).getD (pwK ((0 : Int), (0 : Int)).1 - 1) 0) (([] : List Int).getD 0 0) u v = u := rfl; simp only [e]; refine (if_pos (show accOk (pwVal c 0 u v u v) = true from ?_)).trans ?_
  ·
   rw [accOk_iff]; omega
  rfl
 | bin hl hg hc ih =>
  rename_i b k l g c; obtain ⟨r, h1, h2, h3⟩ := ih (by omega) hb; have hp := bin_small hc (M := 65025 * 200 ^ k) (x := r) (y := g) (by have := pow200 k; omega) ⟨h2, h3⟩ (by omega) u v; have hpl := pow200_le (k := k) (by omega); refine ⟨pwVal c 0 r g u v, ?_, by rw [Int.pow_succ]; omega, by rw [Int.pow_succ]; omega⟩; rw [eGo_app u v l _ [] r h1 (by have := vGo_two _ _ _ hl.valid; exact this), eGo_cons, if_pos (by rw [accOk_iff]; show _ ≤ g ∧ g ≤ _; omega), eGo_cons]; have e : pwK c = 2 := pwK_2 hc.1 hc.2; simp only [e]; refine (if_pos (show accOk (pwVal c 0 r g u v) = true from ?_)).trans ?_
  ·
   rw [accOk_iff]; omega
  rfl
 | sh hl hg ih =>
  rename_i b k l g; obtain ⟨r, h1, h2, h3⟩ := ih (by omega) hb; have hp := shV_smallP (x := r) (s := g) ⟨h2, h3⟩ hg; have hpl := pow200_le (k := k) (by omega); have hp1 := pow200 k; refine ⟨shV r g, ?_, by rw [Int.pow_succ]; omega, by rw [Int.pow_succ]; omega⟩; rw [eGo_app u v l _ [] r h1 (by have := vGo_two _ _ _ hl.valid; exact this), eGo_cons, if_pos (by rw [accOk_iff]; show _ ≤ shV r g ∧ shV r g ≤ _; omega)]
  rfl
 | ab hl ih =>
  rename_i b k l; obtain ⟨r, h1, h2, h3⟩ := ih (by omega) hb; have hp := absI_bd (x := r) ⟨h2, h3⟩; have hpl := pow200_le (k := k) (by omega); have hp1 := pow200 k; refine ⟨absI r, ?_, by rw [Int.pow_succ]; omega, by rw [Int.pow_succ]; omega⟩; rw [eGo_app u v l _ [] r h1 (by have := vGo_two _ _ _ hl.valid; exact this), eGo_cons, if_pos (by rw [accOk_iff]; show _ ≤ absI r ∧ absI r ≤ _; omega)]
  rfl
theorem OpsM.code {b : Bool} {k : Nat} {l : List (Int × Int)} (h : OpsM b k l) (hk : k ≤ 3) : vCode l true = 0 := by
 rw [vCode_zero]; have := h.len; exact ⟨by omega, by omega, vGo_two _ _ _ h.valid⟩
end

section

end
end Go.Proofs.YteejjnhlfgjlaaaGreat
