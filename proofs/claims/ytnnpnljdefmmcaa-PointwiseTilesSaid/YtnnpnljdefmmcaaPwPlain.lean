/-
  Plain law: programs of operations on a stack: which are valid, their intervals and values.
-/
import Derived.Test.YtnnpnljdefmmcaaKF
namespace Go.Proofs.Ytnnpnljdefmmcaa
/-- How many values an operation takes. -/
def pwK (c : Int) : Nat := if c ≤ 2 then 0 else if 10 ≤ c then 1 else 2
def pwIs (c : Int) : Bool := decide (0 ≤ c ∧ c ≤ 11)
def pwArg (c g : Int) : Bool := if c = 2 then decide (-4294967296 ≤ g ∧ g ≤ 4294967296) else if c = 10 then decide (0 ≤ g ∧ g ≤ 24) else decide (g = 0)
/-- The error of the rest of a program, d values being on the stack. -/
def vGo : List (Int × Int) → Bool → Nat → Int
  | [], _, d => if d = 1 then 0 else 1
  | o :: l, two, d => if ¬ (0 ≤ o.1 ∧ o.1 ≤ 11) ∨ (o.1 = 1 ∧ two = false) ∨ d < pwK o.1 then 1 else if pwArg o.1 o.2 = true then vGo l two (d + 1 - pwK o.1) else 10
def vCode (l : List (Int × Int)) (two : Bool) : Int := if l.length = 0 ∨ 32 < l.length then 9 else vGo l two 0
def absI (x : Int) : Int := if x < 0 then -x else x
/-- The value of an operation. -/
def pwVal (c g x y a b : Int) : Int :=
  if c = 0 then a else if c = 1 then b else if c = 2 then g else if c = 3 then x + y else if c = 4 then x - y else if c = 5 then x * y else if c = 6 then mnI x y else if c = 7 then mxI x y
  else if c = 8 then absI (x - y) else if c = 9 then Int.fdiv x y else if c = 10 then shV x g else absI x
def eGo : List (Int × Int) → List Int → Int → Int → Int × Int
  | [], st, _, _ => (st.headD 0, 0)
  | o :: l, st, a, b => if accOk (pwVal o.1 o.2 (st.getD (pwK o.1 - 1) 0) (st.getD 0 0) a b) = true then eGo l (pwVal o.1 o.2 (st.getD (pwK o.1 - 1) 0) (st.getD 0 0) a b :: st.drop (pwK o.1)) a b else (0, 11)
def pixOk (a : Int) : Bool := decide (0 ≤ a ∧ a ≤ 4294967296)
/-- The last value of a program, or the error. -/
def evR (l : List (Int × Int)) (a b : Int) : Int × Int :=
  if vCode l true ≠ 0 then (0, vCode l true) else if ¬ (pixOk a = true ∧ pixOk b = true) then (0, 2) else eGo l [] a b
/-- The interval of an operation. -/
def pwInt (c g : Int) (x y : Int × Int) (a b : Int) : Int × Int :=
  if c = 0 then (0, a) else if c = 1 then (0, b) else if c = 2 then (g, g) else if c = 3 then (x.1 + y.1, x.2 + y.2) else if c = 4 then (x.1 - y.2, x.2 - y.1)
  else if c = 5 then (mnI (mnI (mnI (x.1 * y.1) (x.1 * y.2)) (x.2 * y.1)) (x.2 * y.2), mxI (mxI (mxI (x.1 * y.1) (x.1 * y.2)) (x.2 * y.1)) (x.2 * y.2))
  else if c = 6 then (mnI x.1 y.1, mnI x.2 y.2) else if c = 7 then (mxI x.1 y.1, mxI x.2 y.2)
  else if c = 8 then (0, mxI (x.2 - y.1) (y.2 - x.1)) else if c = 9 then (-mxI (absI x.1) (absI x.2), mxI (absI x.1) (absI x.2)) else if c = 10 then (shV x.1 g, shV x.2 g) else (0, mxI (absI x.1) (absI x.2))
def pwMul (x y : Int × Int) : Bool := accOk (x.1 * y.1) && (accOk (x.1 * y.2) && (accOk (x.2 * y.1) && accOk (x.2 * y.2)))
def pwIok (c g : Int) (x y : Int × Int) (a b : Int) : Bool := (if c = 5 then pwMul x y else true) && (accOk (pwInt c g x y a b).1 && accOk (pwInt c g x y a b).2)
def iGo : List (Int × Int) → List (Int × Int) → Int → Int → Int × Int × Int
  | [], st, _, _ => ((st.headD (0, 0)).1, (st.headD (0, 0)).2, 0)
  | o :: l, st, a, b => if pwIok o.1 o.2 (st.getD (pwK o.1 - 1) (0, 0)) (st.getD 0 (0, 0)) a b = true then iGo l (pwInt o.1 o.2 (st.getD (pwK o.1 - 1) (0, 0)) (st.getD 0 (0, 0)) a b :: st.drop (pwK o.1)) a b else (0, 0, 11)
def ivR (l : List (Int × Int)) (a b : Int) : Int × Int × Int :=
  if vCode l true ≠ 0 then (0, 0, vCode l true) else if ¬ (valOk a = true ∧ valOk b = true) then (0, 0, 2) else iGo l [] a b

theorem codes {c : Int} (h1 : 0 ≤ c) (h2 : c ≤ 11) : c = 0 ∨ c = 1 ∨ c = 2 ∨ c = 3 ∨ c = 4 ∨ c = 5 ∨ c = 6 ∨ c = 7 ∨ c = 8 ∨ c = 9 ∨ c = 10 ∨ c = 11 := by omega
theorem accOk_iff {z : Int} : accOk z = true ↔ -17592186044416 ≤ z ∧ z ≤ 17592186044416 := by simp [accOk]
theorem accOk_no {z : Int} : accOk z = false ↔ ¬ (-17592186044416 ≤ z ∧ z ≤ 17592186044416) := by simp [accOk]
theorem pixOk_iff {z : Int} : pixOk z = true ↔ 0 ≤ z ∧ z ≤ 4294967296 := by simp [pixOk]
theorem valOk_iff' {z : Int} : valOk z = true ↔ 1 ≤ z ∧ z ≤ 4294967296 := by simp [valOk]
theorem pwK_le (c : Int) : pwK c ≤ 2 := by unfold pwK; split <;> (try split) <;> omega
theorem pwK_0 {c : Int} (h : c ≤ 2) : pwK c = 0 := by unfold pwK; rw [if_pos h]
theorem pwK_2 {c : Int} (h : 3 ≤ c) (h' : c ≤ 9) : pwK c = 2 := by unfold pwK; rw [if_neg (by omega), if_neg (by omega)]
theorem pwK_1 {c : Int} (h : 10 ≤ c) : pwK c = 1 := by unfold pwK; rw [if_neg (by omega), if_pos h]
/-- What a valid rest says of its first operation. -/
theorem vGo_cons {o : Int × Int} {l : List (Int × Int)} {two : Bool} {d : Nat} (h : vGo (o :: l) two d = 0) :
    0 ≤ o.1 ∧ o.1 ≤ 11 ∧ (o.1 = 1 → two = true) ∧ pwK o.1 ≤ d ∧ pwArg o.1 o.2 = true ∧ vGo l two (d + 1 - pwK o.1) = 0 := by
  unfold vGo at h
  split at h
  · omega
  · rename_i h1
    split at h
    · rename_i h2
      refine ⟨by omega, by omega, fun e => ?_, by omega, h2, h⟩
      cases two
      · exact absurd (Or.inr (Or.inl ⟨e, rfl⟩)) h1
      · rfl
    · omega
theorem vCode_zero {l : List (Int × Int)} {two : Bool} : vCode l two = 0 ↔ 1 ≤ l.length ∧ l.length ≤ 32 ∧ vGo l two 0 = 0 := by
  unfold vCode
  split
  · constructor <;> intro h <;> omega
  · constructor <;> intro h <;> omega
/-- A program for one source is one for two. -/
theorem vGo_two : ∀ (l : List (Int × Int)) (two : Bool) (d : Nat), vGo l two d = 0 → vGo l true d = 0
  | [], _, _, h => h
  | o :: l, two, d, h => by
    obtain ⟨h1, h2, _, h4, h5, h6⟩ := vGo_cons h
    unfold vGo
    rw [if_neg (by simp; omega), if_pos h5]
    exact vGo_two l two _ h6
theorem vCode_two {l : List (Int × Int)} {two : Bool} (h : vCode l two = 0) : vCode l true = 0 := by
  rw [vCode_zero] at h ⊢
  exact ⟨h.1, h.2.1, vGo_two _ _ _ h.2.2⟩
theorem absI_bd {x c : Int} (h : -c ≤ x ∧ x ≤ c) : 0 ≤ absI x ∧ absI x ≤ c := by unfold absI; split <;> omega
/-- A product is permitted exactly if the division says so. -/
theorem mul_ok {x y : Int} (hx : accOk x = true) (hy : accOk y = true) : accOk (x * y) = true ↔ ¬ (y ≠ 0 ∧ (17592186044416 : Int) / absI y < absI x) := by
  rw [accOk_iff]
  rw [accOk_iff] at hx hy
  by_cases h0 : y = 0
  · subst h0; simp
  have hpos : 0 < absI y := by unfold absI; split <;> omega
  have hxy : absI x * absI y = absI (x * y) := by
    unfold absI
    by_cases h1 : x < 0 <;> by_cases h2 : y < 0
    · have := Int.mul_pos_of_neg_of_neg h1 h2
      rw [if_pos h1, if_pos h2, if_neg (by omega), Int.neg_mul_neg]
    · have h3 : x * y ≤ 0 := Int.mul_nonpos_of_nonpos_of_nonneg (by omega) (by omega)
      have h4 : x * y ≠ 0 := Int.mul_ne_zero (by omega) h0
      rw [if_pos h1, if_neg h2, if_pos (by omega), Int.neg_mul]
    · rcases Int.lt_or_eq_of_le (show 0 ≤ x by omega) with h5 | h5
      · have := Int.mul_neg_of_pos_of_neg h5 h2
        rw [if_neg h1, if_pos h2, if_pos (by omega), Int.mul_neg]
      · subst h5; simp
    · have := Int.mul_nonneg (show 0 ≤ x by omega) (show 0 ≤ y by omega)
      rw [if_neg h1, if_neg h2, if_neg (by omega)]
  have hlt : (17592186044416 : Int) / absI y < absI x ↔ 17592186044416 < absI x * absI y := by
    rw [Int.ediv_lt_iff_lt_mul hpos]
  rw [hlt, hxy]
  have : (-17592186044416 ≤ x * y ∧ x * y ≤ 17592186044416) ↔ absI (x * y) ≤ 17592186044416 := by unfold absI; split <;> omega
  rw [this]
  constructor
  · intro h hc; omega
  · intro h
    by_cases hc : absI (x * y) ≤ 17592186044416
    · exact hc
    · exact absurd ⟨h0, by omega⟩ h
/-- The floor of a quotient, from the quotient towards zero. -/
theorem fdiv_tdiv {x y : Int} (h : y ≠ 0) : Int.fdiv x y = if Int.tmod x y ≠ 0 ∧ ¬ (x < 0 ↔ y < 0) then Int.tdiv x y - 1 else Int.tdiv x y := by
  rw [Int.fdiv_eq_tdiv]
  have e : (y ∣ x) ↔ Int.tmod x y = 0 := Int.dvd_iff_tmod_eq_zero
  by_cases hd : y ∣ x
  · rw [if_pos hd, if_neg (by rw [e] at hd; simp [hd])]; omega
  · have hd' : Int.tmod x y ≠ 0 := fun h' => hd (e.2 h')
    rw [if_neg hd]
    rcases Int.lt_or_gt_of_ne h with hy | hy
    · by_cases hx : x < 0
      · rw [if_neg (by omega), if_neg (by omega), Int.sign_eq_neg_one_of_neg hy, if_neg (by simp [hx, hy])]; omega
      · rw [if_pos (by omega), if_neg (by omega), if_pos ⟨hd', by simp [hx, hy]⟩]
    · by_cases hx : x < 0
      · rw [if_neg (by omega), if_pos (by omega), Int.sign_eq_one_of_pos hy, if_pos ⟨hd', by simp [hx]; omega⟩]
      · rw [if_pos (by omega), if_pos (by omega), if_neg (by simp [hx]; omega)]; omega
theorem fdiv_bd (x y : Int) : -absI x ≤ Int.fdiv x y ∧ Int.fdiv x y ≤ absI x := by
  by_cases h0 : y = 0
  · subst h0; rw [Int.fdiv_zero]; unfold absI; split <;> omega
  rw [fdiv_tdiv h0]
  have e1 := Int.mul_tdiv_add_tmod x y
  have h1 := Int.natAbs_tdiv_le_natAbs x y
  by_cases hz : Int.tmod x y = 0
  · rw [if_neg (by simp [hz])]; unfold absI; split <;> omega
  · split
    · rename_i h2
      have hs : (Int.tdiv x y).natAbs < x.natAbs ∨ 0 ≤ Int.tdiv x y := by
        rcases Int.lt_or_le (Int.tdiv x y) 0 with h3 | h3
        · left
          rcases Nat.lt_or_ge (Int.tdiv x y).natAbs x.natAbs with h4 | h4
          · exact h4
          · exfalso
            have h5 : (Int.tdiv x y).natAbs = x.natAbs := by omega
            have h6 : x.natAbs / y.natAbs = x.natAbs := by have := Int.natAbs_tdiv x y; rw [h5] at this; exact this.symm
            have hx0 : 0 < x.natAbs := by
              rcases Nat.eq_zero_or_pos x.natAbs with h7 | h7
              · have : x = 0 := by omega
                subst this; simp at hz
              · exact h7
            have hy1 : y.natAbs = 1 := by
              rcases Nat.lt_or_ge 1 y.natAbs with h7 | h7
              · have := Nat.div_lt_self hx0 h7; omega
              · have : y.natAbs ≠ 0 := by omega
                omega
            apply hz
            exact Int.dvd_iff_tmod_eq_zero.1 (Int.natAbs_dvd_natAbs.1 (by rw [hy1]; exact Nat.one_dvd _))
        · exact .inr h3
      have hx1 : 1 ≤ x.natAbs := by
        rcases Nat.eq_zero_or_pos x.natAbs with h7 | h7
        · have : x = 0 := by omega
          subst this; simp at hz
        · exact h7
      unfold absI; split <;> omega
    · unfold absI; split <;> omega
end Go.Proofs.Ytnnpnljdefmmcaa
