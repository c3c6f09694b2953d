/-
  Plain law of floating point values read as exact numbers: classes, parts, order, scaled values; with no program in sight.
-/
import Derived.Test.YtgpblcddebhphaaDoorKA
import Derived.Lib.TrailingZeros
namespace Go.Proofs.YtgpblcddebhphaaDoor
set_option linter.unusedVariables false

def fE (v : Nat) : Nat := v / 4503599627370496 % 2048
def fF (v : Nat) : Nat := v % 4503599627370496
def fS (v : Nat) : Bool := decide (9223372036854775808 ≤ v)
def clsV (v : Nat) : Int := if fE v = 2047 then (if fF v = 0 then 3 else 4) else if 0 < fE v then 2 else if 0 < fF v then 1 else 0
def fM (v : Nat) : Nat := if 0 < fE v then fF v + 4503599627370496 else fF v
def fX (v : Nat) : Int := (if 0 < fE v then (fE v : Int) else 1) - 1075
def tz (m : Nat) : Nat := Go.Lib.ctz 64 m
def oddV (m : Nat) : Nat := m / 2 ^ tz m
def ieOk (v : Nat) : Bool := decide (fE v ≠ 2047)
def ieA (v : Nat) : Nat := if fE v = 2047 ∨ fM v = 0 then 0 else oddV (fM v)
def ieM (v : Nat) : Int := if fS v = true then -((ieA v : Nat) : Int) else (ieA v : Int)
def ieE (v : Nat) : Int := if fE v = 2047 ∨ fM v = 0 then 0 else fX v + (tz (fM v) : Int)
def rkV (v : Nat) : Int := if fS v = true then -((v % 9223372036854775808 : Nat) : Int) else ((v % 9223372036854775808 : Nat) : Int)
def cmpOk (a b : Nat) : Bool := decide (clsV a ≠ 4) && decide (clsV b ≠ 4)
def cmpI (x y : Int) : Int := if x < y then -1 else if y < x then 1 else 0
def cmpV (a b : Nat) : Int := if cmpOk a b = true then cmpI (rkV a) (rkV b) else 0
/-- The integer nearest to a / 2^s, the even one of two. -/
def nearN (a s : Nat) : Nat := if 2 ^ (s - 1) < a % 2 ^ s ∨ a % 2 ^ s = 2 ^ (s - 1) ∧ a / 2 ^ s % 2 = 1 then a / 2 ^ s + 1 else a / 2 ^ s
def scN (a : Nat) (e : Int) : Nat := if e < 0 then nearN a (-e).toNat else a * 2 ^ e.toNat
def scBig (a : Nat) (e : Int) : Bool := decide (0 ≤ e ∧ (32767 < a ∨ 15 < e)) || decide (32767 < scN a e)
def scC (v : Nat) (s : Int) : Int := if s < 0 ∨ 24 < s then 2 else if ieOk v = false then 1 else if ieA v = 0 then 0 else if scBig (ieA v) (ieE v + s) = true then 3 else 0
def scV (v : Nat) (s : Int) : Int := if scC v s = 0 then (if ieA v = 0 then 0 else if fS v = true then -((scN (ieA v) (ieE v + s) : Nat) : Int) else (scN (ieA v) (ieE v + s) : Int)) else 0

theorem ctz_ex {m : Nat} (h0 : m ≠ 0) (h : m < 18446744073709551616) : ∃ k, m = 2 ^ tz m * (2 * k + 1) ∧ tz m < 64 := by
  obtain ⟨k, h1, h2⟩ := Go.Lib.ctzFrom_spec 64 m (by omega) h
  refine ⟨k, ?_, ?_⟩ <;> simp only [tz, Go.Lib.ctz, h0, if_false] <;> assumption
theorem two_pos (n : Nat) : 0 < 2 ^ n := Nat.pow_pos (by decide)
theorem odd_ex {m : Nat} (h0 : m ≠ 0) (h : m < 18446744073709551616) : ∃ k, oddV m = 2 * k + 1 ∧ m = 2 ^ tz m * oddV m := by
  obtain ⟨k, h1, h2⟩ := ctz_ex h0 h
  have e : oddV m = 2 * k + 1 := by
    unfold oddV; conv => lhs; lhs; rw [h1]
    exact Nat.mul_div_cancel_left _ (two_pos _)
  exact ⟨k, e, by rw [e]; exact h1⟩
/-- Oddness is one way. -/
theorem odd_one : ∀ (a b x y : Nat), 2 ^ a * (2 * x + 1) = 2 ^ b * (2 * y + 1) → a = b ∧ x = y
  | 0, 0, x, y, h => by simp only [Nat.pow_zero, Nat.one_mul] at h; exact ⟨rfl, by omega⟩
  | 0, b + 1, x, y, h => by rw [Nat.pow_succ, Nat.mul_comm (2 ^ b), Nat.mul_assoc] at h; omega
  | a + 1, 0, x, y, h => by rw [Nat.pow_succ, Nat.mul_comm (2 ^ a), Nat.mul_assoc] at h; omega
  | a + 1, b + 1, x, y, h => by
    rw [Nat.pow_succ, Nat.mul_comm (2 ^ a), Nat.mul_assoc, Nat.pow_succ, Nat.mul_comm (2 ^ b), Nat.mul_assoc] at h
    have := odd_one a b x y (by omega)
    exact ⟨by omega, this.2⟩
/-- The halving loop's end. -/
theorem halve_end {m f j : Nat} (h0 : m ≠ 0) (hm : m < 18446744073709551616) (h : m = 2 ^ j * f) (ho : f % 2 = 1) : f = oddV m ∧ j = tz m := by
  obtain ⟨k, e, he⟩ := odd_ex h0 hm
  have := odd_one (tz m) j k (f / 2) (by rw [← e, ← he, h]; congr 1; omega)
  exact ⟨by rw [e, this.2]; omega, this.1.symm⟩
theorem halve_next {m f j : Nat} (h : m = 2 ^ j * f) (he : f % 2 = 0) : m = 2 ^ (j + 1) * (f / 2) := by
  rw [Nat.pow_succ, Nat.mul_assoc, h]; congr 1; omega

theorem fE_lt (v : Nat) : fE v < 2048 := Nat.mod_lt _ (by decide)
theorem fF_lt (v : Nat) : fF v < 4503599627370496 := Nat.mod_lt _ (by decide)
theorem fM_lt (v : Nat) : fM v < 9007199254740992 := by unfold fM; have := fF_lt v; split <;> omega
theorem cls_le (v : Nat) : clsV v ≤ 2 ↔ ieOk v = true := by unfold clsV ieOk; by_cases h : fE v = 2047 <;> simp only [h, if_true, if_false, decide_eq_true_eq, ne_eq, not_true, not_false_iff] <;> (repeat' split) <;> simp
theorem cls_zero (v : Nat) : clsV v = 0 ↔ (fE v = 0 ∧ fF v = 0) := by
  unfold clsV; constructor
  · intro h; (repeat' split at h) <;> first | omega | (exact absurd h (by decide))
  · rintro ⟨h1, h2⟩; simp [h1, h2]
theorem ieA_odd {v : Nat} (h : ieA v ≠ 0) : ieA v % 2 = 1 := by
  unfold ieA at h ⊢; split at h
  · exact absurd rfl h
  · rename_i hc; rw [if_neg hc]
    obtain ⟨k, e, _⟩ := odd_ex (m := fM v) (fun q => hc (.inr q)) (by have := fM_lt v; omega)
    omega
theorem ieA_lt (v : Nat) : ieA v < 9007199254740992 := by
  unfold ieA; split
  · decide
  · have := fM_lt v
    exact Nat.lt_of_le_of_lt (Nat.div_le_self _ _) this
theorem tz_lt {m : Nat} (h0 : m ≠ 0) (h : m < 9007199254740992) : tz m < 53 := by
  obtain ⟨k, h1, _⟩ := ctz_ex h0 (by omega)
  by_cases hc : tz m < 53
  · exact hc
  · have : 2 ^ 53 ≤ 2 ^ tz m := Nat.pow_le_pow_right (by decide) (by omega)
    have h2 : 2 ^ tz m * 1 ≤ 2 ^ tz m * (2 * k + 1) := Nat.mul_le_mul_left _ (by omega)
    rw [← h1] at h2; omega
theorem ieE_bd (v : Nat) : -1074 ≤ ieE v ∧ ieE v ≤ 1100 := by
  unfold ieE; split
  · omega
  · rename_i hc
    have h1 := tz_lt (m := fM v) (fun q => hc (.inr q)) (fM_lt v)
    have h2 := fE_lt v
    unfold fX; split <;> omega
/-- Nothing is left of a shift beyond 54. -/
theorem near_big {a s : Nat} (ha : a < 9007199254740992) (hs : 54 < s) : nearN a s = 0 := by
  have h1 : 2 ^ 54 ≤ 2 ^ (s - 1) := Nat.pow_le_pow_right (by decide) (by omega)
  have h2 : 2 ^ (s - 1) ≤ 2 ^ s := Nat.pow_le_pow_right (by decide) (by omega)
  have h3 : a < 2 ^ s := by omega
  unfold nearN
  rw [Nat.mod_eq_of_lt h3, Nat.div_eq_of_lt h3, if_neg]
  omega
theorem near_le (a s : Nat) : nearN a s ≤ a / 2 ^ s + 1 := by unfold nearN; split <;> omega
theorem near_ge (a s : Nat) : a / 2 ^ s ≤ nearN a s := by unfold nearN; split <;> omega
theorem near_mono {a b : Nat} (s : Nat) (h : a ≤ b) : nearN a s ≤ nearN b s := by
  have hq : a / 2 ^ s ≤ b / 2 ^ s := Nat.div_le_div_right h
  by_cases he : a / 2 ^ s < b / 2 ^ s
  · have := near_le a s; have := near_ge b s; omega
  · have e : a / 2 ^ s = b / 2 ^ s := by omega
    have ea := Nat.div_add_mod a (2 ^ s); have eb := Nat.div_add_mod b (2 ^ s)
    have hr : a % 2 ^ s ≤ b % 2 ^ s := by rw [e] at ea; omega
    unfold nearN; rw [e]
    split
    · rename_i hc
      rw [if_pos]
      · exact Nat.le_refl _
      · rcases hc with hc | ⟨hc, hd⟩
        · exact .inl (by omega)
        · by_cases q : 2 ^ (s - 1) < b % 2 ^ s
          · exact .inl q
          · exact .inr ⟨by omega, hd⟩
    · split <;> omega
theorem near_scale (a s k : Nat) (hs : 1 ≤ s) : nearN (a * 2 ^ k) (s + k) = nearN a s := by
  have hp : 2 ^ (s + k) = 2 ^ s * 2 ^ k := Nat.pow_add 2 s k
  have hp' : 2 ^ (s + k - 1) = 2 ^ (s - 1) * 2 ^ k := by rw [← Nat.pow_add]; congr 1; omega
  have hk := two_pos k
  have e1 : a * 2 ^ k % (2 ^ s * 2 ^ k) = a % 2 ^ s * 2 ^ k := Nat.mul_mod_mul_right _ _ _
  have e2 : a * 2 ^ k / (2 ^ s * 2 ^ k) = a / 2 ^ s := Nat.mul_div_mul_right _ _ hk
  unfold nearN
  rw [hp, hp', e1, e2]
  have h1 : (2 ^ (s - 1) * 2 ^ k < a % 2 ^ s * 2 ^ k) ↔ 2 ^ (s - 1) < a % 2 ^ s := Nat.mul_lt_mul_right hk
  have h2 : (a % 2 ^ s * 2 ^ k = 2 ^ (s - 1) * 2 ^ k) ↔ a % 2 ^ s = 2 ^ (s - 1) := ⟨fun h => Nat.eq_of_mul_eq_mul_right hk h, fun h => by rw [h]⟩
  simp only [h1, h2]
theorem near_exact (a k : Nat) {t : Nat} (_ : 1 ≤ t) : nearN (a * 2 ^ k * 2 ^ t) t = a * 2 ^ k := by
  unfold nearN
  rw [Nat.mul_mod_left, Nat.mul_div_cancel _ (two_pos t), if_neg]
  have := two_pos (t - 1)
  omega
/-- The value times 2^D, for a D that makes it whole. -/
def big (D v : Nat) : Nat := fM v * 2 ^ (fX v + (D : Int)).toNat
theorem fX_ge (v : Nat) : -1074 ≤ fX v := by unfold fX; split <;> omega
theorem sc_big (D v : Nat) (hD : D = 1074) {s : Int} (hs : 0 ≤ s) (hA : ieA v ≠ 0) : scN (ieA v) (ieE v + s) = nearN (big D v * 2 ^ s.toNat) D := by
  have hc : ¬ (fE v = 2047 ∨ fM v = 0) := fun q => hA (by unfold ieA; rw [if_pos q])
  have eA : ieA v = oddV (fM v) := by unfold ieA; rw [if_neg hc]
  have eE : ieE v = fX v + (tz (fM v) : Int) := by unfold ieE; rw [if_neg hc]
  obtain ⟨k, e, he⟩ := odd_ex (m := fM v) (fun q => hc (.inr q)) (by have := fM_lt v; omega)
  have hx := fX_ge v
  have hb : big D v * 2 ^ s.toNat = ieA v * 2 ^ (ieE v + s + (D : Int)).toNat := by
    unfold big; rw [eA]
    conv => lhs; lhs; lhs; rw [he]
    have h1 : (ieE v + s + (D : Int)).toNat = tz (fM v) + ((fX v + (D : Int)).toNat + s.toNat) := by omega
    rw [h1, Nat.pow_add, Nat.pow_add]
    simp only [Nat.mul_comm, Nat.mul_left_comm, Nat.mul_assoc]
  rw [hb]
  unfold scN
  split
  · rename_i hn
    have h1 : (ieE v + s + (D : Int)).toNat = D - (-(ieE v + s)).toNat := by omega
    have h2 : D = (-(ieE v + s)).toNat + (D - (-(ieE v + s)).toNat) := by omega
    rw [h1]
    conv => rhs; arg 2; rw [h2]
    exact (near_scale _ _ _ (by omega)).symm
  · have h1 : (ieE v + s + (D : Int)).toNat = (ieE v + s).toNat + D := by omega
    rw [h1, Nat.pow_add, ← Nat.mul_assoc, near_exact _ _ (by omega)]
theorem two_step {a b : Nat} (h : a ≤ b) : 2 ^ a ≤ 2 ^ b := Nat.pow_le_pow_right (by decide) h
theorem big_mono {D a b : Nat} (hD : D = 1074) (h : a % 9223372036854775808 ≤ b % 9223372036854775808) : big D a ≤ big D b := by
  have a1 := fF_lt a; have b1 := fF_lt b
  have ea : a % 9223372036854775808 = fE a * 4503599627370496 + fF a := by unfold fE fF; omega
  have eb : b % 9223372036854775808 = fE b * 4503599627370496 + fF b := by unfold fE fF; omega
  rw [ea, eb] at h
  have hle : fE a ≤ fE b := by omega
  unfold big fM fX
  by_cases q0 : 0 < fE a
  · have q1 : 0 < fE b := by omega
    simp only [q0, q1, if_true]
    have t1 : ((fE a : Int) - 1075 + (D : Int)).toNat = fE a - 1 := by omega
    have t2 : ((fE b : Int) - 1075 + (D : Int)).toNat = fE b - 1 := by omega
    rw [t1, t2]
    by_cases hq : fE a = fE b
    · rw [hq]; exact Nat.mul_le_mul_right _ (by omega)
    · have p1 : 2 ^ (fE a - 1) * 2 ≤ 2 ^ (fE b - 1) := by
        rw [← Nat.pow_succ]; exact two_step (by omega)
      calc (fF a + 4503599627370496) * 2 ^ (fE a - 1) ≤ (4503599627370496 * 2) * 2 ^ (fE a - 1) := Nat.mul_le_mul_right _ (by omega)
        _ = 4503599627370496 * (2 ^ (fE a - 1) * 2) := by rw [Nat.mul_assoc, Nat.mul_comm 2]
        _ ≤ 4503599627370496 * 2 ^ (fE b - 1) := Nat.mul_le_mul_left _ p1
        _ ≤ (fF b + 4503599627370496) * 2 ^ (fE b - 1) := Nat.mul_le_mul_right _ (by omega)
  · have t1 : ((1 : Int) - 1075 + (D : Int)).toNat = 0 := by omega
    simp only [q0, if_false]
    rw [t1]
    by_cases q1 : 0 < fE b
    · simp only [q1, if_true]
      have := two_pos ((fE b : Int) - 1075 + (D : Int)).toNat
      have h2 : (fF b + 4503599627370496) * 1 ≤ (fF b + 4503599627370496) * 2 ^ ((fE b : Int) - 1075 + (D : Int)).toNat := Nat.mul_le_mul_left _ this
      simp only [Nat.pow_zero]; omega
    · simp only [q1, if_false]
      rw [t1]; exact Nat.mul_le_mul_right _ (by omega)

/-- The magnitude of a scaled value. -/
def scU (v : Nat) (s : Int) : Nat := if ieA v = 0 then 0 else scN (ieA v) (ieE v + s)
theorem scV_ok {v : Nat} {s : Int} (h : scC v s = 0) : scV v s = (if fS v = true then -((scU v s : Nat) : Int) else (scU v s : Int)) := by
  unfold scV scU; rw [if_pos h]; split
  · split <;> simp
  · rfl
theorem scC_ok {v : Nat} {s : Int} (h : scC v s = 0) : fE v ≠ 2047 ∧ ieOk v = true := by
  unfold scC at h; split at h
  · exact absurd h (by decide)
  · split at h
    · exact absurd h (by decide)
    · rename_i hb; have hb : ieOk v = true := by simpa using hb
      exact ⟨by unfold ieOk at hb; simpa using hb, hb⟩
theorem big_zero {D v : Nat} (h : fE v ≠ 2047) (h0 : ieA v = 0) : big D v = 0 := by
  have hm : fM v = 0 := by
    by_cases q : fM v = 0
    · exact q
    · exfalso
      obtain ⟨k, e, he⟩ := odd_ex (m := fM v) q (by have := fM_lt v; omega)
      unfold ieA at h0; rw [if_neg (by intro q2; rcases q2 with q2 | q2 <;> contradiction)] at h0
      omega
  unfold big; rw [hm, Nat.zero_mul]
theorem near_zero (t : Nat) : nearN 0 t = 0 := by
  unfold nearN; rw [Nat.zero_mod, Nat.zero_div, if_neg]
  have := two_pos (t - 1); omega
theorem scU_near (D v : Nat) (hD : D = 1074) {s : Int} (hs : 0 ≤ s) (h : fE v ≠ 2047) : scU v s = nearN (big D v * 2 ^ s.toNat) D := by
  unfold scU; split
  · rename_i h0; rw [big_zero h h0, Nat.zero_mul, near_zero]
  · rename_i h0; exact sc_big D v hD hs h0
theorem scU_mono {a b : Nat} {s : Int} (hs : 0 ≤ s) (ha : fE a ≠ 2047) (hb : fE b ≠ 2047) (h : a % 9223372036854775808 ≤ b % 9223372036854775808) : scU a s ≤ scU b s := by
  obtain ⟨D, hD⟩ : ∃ D, D = 1074 := ⟨_, rfl⟩
  rw [scU_near D a hD hs ha, scU_near D b hD hs hb]
  exact near_mono D (Nat.mul_le_mul_right _ (big_mono hD h))
/-- Scaled values are ordered as the values are. -/
theorem sc_mono {a b : Nat} {s : Int} (hs : 0 ≤ s) (ha : scC a s = 0) (hb : scC b s = 0) (h : rkV a ≤ rkV b) : scV a s ≤ scV b s := by
  rw [scV_ok ha, scV_ok hb]
  have ea := (scC_ok ha).1; have eb := (scC_ok hb).1
  unfold rkV at h
  have z0 : ∀ v, fE v ≠ 2047 → v % 9223372036854775808 = 0 → scU v s = 0 := by
    intro v hv h0
    have h1 : fE v = 0 ∧ fF v = 0 := by unfold fE fF; omega
    have : ieA v = 0 := by unfold ieA fM; simp [h1]
    unfold scU; rw [if_pos this]
  cases ca : fS a <;> cases cb : fS b <;> simp only [ca, cb, if_true, if_false, Bool.false_eq_true] at h ⊢
  · have := scU_mono hs ea eb (a := a) (b := b) (by omega); omega
  · have h1 := z0 a ea (by omega); have h2 := z0 b eb (by omega); omega
  · omega
  · have := scU_mono hs eb ea (a := b) (b := a) (by omega); omega

-- signs
theorem flip_lt {v : Nat} (h : v < 18446744073709551616) : v ^^^ 9223372036854775808 = (if 9223372036854775808 ≤ v then v - 9223372036854775808 else v + 9223372036854775808) := by
  have e : v = v / 9223372036854775808 * 9223372036854775808 + v % 9223372036854775808 := by omega
  have hb : v / 9223372036854775808 < 2 := by omega
  have key : v ^^^ 9223372036854775808 = (v / 9223372036854775808 ^^^ 1) * 9223372036854775808 + v % 9223372036854775808 := by
    apply Nat.eq_of_testBit_eq; intro i
    have p : (9223372036854775808 : Nat) = 2 ^ 63 := by decide
    rw [Nat.testBit_xor, p, Nat.testBit_two_pow, Nat.mul_comm _ (2 ^ 63), Nat.testBit_two_pow_mul_add _ (Nat.mod_lt _ (by decide))]
    by_cases hi : i < 63
    · simp only [hi, if_true]
      have hne : decide (63 = i) = false := by simp; omega
      rw [Nat.testBit_mod_two_pow, hne]; simp [hi]
    · simp only [hi, if_false]
      rw [Nat.testBit_xor, Nat.testBit_div_two_pow]
      have e1 : i - 63 + 63 = i := by omega
      rw [e1]; congr 1
      by_cases q : i = 63
      · subst q; rfl
      · obtain ⟨j, hj⟩ : ∃ j, i - 63 = j + 1 := ⟨i - 64, by omega⟩
        have hne : decide (63 = i) = false := by simp; omega
        rw [hne, hj, Nat.testBit_succ]; simp
  rw [key]
  have : v / 9223372036854775808 = 0 ∨ v / 9223372036854775808 = 1 := by omega
  rcases this with h1 | h1
  · rw [h1, if_neg (by omega), Nat.zero_xor]; omega
  · rw [h1, if_pos (by omega), Nat.xor_self]; omega
def flipV (v : Nat) : Nat := if 9223372036854775808 ≤ v then v - 9223372036854775808 else v + 9223372036854775808
theorem flip_parts {v : Nat} (h : v < 18446744073709551616) : fE (flipV v) = fE v ∧ fF (flipV v) = fF v ∧ fS (flipV v) = !fS v ∧ flipV v % 9223372036854775808 = v % 9223372036854775808 ∧ flipV v < 18446744073709551616 := by
  unfold flipV fE fF fS
  split <;> refine ⟨by omega, by omega, ?_, by omega, by omega⟩
  · rename_i q; rw [decide_eq_false (by omega), decide_eq_true q]; rfl
  · rename_i q; rw [decide_eq_true (by omega), decide_eq_false q]; rfl
theorem flip_all {v : Nat} (h : v < 18446744073709551616) (s : Int) : clsV (flipV v) = clsV v ∧ ieOk (flipV v) = ieOk v ∧ ieM (flipV v) = -ieM v ∧ ieE (flipV v) = ieE v ∧ scC (flipV v) s = scC v s ∧ scV (flipV v) s = -scV v s ∧ rkV (flipV v) = -rkV v := by
  obtain ⟨h1, h2, h3, h4, _⟩ := flip_parts h
  have hM : fM (flipV v) = fM v := by unfold fM; rw [h1, h2]
  have hX : fX (flipV v) = fX v := by unfold fX; rw [h1]
  have hA : ieA (flipV v) = ieA v := by unfold ieA; rw [h1, hM]
  have hE : ieE (flipV v) = ieE v := by unfold ieE; rw [h1, hM, hX]
  have hO : ieOk (flipV v) = ieOk v := by unfold ieOk; rw [h1]
  have hC : scC (flipV v) s = scC v s := by unfold scC; rw [hO, hA, hE]
  refine ⟨by unfold clsV; rw [h1, h2], hO, ?_, hE, hC, ?_, ?_⟩
  · unfold ieM; rw [hA, h3]; cases fS v <;> simp
  · unfold scV; rw [hC, hA, hE, h3]; cases fS v <;> simp <;> (repeat' split) <;> simp
  · unfold rkV; rw [h4, h3]; cases fS v <;> simp
theorem rk_zero {v : Nat} (h : v < 18446744073709551616) : rkV v = 0 ↔ clsV v = 0 := by
  rw [cls_zero]; unfold rkV fE fF; split <;> omega

-- quantized lists
def qSum (l : List Nat) (s : Int) : Nat → Int
  | 0 => 0
  | n + 1 => qSum l s n + scV (l.getD n 0) s
def qBest (l : List Nat) (s : Int) : Nat → Nat
  | 0 => 0
  | n + 1 => if scV (l.getD (qBest l s n) 0) s < scV (l.getD n 0) s then n else qBest l s n
def qErr (l : List Nat) (s : Int) : Nat → Int
  | 0 => 0
  | n + 1 => if qErr l s n ≠ 0 then qErr l s n else scC (l.getD n 0) s
def qOuts (l : List Nat) (s : Int) : List Int := l.map (fun v => scV v s)
def qD (l : List Nat) (s : Int) : Int := 2 ^ s.toNat - qSum l s l.length
def qTop (l : List Nat) (s : Int) : Int := scV (l.getD (qBest l s l.length) 0) s + qD l s
def qCode (l : List Nat) (s : Int) : Int :=
  if s < 0 ∨ 24 < s then 2 else if l.length = 0 ∨ 8 < l.length then 5 else if qErr l s l.length ≠ 0 then qErr l s l.length
  else if (l.length : Int) < qD l s ∨ qD l s < -(l.length : Int) then 10 else if 32767 < qTop l s ∨ qTop l s < -32767 then 3 else 0
def qList (l : List Nat) (s : Int) : List Int := if qCode l s = 0 then (qOuts l s).set (qBest l s l.length) (qTop l s) else []
theorem scV_bd (v : Nat) (s : Int) : -32767 ≤ scV v s ∧ scV v s ≤ 32767 := by
  unfold scV; split
  · rename_i h; split
    · omega
    · rename_i h0
      have : scN (ieA v) (ieE v + s) ≤ 32767 := by
        unfold scC at h; split at h
        · exact absurd h (by decide)
        · split at h
          · exact absurd h (by decide)
          · split at h
            · exact absurd h (by decide)
            · rename_i hb; unfold scBig at hb; simp at hb; omega
      split <;> omega
  · omega
theorem qSum_bd (l : List Nat) (s : Int) (n : Nat) : -(32767 * (n : Int)) ≤ qSum l s n ∧ qSum l s n ≤ 32767 * (n : Int) := by
  induction n with
  | zero => simp [qSum]
  | succ n ih => have := scV_bd (l.getD n 0) s; simp only [qSum]; omega
theorem qBest_lt (l : List Nat) (s : Int) (n : Nat) : qBest l s n = 0 ∨ qBest l s n < n := by
  induction n with
  | zero => exact .inl rfl
  | succ n ih => simp only [qBest]; split <;> omega
theorem qBest_first (l : List Nat) (s : Int) : qBest l s 1 = 0 := by simp [qBest]
end Go.Proofs.YtgpblcddebhphaaDoor
