/-
 Plain law: round shifts, clamping, weights and the bounds of sums. Contracts: round shifts, clamping, weights and the bounds of sums, in the program. Contracts: round shifts, clamping, weights and the bounds of sums, in the reference.
-/
import Derived.Test.YteejjnhlfgjlaaaGreatKA
import Derived.Test.YteejjnhlfgjlaaaGreatKX
namespace Go.Proofs.YteejjnhlfgjlaaaGreat
section
def shV (a s : Int) : Int := if -17592186044416 ≤ a ∧ a ≤ 17592186044416 ∧ 0 ≤ s ∧ s ≤ 24 then (if s = 0 then a else (a + 2 ^ (s - 1).toNat) / 2 ^ s.toNat) else 0
def clV (v m : Int) : Int := if m < 0 ∨ v < 0 then 0 else if m < v then m else v
def wOk (z : Int) : Bool := decide (-32767 ≤ z ∧ z ≤ 32767)
def wAll (l : List Int) : Bool := l.all wOk
def wCode (l : List Int) : Int := if l.length = 0 ∨ 81 < l.length then 9 else if wAll l = true then 0 else 10
def accOk (z : Int) : Bool := decide (-17592186044416 ≤ z ∧ z ≤ 17592186044416)
def shOk (s : Int) : Bool := decide (0 ≤ s ∧ s ≤ 24)
def sideOk (s : Int) : Bool := decide (1 ≤ s ∧ s ≤ 9)
def valOk (s : Int) : Bool := decide (1 ≤ s ∧ s ≤ 4294967296)
def mnI (x y : Int) : Int := if y < x then y else x
def mxI (x y : Int) : Int := if x < y then y else x
def bLo (l : List Int) (lo hi : Int) (n : Nat) : Int := sumN (fun i => mnI (l.getD i 0 * lo) (l.getD i 0 * hi)) n
def bHi (l : List Int) (lo hi : Int) (n : Nat) : Int := sumN (fun i => mxI (l.getD i 0 * lo) (l.getD i 0 * hi)) n
def bArg (l : List Int) (lo hi : Int) : Bool := decide (wCode l = 0 ∧ lo ≤ hi ∧ -68719476736 ≤ lo ∧ hi ≤ 68719476736)
def bdOk (l : List Int) (lo hi : Int) : Bool := bArg l lo hi && (accOk (bLo l lo hi l.length) && accOk (bHi l lo hi l.length))
def bdLo (l : List Int) (lo hi : Int) : Int := if bdOk l lo hi = true then bLo l lo hi l.length else 0
def bdHi (l : List Int) (lo hi : Int) : Int := if bdOk l lo hi = true then bHi l lo hi l.length else 0

theorem pow_pos' (n : Nat) : (0 : Int) < 2 ^ n := Int.pow_pos (by decide)
theorem pow_le {n m : Nat} (h : n ≤ m) : (2 : Int) ^ n ≤ 2 ^ m := by
 obtain ⟨k, rfl⟩ : ∃ k, m = n + k := ⟨m - n, by omega⟩; rw [Int.pow_add]; have h1 := pow_pos' n; have h2 : (1 : Int) ≤ 2 ^ k := by have := pow_pos' k; omega
 have h3 : (2 : Int) ^ n * 1 ≤ 2 ^ n * 2 ^ k := Int.mul_le_mul_of_nonneg_left h2 (Int.le_of_lt h1)
 omega
theorem sh_pow {s : Int} (h : 1 ≤ s) (h' : s ≤ 24) : 1 ≤ (2 : Int) ^ (s - 1).toNat ∧ (2 : Int) ^ (s - 1).toNat ≤ 8388608 ∧ (2 : Int) ^ s.toNat = 2 * 2 ^ (s - 1).toNat := by
 have h1 := pow_pos' (s - 1).toNat; have h2 := pow_le (show (s - 1).toNat ≤ 23 by omega); have h3 : s.toNat = (s - 1).toNat + 1 := by omega
 refine ⟨by omega, by simpa using h2, ?_⟩; rw [h3, Int.pow_succ]; simp; omega
theorem clV_bd {v m : Int} (hm : 0 ≤ m) : 0 ≤ clV v m ∧ clV v m ≤ m := by
 unfold clV; split
 ·
  omega
 split <;> omega
theorem shV_zero {a : Int} (h : -17592186044416 ≤ a ∧ a ≤ 17592186044416) : shV a 0 = a := by
 unfold shV; rw [if_pos ⟨h.1, h.2, by omega, by omega⟩, if_pos rfl]
theorem shV_no {a s : Int} (h : ¬ (-17592186044416 ≤ a ∧ a ≤ 17592186044416 ∧ 0 ≤ s ∧ s ≤ 24)) : shV a s = 0 := by unfold shV; rw [if_neg h]
theorem shV_yes {a s P Q : Int} (h : -17592186044416 ≤ a ∧ a ≤ 17592186044416 ∧ 1 ≤ s ∧ s ≤ 24) (hP : (2 : Int) ^ (s - 1).toNat = P) (hQ : (2 : Int) ^ s.toNat = Q) : shV a s = (a + P) / Q := by
 unfold shV; rw [if_pos ⟨h.1, h.2.1, by omega, by omega⟩, if_neg (by omega), hP, hQ]
theorem shV_bd (a s : Int) : -17592186044416 ≤ shV a s ∧ shV a s ≤ 17592186044416 := by
 by_cases h : -17592186044416 ≤ a ∧ a ≤ 17592186044416 ∧ 0 ≤ s ∧ s ≤ 24
 ·
  by_cases h0 : s = 0
  ·
   subst h0; rw [shV_zero ⟨h.1, h.2.1⟩]; omega
  obtain ⟨p1, p2, p3⟩ := sh_pow (s := s) (by omega) (by omega); obtain ⟨P, hP⟩ : ∃ P, (2 : Int) ^ (s - 1).toNat = P := ⟨_, rfl⟩; rw [shV_yes (by omega) hP p3, hP]; rw [hP] at p1 p2; have e := Int.mul_ediv_add_emod (a + P) (2 * P); have m1 := Int.emod_nonneg (a + P) (b := 2 * P) (by omega); have m2 := Int.emod_lt_of_pos (a + P) (b := 2 * P) (by omega); obtain ⟨q, hq⟩ : ∃ q, (a + P) / (2 * P) = q := ⟨_, rfl⟩; rw [hq] at e ⊢
  constructor
  ·
   by_cases hn : q < 0
   ·
    have : 2 * P * q ≤ 2 * q := by
     have := Int.mul_le_mul_of_nonpos_right (show (2 : Int) ≤ 2 * P by omega) (show q ≤ 0 by omega)
     omega
    omega
   omega
  by_cases hn : 0 < q
  ·
   have : P * q ≥ P := by
    have : P * 1 ≤ P * q := Int.mul_le_mul_of_nonneg_left (show (1 : Int) ≤ q by omega) (by omega)
    omega
   have h4 : 1 * q ≤ P * q := Int.mul_le_mul_of_nonneg_right (by omega) (by omega); have h5 : 2 * P * q = P * q + P * q := by rw [Int.mul_assoc]; omega
   omega
  omega
 rw [shV_no h]; omega
theorem wAll_iff {l : List Int} : wAll l = true ↔ ∀ i, i < l.length → -32767 ≤ l.getD i 0 ∧ l.getD i 0 ≤ 32767 := by
 unfold wAll
 rw [List.all_eq_true]
 constructor
 ·
  intro h i hi; have := h _ (getD_mem' hi); simpa [wOk] using this
 intro h z hz; obtain ⟨i, hi, rfl⟩ := mem_getD' hz; simpa [wOk] using h i hi
theorem wAll_bad {l : List Int} {i : Nat} (hi : i < l.length) (h : wOk (l.getD i 0) = false) : wAll l = false := by
 rw [← Bool.not_eq_true, wAll_iff]; intro h'; have := h' i hi
 unfold wOk at h
 have := of_decide_eq_false h
 omega
theorem wCode_zero {l : List Int} : wCode l = 0 ↔ 1 ≤ l.length ∧ l.length ≤ 81 ∧ wAll l = true := by
 unfold wCode
 split
 ·
  constructor <;> intro h <;> omega
 split
 ·
  rename_i h0 h1
  constructor
  ·
   intro _; exact ⟨by omega, by omega, h1⟩
  intro _; rfl
 rename_i h
 constructor
 ·
  intro h; omega
 intro h'; exact absurd h'.2.2 h
theorem bArg_iff {l : List Int} {lo hi : Int} : bArg l lo hi = true ↔ wCode l = 0 ∧ lo ≤ hi ∧ -68719476736 ≤ lo ∧ hi ≤ 68719476736 := by simp [bArg]
theorem wmul_bd {z v : Int} (hz : -32767 ≤ z ∧ z ≤ 32767) (hv : -68719476736 ≤ v ∧ v ≤ 68719476736) : -2251799813685248 ≤ z * v ∧ z * v ≤ 2251799813685248 := by
 have h1 : z.natAbs ≤ 32767 := by omega
 have h2 : v.natAbs ≤ 68719476736 := by omega
 have h3 := Nat.mul_le_mul h1 h2; rw [← Int.natAbs_mul] at h3
 omega
theorem mn_bd {x y c : Int} (hx : -c ≤ x ∧ x ≤ c) (hy : -c ≤ y ∧ y ≤ c) : -c ≤ mnI x y ∧ mnI x y ≤ c := by unfold mnI; split <;> omega
theorem mx_bd {x y c : Int} (hx : -c ≤ x ∧ x ≤ c) (hy : -c ≤ y ∧ y ≤ c) : -c ≤ mxI x y ∧ mxI x y ≤ c := by unfold mxI; split <;> omega
theorem sumN_abs {f : Nat → Int} {n : Nat} {c : Int} (h : ∀ i, i < n → -c ≤ f i ∧ f i ≤ c) : -(n * c) ≤ sumN f n ∧ sumN f n ≤ n * c := by
 induction n with
 | zero => simp [sumN]
 | succ n ih =>
  have h1 := ih (fun i hi => h i (by omega)); have h2 := h n (by omega); have h3 : ((n + 1 : Nat) : Int) * c = n * c + c := by rw [Int.natCast_succ, Int.add_mul, Int.one_mul]
  rw [sumN, h3]; omega
theorem b_bd {l : List Int} {lo hi : Int} (h : bArg l lo hi = true) {n : Nat} (hn : n ≤ l.length) :
  -182395784908505088 ≤ bLo l lo hi n ∧ bLo l lo hi n ≤ 182395784908505088 ∧ -182395784908505088 ≤ bHi l lo hi n ∧ bHi l lo hi n ≤ 182395784908505088 := by
 obtain ⟨hw, h1, h2, h3⟩ := bArg_iff.1 h; obtain ⟨w1, w2, w3⟩ := wCode_zero.1 hw; have w4 := wAll_iff.1 w3; have hm : ∀ i, i < n → ∀ v, -68719476736 ≤ v ∧ v ≤ 68719476736 → -2251799813685248 ≤ l.getD i 0 * v ∧ l.getD i 0 * v ≤ 2251799813685248 := fun i hi v hv => wmul_bd (w4 i (by omega)) hv
 have a1 := sumN_abs (f := fun i => mnI (l.getD i 0 * lo) (l.getD i 0 * hi)) (n := n) (c := 2251799813685248) (fun i hi' => mn_bd (hm i hi' lo (by omega)) (hm i hi' hi (by omega))); have a2 := sumN_abs (f := fun i => mxI (l.getD i 0 * lo) (l.getD i 0 * hi)) (n := n) (c := 2251799813685248) (fun i hi' => mx_bd (hm i hi' lo (by omega)) (hm i hi' hi (by omega)))
 unfold bLo bHi
 omega
theorem bdOk_no {l : List Int} {lo hi : Int} (h : bdOk l lo hi = false) : bdLo l lo hi = 0 ∧ bdHi l lo hi = 0 := by
 unfold bdLo bdHi; rw [if_neg (by rw [h]; simp), if_neg (by rw [h]; simp)]; exact ⟨rfl, rfl⟩
theorem bdOk_yes {l : List Int} {lo hi : Int} (h : bdOk l lo hi = true) : bdLo l lo hi = bLo l lo hi l.length ∧ bdHi l lo hi = bHi l lo hi l.length := by
 unfold bdLo bdHi; rw [if_pos h, if_pos h]; exact ⟨rfl, rfl⟩
end

section
open Go.RowKit
attribute [local go_sem ↓] Go.wp_at_zero Go.wp_at_succ
set_option linter.unusedVariables false
set_option linter.unusedSimpArgs false

set_option maxHeartbeats 800000 in
theorem fwithin_any (v l : Int) (w : World) (hl : 0 ≤ l ∧ l ≤ 1125899906842624) : Calls Tryz.prog 82 #[.int .i64 v, .int .i64 l] w fun e w' => e = .returned (.bool (decide (-l ≤ v ∧ v ≤ l))) ∧ w' = w := by
 obtain ⟨l1, l2⟩ := hl
 go_enter Tryz.func82, Tryz.ntmps82
 go_wp2
 all_goals (go_ret; refine ⟨ret_b (bool_of_iff ?_), rfl⟩; simp only [wOk, accOk, shOk, sideOk, valOk, decide_eq_true_eq, Bool.false_eq_true, false_iff, true_iff, Bool.and_eq_true, iff_false, iff_true] <;> omega)

set_option maxHeartbeats 800000 in
theorem fshift_any (a s : Int) (w : World) : Calls Tryz.prog 83 #[.int .i64 a, .int .i64 s] w fun e w' => e = .returned (.int .i64 (shV a s)) ∧ w' = w := by
 by_cases hA : -17592186044416 ≤ a ∧ a ≤ 17592186044416
 ·
  obtain ⟨a1, a2⟩ := hA; have eA : decide (-17592186044416 ≤ a ∧ a ≤ 17592186044416) = true := by simp; omega
  have EA := kq eA; by_cases hs : 0 ≤ s ∧ s ≤ 24
  ·
   obtain ⟨s1, s2⟩ := hs; have ES := kq (show decide (0 ≤ s ∧ s ≤ 24) = true by simp; omega); clear eA; by_cases h0 : s = 0
   ·
    subst h0; have HV := kq (shV_zero (a := a) (by omega)); rw [HV.o]; clear HV
    go_enter Tryz.func83, Tryz.ntmps83
    go_wp2_with (first | (go_at_call 82; refine (fwithin_any _ _ _ (by omega)).mono ?_; rintro e w' ⟨rfl, rfl⟩; rw [EA.o]))
    all_goals (go_ret; exact ⟨rfl, rfl⟩)
   obtain ⟨p1, p2, p3⟩ := sh_pow (s := s) (by omega) (by omega); obtain ⟨P, hP⟩ : ∃ P, (2 : Int) ^ (s - 1).toNat = P := ⟨_, rfl⟩; obtain ⟨Q, hQ⟩ : ∃ Q, (2 : Int) ^ s.toNat = Q := ⟨_, rfl⟩; rw [hP, hQ] at p3; rw [hP] at p1 p2; rw [shV_yes (by omega) hP hQ]; obtain ⟨p4, p5⟩ : Q ≤ 2 * P ∧ 2 * P ≤ Q := by omega
   clear p3; have hP' : (2 : Int) ^ (s.toNat - 1) = P := by rw [← hP]; congr 1; omega
   have n0 : (s == 0) = false := by simpa using h0
   have w1 : IntKind.i64.wrap P = P := IntWalk.i64_in _ (by omega); have w2 : IntKind.i64.wrap Q = Q := IntWalk.i64_in _ (by omega); have hs1 : 0 ≤ s - 1 := by omega
   have hs64 : s ≤ 64 := by omega
   go_enter Tryz.func83, Tryz.ntmps83
   go_wp2_with (first | (go_at_call 82; refine (fwithin_any _ _ _ (by omega)).mono ?_; rintro e w' ⟨rfl, rfl⟩; rw [EA.o]))
   all_goals (go_ret; exact ⟨rfl, rfl⟩)
  have ES := kq (show decide (0 ≤ s ∧ s ≤ 24) = false by simp; omega); rw [shV_no (by omega)]; clear eA
  go_enter Tryz.func83, Tryz.ntmps83
  go_wp2_with (first | (go_at_call 82; refine (fwithin_any _ _ _ (by omega)).mono ?_; rintro e w' ⟨rfl, rfl⟩; rw [EA.o]))
  all_goals first
   | (go_ret; exact ⟨rfl, rfl⟩)
   | (exfalso; omega)
 have EA := kq (show decide (-17592186044416 ≤ a ∧ a ≤ 17592186044416) = false by simp; omega); rw [shV_no (by omega)]
 go_enter Tryz.func83, Tryz.ntmps83
 go_wp2_with (first | (go_at_call 82; refine (fwithin_any _ _ _ (by omega)).mono ?_; rintro e w' ⟨rfl, rfl⟩; rw [EA.o]))
 all_goals first
  | (go_ret; exact ⟨rfl, rfl⟩)
  | (exfalso; omega)

set_option maxHeartbeats 800000 in
theorem fspan_any (lo hi s : Int) (w : World) : Calls Tryz.prog 61 #[.int .i64 lo, .int .i64 hi, .int .i64 s] w fun e w' => e = .returned (.tuple #[.int .i64 (shV lo s), .int .i64 (shV hi s)]) ∧ w' = w := by
 go_enter Tryz.func61, Tryz.ntmps61
 go_wp2_with (go_at_call 83; refine (fshift_any _ _ _).mono ?_; rintro e w' ⟨rfl, rfl⟩)
 go_ret2
 exact ⟨rfl, rfl⟩

set_option maxRecDepth 100000 in
set_option maxHeartbeats 1600000 in
theorem fweights_any (a : Option Addr) (n c : Nat) (zs : List Int) (W : World) (hs : Slc W a n c zs) : Calls Tryz.prog 59 #[.slice a n c] W fun e w' => e = .returned (.int .i64 (wCode zs)) ∧ Below W.heap.size W w' := by
 obtain ⟨B, hB⟩ : ∃ B, W.heap.size = B := ⟨_, rfl⟩; have HI0 := kq (St.init hB); have HS := kq hs; have HL := kq hs.len; have nmx : (n : Int) ≤ 9223372036854775807 := by have := hs.nc; have := hs.cap; omega
 clear hs
 go_enter Tryz.func59, Tryz.ntmps59
 rcases eqZ n 0 with ⟨c1a, c1b, c1c, c1d, c1h⟩ | ⟨c1a, c1b, c1h⟩
 ·
  go_wp2_with fail
  go_ret
  exact ⟨ret_i (by unfold wCode; rw [if_pos (by have := HL.o; have := c1h.o; omega)]), HI0.o.bl⟩
 by_cases c2 : (81 : Int) < n
 ·
  go_wp2_with fail
  go_ret
  exact ⟨ret_i (by unfold wCode; rw [if_pos (by have := HL.o; have := c1h.o; omega)]), HI0.o.bl⟩
 go_wp2_with fail
 go_loopw [15] (fun i wr => ∃ j : Nat, j ≤ n ∧ i = .int .i64 j ∧ (∀ i, i < j → wOk (zs.getD i 0) = true) ∧ St B W [] [] wr) (fun i _ => n - (intOf i).toNat)
 case atStart => exact ⟨0, by omega, rfl, fun i hi => by omega, HI0.o⟩
 case round =>
  obtain ⟨j, hj, rfl, ha, hst⟩ := hrel; obtain ⟨u3, rfl⟩ : ∃ u3 : World, u3 = wr := ⟨_, rfl⟩; have H4 := kq hst; clear hst; have HA := kq ha; clear ha; by_cases hjn : j < n
  ·
   have hjn' : (j : Int) < n := by omega
   obtain ⟨pb, po, hpa⟩ := row_at (H4.o.old HS.o).row (by omega); have cz := row_cell (by rw [← hpa]; exact (H4.o.old HS.o).row) (j := j) hjn; obtain ⟨z, hz⟩ := nK (zs.getD j 0); rw [hz] at cz; have HZ := kq hz; clear hz; subst hpa; go_wp2_with fail
   refine (fwithin_any _ _ _ (by omega)).mono ?_; rintro e w5 ⟨rfl, hsw⟩; have hsw2 : u3 = w5 := by first | exact hsw | exact hsw.symm
   clear hsw; subst hsw2; rw [show decide (-32767 ≤ z ∧ z ≤ 32767) = wOk z from rfl]; obtain ⟨b6, HNb6⟩ := nQ (wOk z); rw [HNb6.o]; cases b6; rotate_left
   ·
    go_wp2_with fail
    go_roundw
    case rel => exact ⟨j + 1, by omega, by go_num, fun i hi => by rcases Nat.lt_or_ge i j with h' | h'; exact HA.o i h'; rw [show i = j by omega, HZ.o]; exact HNb6.o, H4.o⟩
    case measure => first | (simp [intOf]; omega) | (simp [intOf]; done)
   go_wp2_with fail
   go_ret
   exact ⟨ret_i (by unfold wCode; rw [if_neg (by have := HL.o; have := c1h.o; omega), if_neg (by rw [wAll_bad (i := j) (by rw [HL.o]; exact hjn) (by rw [HZ.o]; exact HNb6.o)]; simp)]), H4.o.bl⟩
  have hjn' : ¬ ((j : Int) < n) := by omega
  go_wp2_with fail
  go_ret
  exact ⟨ret_i (by unfold wCode; rw [if_neg (by have := HL.o; have := c1h.o; omega), if_pos (by unfold wAll; rw [List.all_eq_true]; intro x hx; obtain ⟨i, hi, rfl⟩ := mem_getD' hx; exact HA.o i (by rw [HL.o] at hi; omega))]), H4.o.bl⟩

set_option maxRecDepth 100000 in
set_option maxHeartbeats 3200000 in
theorem fbounds_any (a : Option Addr) (n c : Nat) (zs : List Int) (lo hi : Int) (W : World) (hs : Slc W a n c zs) : Calls Tryz.prog 60 #[.slice a n c, .int .i64 lo, .int .i64 hi] W fun e w' => e = .returned (.tuple #[.int .i64 (bdLo zs lo hi), .int .i64 (bdHi zs lo hi), .bool (bdOk zs lo hi)]) ∧ Below W.heap.size W w' := by
 obtain ⟨B, hB⟩ : ∃ B, W.heap.size = B := ⟨_, rfl⟩; have HI0 := kq (St.init hB); have HS := kq hs; have HL := kq hs.len; have nmx : (n : Int) ≤ 9223372036854775807 := by have := hs.nc; have := hs.cap; omega
 clear hs
 go_enter Tryz.func60, Tryz.ntmps60
 go_wp2_with fail
 refine (fweights_any _ _ _ _ _ (HI0.o.old HS.o)).mono ?_; rintro e w7 ⟨rfl, hb⟩; have H8 := kq (HI0.o.call hb); clear hb; obtain ⟨k9, HNk9⟩ := nQ (wCode zs); rw [HNk9.o]
 rcases eqZ k9 0 with ⟨c1a, c1b, c1c, c1d, c1h⟩ | ⟨c1a, c1b, c1h⟩
 ·
  by_cases c2 : (hi : Int) < lo
  ·
   go_wp2_with fail
   have HOK := kq (show bdOk zs lo hi = false from by unfold bdOk; rw [show bArg zs lo hi = false from by rw [← Bool.not_eq_true, bArg_iff, HNk9.o]; first | (have := c1h.o; omega) | (have := c1h.o; have q := of_decide_eq_false HNk9.o; omega)]; rfl)
   go_ret3
   exact ⟨by rw [(bdOk_no HOK.o).1, (bdOk_no HOK.o).2, HOK.o]; first | done | rfl, H8.o.bl⟩
  go_wp2_with fail
  refine (fwithin_any _ _ _ (by omega)).mono ?_; rintro e w1 ⟨rfl, hsw⟩; have hsw2 : w7 = w1 := by first | exact hsw | exact hsw.symm
  clear hsw; subst hsw2; obtain ⟨b1, HNb1⟩ := nQ (decide (-68719476736 ≤ lo ∧ lo ≤ 68719476736)); rw [HNb1.o]; cases b1; rotate_left
  ·
   go_wp2_with fail
   refine (fwithin_any _ _ _ (by omega)).mono ?_; rintro e w1 ⟨rfl, hsw⟩; have hsw2 : w7 = w1 := by first | exact hsw | exact hsw.symm
   clear hsw; subst hsw2; obtain ⟨b1, HNb2⟩ := nQ (decide (-68719476736 ≤ hi ∧ hi ≤ 68719476736)); rw [HNb2.o]; cases b1; rotate_left
   ·
    go_wp2_with fail
    have HARG := kq (show bArg zs lo hi = true from bArg_iff.2 (by rw [HNk9.o]; have q0 := of_decide_eq_true HNb1.o; have q1 := of_decide_eq_true HNb2.o; omega)); obtain ⟨hlo1, hlo2⟩ : -68719476736 ≤ lo ∧ lo ≤ 68719476736 := by have := bArg_iff.1 HARG.o; omega
    obtain ⟨hhi1, hhi2⟩ : -68719476736 ≤ hi ∧ hi ≤ 68719476736 := by have := bArg_iff.1 HARG.o; omega
    go_loopw [33, 9, 10] (fun i p q wr => ∃ j : Nat, j ≤ n ∧ i = .int .i64 j ∧ p = .int .i64 (bLo zs lo hi j) ∧ q = .int .i64 (bHi zs lo hi j) ∧ St B W [] [] wr) (fun i _ _ _ => n - (intOf i).toNat)
    case atStart => exact ⟨0, by omega, rfl, rfl, rfl, H8.o⟩
    case round =>
     obtain ⟨j, hj, rfl, rfl, rfl, hst⟩ := hrel; obtain ⟨u16, rfl⟩ : ∃ u16 : World, u16 = wr := ⟨_, rfl⟩; have H1 := kq hst; clear hst; obtain ⟨lb1, lb2, gb1, gb2⟩ := b_bd HARG.o (n := j) (by rw [HL.o]; exact hj); obtain ⟨L0, hL0⟩ := nK (bLo zs lo hi j); obtain ⟨G0, hG0⟩ := nK (bHi zs lo hi j); rw [hL0] at lb1 lb2 ⊢; rw [hG0] at gb1 gb2 ⊢; have HL0 := kq hL0; have HG0 := kq hG0; clear hL0 hG0; by_cases hjn : j < n
     ·
      have hjn' : (j : Int) < n := by omega
      obtain ⟨pb, po, hpa⟩ := row_at (H1.o.old HS.o).row (by omega); have cz := row_cell (by rw [← hpa]; exact (H1.o.old HS.o).row) (j := j) hjn; obtain ⟨z, hz⟩ := nK (zs.getD j 0); rw [hz] at cz; have HZ := kq hz; clear hz; subst hpa; have hzw : -32767 ≤ z ∧ z ≤ 32767 := by rw [← HZ.o]; exact wAll_iff.1 (wCode_zero.1 (bArg_iff.1 HARG.o).1).2.2 j (by rw [HL.o]; exact hjn)
      obtain ⟨u1, u2⟩ := wmul_bd hzw ⟨hlo1, hlo2⟩; obtain ⟨v1, v2⟩ := wmul_bd hzw ⟨hhi1, hhi2⟩; have HLN0 := kq (show bLo zs lo hi (j + 1) = L0 + mnI (z * lo) (z * hi) from by rw [← HL0.o, ← HZ.o]; rfl); have HGN0 := kq (show bHi zs lo hi (j + 1) = G0 + mxI (z * lo) (z * hi) from by rw [← HG0.o, ← HZ.o]; rfl); obtain ⟨X, hX⟩ := nK (z * lo); obtain ⟨Y, hY⟩ := nK (z * hi); rw [hX] at u1 u2 HLN0 HGN0; rw [hY] at v1 v2 HLN0 HGN0; obtain ⟨mn, hmn⟩ := nK (if Y < X then Y else X); obtain ⟨mx, hmx⟩ := nK (if X < Y then Y else X); have mnb : -2251799813685248 ≤ mn ∧ mn ≤ 2251799813685248 := by rw [← hmn]; split <;> omega
      have mxb : -2251799813685248 ≤ mx ∧ mx ≤ 2251799813685248 := by rw [← hmx]; split <;> omega
      obtain ⟨mn1, mn2⟩ := mnb; obtain ⟨mx1, mx2⟩ := mxb; have HLN := kq (show bLo zs lo hi (j + 1) = L0 + mn from by rw [HLN0.o, ← hmn]; rfl); have HGN := kq (show bHi zs lo hi (j + 1) = G0 + mx from by rw [HGN0.o, ← hmx]; rfl); have wx : IntKind.i64.wrap X = X := IntWalk.i64_in _ (by omega); have wy : IntKind.i64.wrap Y = Y := IntWalk.i64_in _ (by omega); clear hzw; go_wp2_with fail
      go_roundw
      case rel => exact ⟨j + 1, by omega, by go_num, by rw [HLN.o], by rw [HGN.o], H1.o⟩
      case measure => first | (simp [intOf]; omega) | (simp [intOf]; done)
     have hjn' : ¬ ((j : Int) < n) := by omega
     have HJN := kq (show j = n by omega); have HE1 := kq (show bLo zs lo hi zs.length = L0 from by rw [HL.o, ← HJN.o]; exact HL0.o); have HE2 := kq (show bHi zs lo hi zs.length = G0 from by rw [HL.o, ← HJN.o]; exact HG0.o); go_wp2_with fail
     refine (fwithin_any _ _ _ (by omega)).mono ?_; rintro e w1 ⟨rfl, hsw⟩; have hsw2 : u16 = w1 := by first | exact hsw | exact hsw.symm
     clear hsw; subst hsw2; obtain ⟨b1, HNb3⟩ := nQ (decide (-17592186044416 ≤ L0 ∧ L0 ≤ 17592186044416)); rw [HNb3.o]; cases b1; rotate_left
     ·
      go_wp2_with fail
      refine (fwithin_any _ _ _ (by omega)).mono ?_; rintro e w1 ⟨rfl, hsw⟩; have hsw2 : u16 = w1 := by first | exact hsw | exact hsw.symm
      clear hsw; subst hsw2; obtain ⟨b1, HNb4⟩ := nQ (decide (-17592186044416 ≤ G0 ∧ G0 ≤ 17592186044416)); rw [HNb4.o]; cases b1; rotate_left
      ·
       go_wp2_with fail
       have HOK := kq (show bdOk zs lo hi = true from by unfold bdOk; rw [HARG.o, HE1.o, HE2.o, show accOk L0 = true from HNb3.o, show accOk G0 = true from HNb4.o]; rfl)
       go_ret3
       exact ⟨by rw [(bdOk_yes HOK.o).1, (bdOk_yes HOK.o).2, HOK.o, HE1.o, HE2.o]; first | done | rfl, H1.o.bl⟩
      go_wp2_with fail
      have HOK := kq (show bdOk zs lo hi = false from by unfold bdOk; rw [HE1.o, HE2.o, show accOk G0 = false from HNb4.o]; simp)
      go_ret3
      exact ⟨by rw [(bdOk_no HOK.o).1, (bdOk_no HOK.o).2, HOK.o]; first | done | rfl, H1.o.bl⟩
     go_wp2_with fail
     have HOK := kq (show bdOk zs lo hi = false from by unfold bdOk; rw [HE1.o, HE2.o, show accOk L0 = false from HNb3.o]; simp)
     go_ret3
     exact ⟨by rw [(bdOk_no HOK.o).1, (bdOk_no HOK.o).2, HOK.o]; first | done | rfl, H1.o.bl⟩
   go_wp2_with fail
   have HOK := kq (show bdOk zs lo hi = false from by unfold bdOk; rw [show bArg zs lo hi = false from by rw [← Bool.not_eq_true, bArg_iff, HNk9.o]; first | (have := c1h.o; omega) | (have := c1h.o; have q := of_decide_eq_false HNb2.o; omega)]; rfl)
   go_ret3
   exact ⟨by rw [(bdOk_no HOK.o).1, (bdOk_no HOK.o).2, HOK.o]; first | done | rfl, H8.o.bl⟩
  go_wp2_with fail
  have HOK := kq (show bdOk zs lo hi = false from by unfold bdOk; rw [show bArg zs lo hi = false from by rw [← Bool.not_eq_true, bArg_iff, HNk9.o]; first | (have := c1h.o; omega) | (have := c1h.o; have q := of_decide_eq_false HNb1.o; omega)]; rfl)
  go_ret3
  exact ⟨by rw [(bdOk_no HOK.o).1, (bdOk_no HOK.o).2, HOK.o]; first | done | rfl, H8.o.bl⟩
 go_wp2_with fail
 have HOK := kq (show bdOk zs lo hi = false from by unfold bdOk; rw [show bArg zs lo hi = false from by rw [← Bool.not_eq_true, bArg_iff, HNk9.o]; first | (have := c1h.o; omega) | (have := c1h.o; have q := of_decide_eq_false HNk9.o; omega)]; rfl)
 go_ret3
 exact ⟨by rw [(bdOk_no HOK.o).1, (bdOk_no HOK.o).2, HOK.o]; first | done | rfl, H8.o.bl⟩
end

section
open Go.RowKit
attribute [local go_sem ↓] Go.wp_at_zero Go.wp_at_succ
set_option linter.unusedVariables false
set_option linter.unusedSimpArgs false

set_option maxHeartbeats 800000 in
theorem racc_any (v : Int) (w : World) : Calls Tryz.prog 101 #[.int .i64 v] w fun e w' => e = .returned (.bool (accOk v)) ∧ w' = w := by
 go_enter Tryz.func101, Tryz.ntmps101
 go_wp2
 all_goals (go_ret; refine ⟨ret_b (bool_of_iff ?_), rfl⟩; simp only [wOk, accOk, shOk, sideOk, valOk, decide_eq_true_eq, Bool.false_eq_true, false_iff, true_iff, Bool.and_eq_true, iff_false, iff_true] <;> omega)

set_option maxHeartbeats 800000 in
theorem rshok_any (v : Int) (w : World) : Calls Tryz.prog 90 #[.int .i64 v] w fun e w' => e = .returned (.bool (shOk v)) ∧ w' = w := by
 go_enter Tryz.func90, Tryz.ntmps90
 go_wp2
 all_goals (go_ret; refine ⟨ret_b (bool_of_iff ?_), rfl⟩; simp only [wOk, accOk, shOk, sideOk, valOk, decide_eq_true_eq, Bool.false_eq_true, false_iff, true_iff, Bool.and_eq_true, iff_false, iff_true] <;> omega)

set_option maxHeartbeats 800000 in
theorem rwok_any (v : Int) (w : World) : Calls Tryz.prog 107 #[.int .i64 v] w fun e w' => e = .returned (.bool (wOk v)) ∧ w' = w := by
 go_enter Tryz.func107, Tryz.ntmps107
 go_wp2
 all_goals (go_ret; refine ⟨ret_b (bool_of_iff ?_), rfl⟩; simp only [wOk, accOk, shOk, sideOk, valOk, decide_eq_true_eq, Bool.false_eq_true, false_iff, true_iff, Bool.and_eq_true, iff_false, iff_true] <;> omega)

set_option maxHeartbeats 800000 in
theorem rshift_any (a s : Int) (w : World) : Calls Tryz.prog 78 #[.int .i64 a, .int .i64 s] w fun e w' => e = .returned (.int .i64 (shV a s)) ∧ w' = w := by
  by_cases hA : -17592186044416 ≤ a ∧ a ≤ 17592186044416
  · obtain ⟨a1, a2⟩ := hA
    have eA : decide (-17592186044416 ≤ a ∧ a ≤ 17592186044416) = true := by simp; omega
    have EA := kq eA; by_cases hs : 0 ≤ s ∧ s ≤ 24
    · obtain ⟨s1, s2⟩ := hs
      have ES := kq (show decide (0 ≤ s ∧ s ≤ 24) = true by simp; omega); clear eA; by_cases h0 : s = 0
      · subst h0
        have HV := kq (shV_zero (a := a) (by omega)); rw [HV.o]; clear HV
        go_enter Tryz.func78, Tryz.ntmps78
        go_wp2_with (first | (go_at_call 101; refine (racc_any _ _).mono ?_; rintro e w' ⟨rfl, rfl⟩; rw [show accOk a = _ from EA.o]) | (go_at_call 90; refine (rshok_any _ _).mono ?_; rintro e w' ⟨rfl, rfl⟩; rw [show shOk _ = _ from ES.o]))
        all_goals (go_ret; exact ⟨rfl, rfl⟩)
      · obtain ⟨p1, p2, p3⟩ := sh_pow (s := s) (by omega) (by omega)
        obtain ⟨P, hP⟩ : ∃ P, (2 : Int) ^ (s - 1).toNat = P := ⟨_, rfl⟩; obtain ⟨Q, hQ⟩ : ∃ Q, (2 : Int) ^ s.toNat = Q := ⟨_, rfl⟩; rw [hP, hQ] at p3; rw [hP] at p1 p2; rw [shV_yes (by omega) hP hQ]; obtain ⟨p4, p5⟩ : Q ≤ 2 * P ∧ 2 * P ≤ Q := by omega
        clear p3; have hP' : (2 : Int) ^ (s.toNat - 1) = P := by rw [← hP]; congr 1; omega
        have n0 : (s == 0) = false := by simpa using h0
        have w1 : IntKind.i64.wrap P = P := IntWalk.i64_in _ (by omega); have w2 : IntKind.i64.wrap Q = Q := IntWalk.i64_in _ (by omega); have hs1 : 0 ≤ s - 1 := by omega
        have hs64 : s ≤ 64 := by omega
        have w3 : IntKind.u64.wrap (s - 1) = s - 1 := IntWalk.u64_in _ (by omega); have w4 : IntKind.u64.wrap s = s := IntWalk.u64_in _ (by omega); have q0 : ¬ (Q = 0) := by omega
        obtain ⟨N, hN⟩ : ∃ N, a + P = N := ⟨_, rfl⟩; have w5 : IntKind.i64.wrap N = N := IntWalk.i64_in _ (by omega); obtain ⟨d, hd⟩ : ∃ d, N.tdiv Q = d := ⟨_, rfl⟩; obtain ⟨r, hr⟩ : ∃ r, N.tmod Q = r := ⟨_, rfl⟩; have e1 : Q * d + r = N := by rw [← hd, ← hr]; exact Int.mul_tdiv_add_tmod N Q
        obtain ⟨D, hD⟩ := nK (d * Q); have e2 : Q * d = D := by rw [← hD, Int.mul_comm]
        have r1 : -Q < r := by rw [← hr]; exact Int.lt_tmod_of_pos N (by omega)
        have r2 : r < Q := by rw [← hr]; exact Int.tmod_lt_of_pos N (by omega)
        have r3 : 0 ≤ N → 0 ≤ r := fun h => by rw [← hr]; exact Int.tmod_nonneg Q h
        have r4 : N < 0 → r ≤ 0 := fun h => by
          have := Int.tmod_nonneg (a := -N) Q (by omega); rw [Int.neg_tmod, hr] at this; omega
        have HQ : Kq (N / Q = if N < D then d - 1 else d) := by
          show N / Q = _
          split
          · exact Int.ediv_eq_iff_of_pos (by omega) |>.2 (by have h9 : (d - 1) * Q = D - Q := by rw [Int.sub_mul, Int.one_mul, hD]
                                                             omega)
          · exact Int.ediv_eq_iff_of_pos (by omega) |>.2 (by omega)
        have db : -9223372036854775808 ≤ d - 1 ∧ d ≤ 9223372036854775807 := by
          have h5 : d.natAbs ≤ N.natAbs := by rw [← hd]; exact Int.natAbs_tdiv_le_natAbs N Q
          omega
        obtain ⟨d1, d2⟩ := db; have w6 : IntKind.i64.wrap d = d := IntWalk.i64_in _ (by omega); have w7 : IntKind.i64.wrap D = D := IntWalk.i64_in _ (by omega); have w8 : IntKind.i64.wrap (d - 1) = d - 1 := IntWalk.i64_in _ (by omega); rw [hN, HQ.o]; by_cases hlt : N < D
        · rw [if_pos hlt]
          clear HQ e1 e2 r1 r2 r3 r4 hr
          go_enter Tryz.func78, Tryz.ntmps78
          go_wp2_with (first | (go_at_call 101; refine (racc_any _ _).mono ?_; rintro e w' ⟨rfl, rfl⟩; rw [show accOk a = _ from EA.o]) | (go_at_call 90; refine (rshok_any _ _).mono ?_; rintro e w' ⟨rfl, rfl⟩; rw [show shOk _ = _ from ES.o]))
          all_goals (go_ret; exact ⟨rfl, rfl⟩)
        · rw [if_neg hlt]
          clear HQ e1 e2 r1 r2 r3 r4 hr
          go_enter Tryz.func78, Tryz.ntmps78
          go_wp2_with (first | (go_at_call 101; refine (racc_any _ _).mono ?_; rintro e w' ⟨rfl, rfl⟩; rw [show accOk a = _ from EA.o]) | (go_at_call 90; refine (rshok_any _ _).mono ?_; rintro e w' ⟨rfl, rfl⟩; rw [show shOk _ = _ from ES.o]))
          all_goals (go_ret; exact ⟨rfl, rfl⟩)
    · have ES := kq (show decide (0 ≤ s ∧ s ≤ 24) = false by simp; omega)
      rw [shV_no (by omega)]; clear eA
      go_enter Tryz.func78, Tryz.ntmps78
      go_wp2_with (first | (go_at_call 101; refine (racc_any _ _).mono ?_; rintro e w' ⟨rfl, rfl⟩; rw [show accOk a = _ from EA.o]) | (go_at_call 90; refine (rshok_any _ _).mono ?_; rintro e w' ⟨rfl, rfl⟩; rw [show shOk _ = _ from ES.o]))
      all_goals first
        | (go_ret; exact ⟨rfl, rfl⟩)
        | (exfalso; omega)
  · have EA := kq (show decide (-17592186044416 ≤ a ∧ a ≤ 17592186044416) = false by simp; omega)
    rw [shV_no (by omega)]
    go_enter Tryz.func78, Tryz.ntmps78
    go_wp2_with (first | (go_at_call 101; refine (racc_any _ _).mono ?_; rintro e w' ⟨rfl, rfl⟩; rw [show accOk a = _ from EA.o]) | (go_at_call 90; refine (rshok_any _ _).mono ?_; rintro e w' ⟨rfl, rfl⟩; rw [show shOk _ = _ from ES.o]))
    all_goals first
      | (go_ret; exact ⟨rfl, rfl⟩)
      | (exfalso; omega)

set_option maxHeartbeats 800000 in
theorem rclamp_any (v m : Int) (w : World) : Calls Tryz.prog 77 #[.int .i64 v, .int .i64 m] w fun e w' => e = .returned (.int .i64 (clV v m)) ∧ w' = w := by
 go_enter Tryz.func77, Tryz.ntmps77
 go_wp2
 all_goals (go_ret; refine ⟨ret_i ?_, rfl⟩; unfold clV; (repeat' split); all_goals omega)

set_option maxHeartbeats 800000 in
theorem rspan_any (lo hi s : Int) (w : World) : Calls Tryz.prog 93 #[.int .i64 lo, .int .i64 hi, .int .i64 s] w fun e w' => e = .returned (.tuple #[.int .i64 (shV lo s), .int .i64 (shV hi s)]) ∧ w' = w := by
 go_enter Tryz.func93, Tryz.ntmps93
 go_wp2_with (go_at_call 78; refine (rshift_any _ _ _).mono ?_; rintro e w' ⟨rfl, rfl⟩)
 go_ret2
 exact ⟨rfl, rfl⟩

set_option maxRecDepth 100000 in
set_option maxHeartbeats 1600000 in
theorem rareweights_any (a : Option Addr) (n c : Nat) (zs : List Int) (W : World) (hs : Slc W a n c zs) : Calls Tryz.prog 89 #[.slice a n c] W fun e w' => e = .returned (.bool (wAll zs)) ∧ Below W.heap.size W w' := by
 obtain ⟨B, hB⟩ : ∃ B, W.heap.size = B := ⟨_, rfl⟩; have HI0 := kq (St.init hB); have HS := kq hs; have HL := kq hs.len; have nmx : (n : Int) ≤ 9223372036854775807 := by have := hs.nc; have := hs.cap; omega
 clear hs
 go_enter Tryz.func89, Tryz.ntmps89
 go_wp2_with fail
 go_loopw [3] (fun i wr => ∃ j : Nat, j ≤ n ∧ i = .int .i64 j ∧ (∀ i, i < j → wOk (zs.getD i 0) = true) ∧ St B W [] [] wr) (fun i _ => n - (intOf i).toNat)
 case atStart => exact ⟨0, by omega, rfl, fun i hi => by omega, HI0.o⟩
 case round =>
  obtain ⟨j, hj, rfl, ha, hst⟩ := hrel; obtain ⟨u1, rfl⟩ : ∃ u1 : World, u1 = wr := ⟨_, rfl⟩; have H1 := kq hst; clear hst; have HA := kq ha; clear ha; by_cases hjn : j < n
  ·
   have hjn' : (j : Int) < n := by omega
   obtain ⟨pb, po, hpa⟩ := row_at (H1.o.old HS.o).row (by omega); have cz := row_cell (by rw [← hpa]; exact (H1.o.old HS.o).row) (j := j) hjn; obtain ⟨z, hz⟩ := nK (zs.getD j 0); rw [hz] at cz; have HZ := kq hz; clear hz; subst hpa; go_wp2_with fail
   refine (rwok_any _ _).mono ?_; rintro e w1 ⟨rfl, hsw⟩; have hsw2 : u1 = w1 := by first | exact hsw | exact hsw.symm
   clear hsw; subst hsw2; obtain ⟨b1, HNb1⟩ := nQ (wOk z); rw [HNb1.o]; cases b1; rotate_left
   ·
    go_wp2_with fail
    go_roundw
    case rel => exact ⟨j + 1, by omega, by go_num, fun i hi => by rcases Nat.lt_or_ge i j with h' | h'; exact HA.o i h'; rw [show i = j by omega, HZ.o]; exact HNb1.o, H1.o⟩
    case measure => first | (simp [intOf]; omega) | (simp [intOf]; done)
   go_wp2_with fail
   go_ret
   exact ⟨ret_b (by rw [wAll_bad (i := j) (by rw [HL.o]; exact hjn) (by rw [HZ.o]; exact HNb1.o)]), H1.o.bl⟩
  have hjn' : ¬ ((j : Int) < n) := by omega
  go_wp2_with fail
  go_ret
  exact ⟨ret_b (by symm; unfold wAll; rw [List.all_eq_true]; intro x hx; obtain ⟨i, hi, rfl⟩ := mem_getD' hx; exact HA.o i (by rw [HL.o] at hi; omega)), H1.o.bl⟩

set_option maxRecDepth 100000 in
set_option maxHeartbeats 1600000 in
theorem rweights_any (a : Option Addr) (n c : Nat) (zs : List Int) (W : World) (hs : Slc W a n c zs) : Calls Tryz.prog 108 #[.slice a n c] W fun e w' => e = .returned (.int .i64 (wCode zs)) ∧ Below W.heap.size W w' := by
 obtain ⟨B, hB⟩ : ∃ B, W.heap.size = B := ⟨_, rfl⟩; have HI0 := kq (St.init hB); have HS := kq hs; have HL := kq hs.len; have nmx : (n : Int) ≤ 9223372036854775807 := by have := hs.nc; have := hs.cap; omega
 clear hs
 go_enter Tryz.func108, Tryz.ntmps108
 rcases eqZ n 0 with ⟨c1a, c1b, c1c, c1d, c1h⟩ | ⟨c1a, c1b, c1h⟩
 ·
  go_wp2_with fail
  go_ret
  exact ⟨ret_i (by unfold wCode; rw [if_pos (by have := HL.o; have := c1h.o; omega)]), HI0.o.bl⟩
 by_cases c2 : (81 : Int) < n
 ·
  go_wp2_with fail
  go_ret
  exact ⟨ret_i (by unfold wCode; rw [if_pos (by have := HL.o; have := c1h.o; omega)]), HI0.o.bl⟩
 go_wp2_with fail
 refine (rareweights_any _ _ _ _ _ (HI0.o.old HS.o)).mono ?_; rintro e w1 ⟨rfl, hb⟩; have H1 := kq (HI0.o.call hb); clear hb; obtain ⟨b1, HNb1⟩ := nQ (wAll zs); rw [HNb1.o]; cases b1; rotate_left
 ·
  go_wp2_with fail
  go_ret
  exact ⟨ret_i (by unfold wCode; rw [if_neg (by have := HL.o; have := c1h.o; omega), if_pos HNb1.o]), H1.o.bl⟩
 go_wp2_with fail
 go_ret
 exact ⟨ret_i (by unfold wCode; rw [if_neg (by have := HL.o; have := c1h.o; omega), if_neg (by rw [HNb1.o]; simp)]), H1.o.bl⟩

set_option maxRecDepth 100000 in
set_option maxHeartbeats 3200000 in
theorem rbounds_any (a : Option Addr) (n c : Nat) (zs : List Int) (lo hi : Int) (W : World) (hs : Slc W a n c zs) : Calls Tryz.prog 92 #[.slice a n c, .int .i64 lo, .int .i64 hi] W fun e w' => e = .returned (.tuple #[.int .i64 (bdLo zs lo hi), .int .i64 (bdHi zs lo hi), .bool (bdOk zs lo hi)]) ∧ Below W.heap.size W w' := by
 obtain ⟨B, hB⟩ : ∃ B, W.heap.size = B := ⟨_, rfl⟩; have HI0 := kq (St.init hB); have HS := kq hs; have HL := kq hs.len; have nmx : (n : Int) ≤ 9223372036854775807 := by have := hs.nc; have := hs.cap; omega
 clear hs
 go_enter Tryz.func92, Tryz.ntmps92
 go_wp2_with fail
 refine (rweights_any _ _ _ _ _ (HI0.o.old HS.o)).mono ?_; rintro e w1 ⟨rfl, hb⟩; have H32 := kq (HI0.o.call hb); clear hb; obtain ⟨k1, HNk1⟩ := nQ (wCode zs); rw [HNk1.o]
 rcases eqZ k1 0 with ⟨c1a, c1b, c1c, c1d, c1h⟩ | ⟨c1a, c1b, c1h⟩
 ·
  by_cases c2 : (hi : Int) < lo
  ·
   go_wp2_with fail
   have HOK := kq (show bdOk zs lo hi = false from by unfold bdOk; rw [show bArg zs lo hi = false from by rw [← Bool.not_eq_true, bArg_iff, HNk1.o]; first | (have := c1h.o; omega) | (have := c1h.o; have q := of_decide_eq_false HNk1.o; omega)]; rfl)
   go_ret3
   exact ⟨by rw [(bdOk_no HOK.o).1, (bdOk_no HOK.o).2, HOK.o]; first | done | rfl, H32.o.bl⟩
  by_cases c2 : (lo : Int) < (-68719476736)
  ·
   go_wp2_with fail
   have HOK := kq (show bdOk zs lo hi = false from by unfold bdOk; rw [show bArg zs lo hi = false from by rw [← Bool.not_eq_true, bArg_iff, HNk1.o]; first | (have := c1h.o; omega) | (have := c1h.o; have q := of_decide_eq_false HNk1.o; omega)]; rfl)
   go_ret3
   exact ⟨by rw [(bdOk_no HOK.o).1, (bdOk_no HOK.o).2, HOK.o]; first | done | rfl, H32.o.bl⟩
  by_cases c2 : (68719476736 : Int) < hi
  ·
   go_wp2_with fail
   have HOK := kq (show bdOk zs lo hi = false from by unfold bdOk; rw [show bArg zs lo hi = false from by rw [← Bool.not_eq_true, bArg_iff, HNk1.o]; first | (have := c1h.o; omega) | (have := c1h.o; have q := of_decide_eq_false HNk1.o; omega)]; rfl)
   go_ret3
   exact ⟨by rw [(bdOk_no HOK.o).1, (bdOk_no HOK.o).2, HOK.o]; first | done | rfl, H32.o.bl⟩
  go_wp2_with fail
  have HARG := kq (show bArg zs lo hi = true from bArg_iff.2 (by rw [HNk1.o]; omega)); obtain ⟨hlo1, hlo2⟩ : -68719476736 ≤ lo ∧ lo ≤ 68719476736 := by have := bArg_iff.1 HARG.o; omega
  obtain ⟨hhi1, hhi2⟩ : -68719476736 ≤ hi ∧ hi ≤ 68719476736 := by have := bArg_iff.1 HARG.o; omega
  go_loopw [11, 9, 10] (fun i p q wr => ∃ j : Nat, j ≤ n ∧ i = .int .i64 j ∧ p = .int .i64 (bLo zs lo hi j) ∧ q = .int .i64 (bHi zs lo hi j) ∧ St B W [] [] wr) (fun i _ _ _ => n - (intOf i).toNat)
  case atStart => exact ⟨0, by omega, rfl, rfl, rfl, H32.o⟩
  case round =>
   obtain ⟨j, hj, rfl, rfl, rfl, hst⟩ := hrel; obtain ⟨u3, rfl⟩ : ∃ u3 : World, u3 = wr := ⟨_, rfl⟩; have H1 := kq hst; clear hst; obtain ⟨lb1, lb2, gb1, gb2⟩ := b_bd HARG.o (n := j) (by rw [HL.o]; exact hj); obtain ⟨L0, hL0⟩ := nK (bLo zs lo hi j); obtain ⟨G0, hG0⟩ := nK (bHi zs lo hi j); rw [hL0] at lb1 lb2 ⊢; rw [hG0] at gb1 gb2 ⊢; have HL0 := kq hL0; have HG0 := kq hG0; clear hL0 hG0; by_cases hjn : j < n
   ·
    have hjn' : (j : Int) < n := by omega
    obtain ⟨pb, po, hpa⟩ := row_at (H1.o.old HS.o).row (by omega); have cz := row_cell (by rw [← hpa]; exact (H1.o.old HS.o).row) (j := j) hjn; obtain ⟨z, hz⟩ := nK (zs.getD j 0); rw [hz] at cz; have HZ := kq hz; clear hz; subst hpa; have hzw : -32767 ≤ z ∧ z ≤ 32767 := by rw [← HZ.o]; exact wAll_iff.1 (wCode_zero.1 (bArg_iff.1 HARG.o).1).2.2 j (by rw [HL.o]; exact hjn)
    obtain ⟨u1, u2⟩ := wmul_bd hzw ⟨hlo1, hlo2⟩; obtain ⟨v1, v2⟩ := wmul_bd hzw ⟨hhi1, hhi2⟩; have HLN0 := kq (show bLo zs lo hi (j + 1) = L0 + mnI (z * lo) (z * hi) from by rw [← HL0.o, ← HZ.o]; rfl); have HGN0 := kq (show bHi zs lo hi (j + 1) = G0 + mxI (z * lo) (z * hi) from by rw [← HG0.o, ← HZ.o]; rfl); obtain ⟨X, hX⟩ := nK (z * lo); obtain ⟨Y, hY⟩ := nK (z * hi); rw [hX] at u1 u2 HLN0 HGN0; rw [hY] at v1 v2 HLN0 HGN0; obtain ⟨mn, hmn⟩ := nK (if Y < X then Y else X); obtain ⟨mx, hmx⟩ := nK (if X < Y then Y else X); have mnb : -2251799813685248 ≤ mn ∧ mn ≤ 2251799813685248 := by rw [← hmn]; split <;> omega
    have mxb : -2251799813685248 ≤ mx ∧ mx ≤ 2251799813685248 := by rw [← hmx]; split <;> omega
    obtain ⟨mn1, mn2⟩ := mnb; obtain ⟨mx1, mx2⟩ := mxb; have HLN := kq (show bLo zs lo hi (j + 1) = L0 + mn from by rw [HLN0.o, ← hmn]; rfl); have HGN := kq (show bHi zs lo hi (j + 1) = G0 + mx from by rw [HGN0.o, ← hmx]; rfl); have wx : IntKind.i64.wrap X = X := IntWalk.i64_in _ (by omega); have wy : IntKind.i64.wrap Y = Y := IntWalk.i64_in _ (by omega); clear hzw; go_upto_region 7 with fail
    have H2 := kq H1.o.drew; refine wp_region_held_drew (S := (fun w' => w'.cell? ⟨pb, po + j, none⟩ = some (.int .i64 z))) (by kernel_rfl) (by have := row_cell (H2.o.old HS.o).row hjn; rw [HZ.o] at this; exact this) (fun hHeld => ?_); generalize u3.drew = k1 at *; refine tk 0 ?_; refine tk 1 ?_; refine tk 2 ?_; refine tk 3 ?_; refine tk 4 ?_; refine tk 5 ?_; refine tk 6 ?_; refine tk 7 ?_; refine tk 8 ?_; refine tk 9 ?_; refine tk 10 ?_; refine tk 11 ?_; refine tk 12 ?_; refine tk 13 ?_; refine wpAnyH_done (by kernel_rfl) ?_ _; try clear hHeld
    go_wp2_with fail
    go_roundw
    case rel => exact ⟨j + 1, by omega, by go_num, by rw [HLN.o], by rw [HGN.o], H2.o⟩
    case measure => first | (simp [intOf]; omega) | (simp [intOf]; done)
   have hjn' : ¬ ((j : Int) < n) := by omega
   have HJN := kq (show j = n by omega); have HE1 := kq (show bLo zs lo hi zs.length = L0 from by rw [HL.o, ← HJN.o]; exact HL0.o); have HE2 := kq (show bHi zs lo hi zs.length = G0 from by rw [HL.o, ← HJN.o]; exact HG0.o); go_wp2_with fail
   refine (racc_any _ _).mono ?_; rintro e w1 ⟨rfl, hsw⟩; have hsw2 : u3 = w1 := by first | exact hsw | exact hsw.symm
   clear hsw; subst hsw2; obtain ⟨b1, HNb1⟩ := nQ (accOk L0); rw [HNb1.o]; cases b1; rotate_left
   ·
    go_wp2_with fail
    refine (racc_any _ _).mono ?_; rintro e w1 ⟨rfl, hsw⟩; have hsw2 : u3 = w1 := by first | exact hsw | exact hsw.symm
    clear hsw; subst hsw2; obtain ⟨b1, HNb2⟩ := nQ (accOk G0); rw [HNb2.o]; cases b1; rotate_left
    ·
     go_wp2_with fail
     have HOK := kq (show bdOk zs lo hi = true from by unfold bdOk; rw [HARG.o, HE1.o, HE2.o, show accOk L0 = true from HNb1.o, show accOk G0 = true from HNb2.o]; rfl)
     go_ret3
     exact ⟨by rw [(bdOk_yes HOK.o).1, (bdOk_yes HOK.o).2, HOK.o, HE1.o, HE2.o]; first | done | rfl, H1.o.bl⟩
    go_wp2_with fail
    have HOK := kq (show bdOk zs lo hi = false from by unfold bdOk; rw [HE1.o, HE2.o, show accOk G0 = false from HNb2.o]; simp)
    go_ret3
    exact ⟨by rw [(bdOk_no HOK.o).1, (bdOk_no HOK.o).2, HOK.o]; first | done | rfl, H1.o.bl⟩
   go_wp2_with fail
   have HOK := kq (show bdOk zs lo hi = false from by unfold bdOk; rw [HE1.o, HE2.o, show accOk L0 = false from HNb1.o]; simp)
   go_ret3
   exact ⟨by rw [(bdOk_no HOK.o).1, (bdOk_no HOK.o).2, HOK.o]; first | done | rfl, H1.o.bl⟩
 go_wp2_with fail
 have HOK := kq (show bdOk zs lo hi = false from by unfold bdOk; rw [show bArg zs lo hi = false from by rw [← Bool.not_eq_true, bArg_iff, HNk1.o]; first | (have := c1h.o; omega) | (have := c1h.o; have q := of_decide_eq_false HNk1.o; omega)]; rfl)
 go_ret3
 exact ⟨by rw [(bdOk_no HOK.o).1, (bdOk_no HOK.o).2, HOK.o]; first | done | rfl, H32.o.bl⟩
end
end Go.Proofs.YteejjnhlfgjlaaaGreat
