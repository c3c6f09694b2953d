/-
  Contracts: classes, parts and the order of floating point values, in the program and in the reference.
-/
import Derived.Test.YtfmahdcnikeaiaaDoorIeeePlain
import Derived.Test.YtfmahdcnikeaiaaDoorKA
import Derived.Test.YtfmahdcnikeaiaaDoorKX
import Derived.Laws.Bits64b
import Derived.Laws.BitsAllLaws
namespace Go.Proofs.YtfmahdcnikeaiaaDoor
open Go.RowKit
attribute [local go_sem ↓] Go.wp_at_zero Go.wp_at_succ
set_option linter.unusedVariables false
set_option linter.unusedSimpArgs false

theorem and_frac (v : Nat) (h : v < 18446744073709551616) : bits .and .u64 (v : Int) 4503599627370495 = (fF v : Int) := by
  rw [show (4503599627370495 : Int) = ((4503599627370495 : Nat) : Int) from rfl, u64_and_nat v _ h (by decide)]
  unfold fF
  rw [show (4503599627370495 : Nat) = 2 ^ 52 - 1 from by decide, Nat.and_two_pow_sub_one_eq_mod]
theorem and_exp (v : Nat) (h : v < 18446744073709551616) : bits .and .u64 ((v : Int) / 4503599627370496) 2047 = (fE v : Int) := by
  rw [show (2047 : Int) = ((2047 : Nat) : Int) from rfl, show (v : Int) / 4503599627370496 = ((v / 4503599627370496 : Nat) : Int) by omega, u64_and_nat _ _ (by omega) (by decide)]
  unfold fE
  rw [show (2047 : Nat) = 2 ^ 11 - 1 from by decide, Nat.and_two_pow_sub_one_eq_mod]
theorem and_low (v : Nat) (h : v < 18446744073709551616) : bits .and .u64 (v : Int) 9223372036854775807 = ((v % 9223372036854775808 : Nat) : Int) := by
  rw [show (9223372036854775807 : Int) = ((9223372036854775807 : Nat) : Int) from rfl, u64_and_nat v _ h (by decide)]
  rw [show (9223372036854775807 : Nat) = 2 ^ 63 - 1 from by decide, Nat.and_two_pow_sub_one_eq_mod]
theorem andNot_top (v : Nat) (h : v < 18446744073709551616) : bits .andNot .u64 (v : Int) 9223372036854775808 = ((v % 9223372036854775808 : Nat) : Int) := by
  rw [show (9223372036854775808 : Int) = ((9223372036854775808 : Nat) : Int) from rfl, u64_andNot_nat v _ h (by decide)]
  rw [show (18446744073709551615 - 9223372036854775808 : Nat) = 2 ^ 63 - 1 from by decide, Nat.and_two_pow_sub_one_eq_mod]
theorem or_mant (v : Nat) : bits .or .u64 (fF v : Int) 4503599627370496 = ((fF v + 4503599627370496 : Nat) : Int) := by
  have h := fF_lt v
  rw [show (4503599627370496 : Int) = ((4503599627370496 : Nat) : Int) from rfl, u64_or_nat _ _ (by omega) (by decide)]
  rw [Nat.or_comm, nat_join 52 _ _ (by decide) (by omega), Nat.add_comm]
theorem top_ne (v : Nat) : ((v : Int) / 9223372036854775808 != 0) = fS v := by
  unfold fS; by_cases h : 9223372036854775808 ≤ v
  · rw [decide_eq_true h]; simp; omega
  · rw [decide_eq_false h]; simp; omega
theorem top_eq (v : Nat) (h : v < 18446744073709551616) : ((v : Int) / 9223372036854775808 == 1) = fS v := by
  unfold fS; by_cases h : 9223372036854775808 ≤ v
  · rw [decide_eq_true h]; simp; omega
  · rw [decide_eq_false h]; simp; omega
theorem ret_bii {k l : IntKind} {a b c d : Int} {p q : Bool} (h : p = q) (h' : a = b) (h'' : c = d) : Ending.returned (.tuple #[.bool p, .int k a, .int l c]) = .returned (.tuple #[.bool q, .int k b, .int l d]) := by rw [h, h', h'']

set_option maxHeartbeats 800000 in
theorem split_any (v : Nat) (h : v < 18446744073709551616) (w : World) : Calls Tryd.prog 27 #[.int .u64 v] w fun e w' => e = .returned (.tuple #[.bool (fS v), .int .i64 (fE v : Int), .int .u64 (fF v : Int)]) ∧ w' = w := by
  have a1 := and_frac v h
  have a2 := and_exp v h
  have e1 := fE_lt v
  go_enter Tryd.func27, Tryd.ntmps27
  go_wp2
  go_ret3
  exact ⟨ret_bii (top_ne v) rfl rfl, rfl⟩

set_option maxHeartbeats 800000 in
theorem fields_any (v : Nat) (h : v < 18446744073709551616) (w : World) : Calls Tryd.prog 29 #[.int .u64 v] w fun e w' => e = .returned (.tuple #[.bool (fS v), .int .i64 (fE v : Int), .int .i64 (fF v : Int)]) ∧ w' = w := by
  have a1 := and_frac v h
  have a2 := and_exp v h
  have e1 := fE_lt v
  have f1 := fF_lt v
  go_enter Tryd.func29, Tryd.ntmps29
  go_wp2
  go_ret3
  exact ⟨ret_bii (top_eq v h) rfl rfl, rfl⟩

set_option maxHeartbeats 800000 in
theorem class_any (v : Nat) (h : v < 18446744073709551616) (w : World) : Calls Tryd.prog 21 #[.int .u64 v] w fun e w' => e = .returned (.int .i64 (clsV v)) ∧ w' = w := by
  have HE := hid (fE_lt v)
  have HF := hid (fF_lt v)
  have HC := hid (show clsV v = (if fE v = 2047 then (if fF v = 0 then 3 else 4) else if 0 < fE v then 2 else if 0 < fF v then 1 else 0) from rfl)
  have HS := hid (show Calls Tryd.prog 27 #[.int .u64 v] w _ from split_any v h w)
  obtain ⟨E, hE⟩ : ∃ E, fE v = E := ⟨_, rfl⟩
  obtain ⟨M, hM⟩ : ∃ M, fF v = M := ⟨_, rfl⟩
  rw [hE] at HE HC HS
  rw [hM] at HF HC HS
  clear hE hM
  have e1 := HE.out
  have f1 := HF.out
  go_enter Tryd.func21, Tryd.ntmps21
  go_wp2_with (go_at_call 27; refine HS.out.mono ?_; rintro e w' ⟨rfl, rfl⟩)
  all_goals (go_ret; refine ⟨ret_i ?_, rfl⟩; rw [HC.out]; (repeat' split) <;> first | rfl | omega | (simp only [beq_iff_eq, bne_iff_ne, ne_eq, beq_eq_false_iff_ne, bne_eq_false_iff_eq] at *; omega))

set_option maxHeartbeats 800000 in
theorem qclass_any (v : Nat) (h : v < 18446744073709551616) (w : World) : Calls Tryd.prog 22 #[.int .u64 v] w fun e w' => e = .returned (.int .i64 (clsV v)) ∧ w' = w := by
  have HE := hid (fE_lt v)
  have HF := hid (fF_lt v)
  have HC := hid (show clsV v = (if fE v = 2047 then (if fF v = 0 then 3 else 4) else if 0 < fE v then 2 else if 0 < fF v then 1 else 0) from rfl)
  have HS := hid (show Calls Tryd.prog 29 #[.int .u64 v] w _ from fields_any v h w)
  obtain ⟨E, hE⟩ : ∃ E, fE v = E := ⟨_, rfl⟩
  obtain ⟨M, hM⟩ : ∃ M, fF v = M := ⟨_, rfl⟩
  rw [hE] at HE HC HS
  rw [hM] at HF HC HS
  clear hE hM
  have e1 := HE.out
  have f1 := HF.out
  go_enter Tryd.func22, Tryd.ntmps22
  go_wp2_with (go_at_call 29; refine HS.out.mono ?_; rintro e w' ⟨rfl, rfl⟩)
  all_goals (go_ret; refine ⟨ret_i ?_, rfl⟩; rw [HC.out]; (repeat' split) <;> first | rfl | omega | (simp only [beq_iff_eq, bne_iff_ne, ne_eq, beq_eq_false_iff_ne, bne_eq_false_iff_eq] at *; omega))

set_option maxHeartbeats 800000 in
theorem rank_any (v : Nat) (h : v < 18446744073709551616) (w : World) : Calls Tryd.prog 31 #[.int .u64 v] w fun e w' => e = .returned (.int .i64 (rkV v)) ∧ w' = w := by
  have a1 := andNot_top v h
  have a2 := and_low v h
  have a3 := top_ne v
  have HR := hid (show rkV v = (if fS v = true then -((v % 9223372036854775808 : Nat) : Int) else ((v % 9223372036854775808 : Nat) : Int)) from rfl)
  obtain ⟨m, hm⟩ : ∃ m, v % 9223372036854775808 = m := ⟨_, rfl⟩
  have hl : m < 9223372036854775808 := by omega
  rw [hm] at a1 a2 HR
  clear hm
  cases hs : fS v <;> rw [hs] at a3 HR
  all_goals
    go_enter Tryd.func31, Tryd.ntmps31
    go_wp2
    go_ret
    exact ⟨ret_i (by rw [HR.out]; simp), rfl⟩

set_option maxHeartbeats 800000 in
theorem key_any (v : Nat) (h : v < 18446744073709551616) (w : World) : Calls Tryd.prog 32 #[.int .u64 v] w fun e w' => e = .returned (.int .i64 (rkV v)) ∧ w' = w := by
  have a1 := andNot_top v h
  have a2 := and_low v h
  have a3 := top_eq v h
  have HR := hid (show rkV v = (if fS v = true then -((v % 9223372036854775808 : Nat) : Int) else ((v % 9223372036854775808 : Nat) : Int)) from rfl)
  obtain ⟨m, hm⟩ : ∃ m, v % 9223372036854775808 = m := ⟨_, rfl⟩
  have hl : m < 9223372036854775808 := by omega
  rw [hm] at a1 a2 HR
  clear hm
  cases hs : fS v <;> rw [hs] at a3 HR
  all_goals
    go_enter Tryd.func32, Tryd.ntmps32
    go_wp2
    go_ret
    exact ⟨ret_i (by rw [HR.out]; simp), rfl⟩

set_option maxHeartbeats 800000 in
theorem nan_any (x : Int) (w : World) : Calls Tryd.prog 33 #[.int .i64 x] w fun e w' => e = .returned (.bool false) ∧ w' = w := by
  go_enter Tryd.func33, Tryd.ntmps33
  go_wp2
  go_ret
  exact ⟨ret_b (by simp), rfl⟩

set_option maxHeartbeats 800000 in
theorem ccmp_any (x y : Int) (w : World) : Calls Tryd.prog 30 #[.int .i64 x, .int .i64 y] w fun e w' => e = .returned (.int .i64 (cmpI x y)) ∧ w' = w := by
  go_enter Tryd.func30, Tryd.ntmps30
  go_wp2_with (go_at_call 33; refine (nan_any _ _).mono ?_; rintro e w' ⟨rfl, rfl⟩)
  all_goals (go_ret; refine ⟨ret_i ?_, rfl⟩; unfold cmpI; (repeat' split) <;> first | rfl | omega)

theorem split_anyI (x : Int) (h0 : 0 ≤ x ∧ x < 18446744073709551616) (w : World) : Calls Tryd.prog 27 #[.int .u64 x] w fun e w' => e = .returned (.tuple #[.bool (fS x.toNat), .int .i64 (fE x.toNat : Int), .int .u64 (fF x.toNat : Int)]) ∧ w' = w := by
  obtain ⟨v, rfl⟩ := Int.eq_ofNat_of_zero_le h0.1
  simpa using split_any v (by omega) w

theorem fields_anyI (x : Int) (h0 : 0 ≤ x ∧ x < 18446744073709551616) (w : World) : Calls Tryd.prog 29 #[.int .u64 x] w fun e w' => e = .returned (.tuple #[.bool (fS x.toNat), .int .i64 (fE x.toNat : Int), .int .i64 (fF x.toNat : Int)]) ∧ w' = w := by
  obtain ⟨v, rfl⟩ := Int.eq_ofNat_of_zero_le h0.1
  simpa using fields_any v (by omega) w

theorem class_anyI (x : Int) (h0 : 0 ≤ x ∧ x < 18446744073709551616) (w : World) : Calls Tryd.prog 21 #[.int .u64 x] w fun e w' => e = .returned (.int .i64 (clsV x.toNat)) ∧ w' = w := by
  obtain ⟨v, rfl⟩ := Int.eq_ofNat_of_zero_le h0.1
  simpa using class_any v (by omega) w

theorem qclass_anyI (x : Int) (h0 : 0 ≤ x ∧ x < 18446744073709551616) (w : World) : Calls Tryd.prog 22 #[.int .u64 x] w fun e w' => e = .returned (.int .i64 (clsV x.toNat)) ∧ w' = w := by
  obtain ⟨v, rfl⟩ := Int.eq_ofNat_of_zero_le h0.1
  simpa using qclass_any v (by omega) w

theorem rank_anyI (x : Int) (h0 : 0 ≤ x ∧ x < 18446744073709551616) (w : World) : Calls Tryd.prog 31 #[.int .u64 x] w fun e w' => e = .returned (.int .i64 (rkV x.toNat)) ∧ w' = w := by
  obtain ⟨v, rfl⟩ := Int.eq_ofNat_of_zero_le h0.1
  simpa using rank_any v (by omega) w

theorem key_anyI (x : Int) (h0 : 0 ≤ x ∧ x < 18446744073709551616) (w : World) : Calls Tryd.prog 32 #[.int .u64 x] w fun e w' => e = .returned (.int .i64 (rkV x.toNat)) ∧ w' = w := by
  obtain ⟨v, rfl⟩ := Int.eq_ofNat_of_zero_le h0.1
  simpa using key_any v (by omega) w

set_option maxHeartbeats 800000 in
theorem compare_any (a b : Int) (ha : 0 ≤ a ∧ a < 18446744073709551616) (hb : 0 ≤ b ∧ b < 18446744073709551616) (w : World) : Calls Tryd.prog 23 #[.int .u64 a, .int .u64 b] w fun e w' => e = .returned (.tuple #[.int .i64 (cmpV a.toNat b.toNat), .bool (cmpOk a.toNat b.toNat)]) ∧ w' = w := by
  have HO := hid (show cmpOk a.toNat b.toNat = (decide (clsV a.toNat ≠ 4) && decide (clsV b.toNat ≠ 4)) from rfl)
  have HV := hid (show cmpV a.toNat b.toNat = if cmpOk a.toNat b.toNat = true then cmpI (rkV a.toNat) (rkV b.toNat) else 0 from rfl)
  obtain ⟨x, hx⟩ : ∃ x, clsV a.toNat = x := ⟨_, rfl⟩
  obtain ⟨y, hy⟩ : ∃ y, clsV b.toNat = y := ⟨_, rfl⟩
  have HX := hid hx
  have HY := hid hy
  rw [hx, hy] at HO
  clear hx hy
  obtain ⟨a1, a2⟩ := ha
  obtain ⟨b1, b2⟩ := hb
  by_cases c1 : x = 4
  · subst c1
    go_enter Tryd.func23, Tryd.ntmps23
    go_wp2_with (first | (go_at_call 21; refine (class_anyI _ (by omega) _).mono ?_; rintro e w' ⟨rfl, rfl⟩; first | rw [HX.out] | rw [HY.out]) | (go_at_call 31; refine (rank_anyI _ (by omega) _).mono ?_; rintro e w' ⟨rfl, rfl⟩) | (go_at_call 30; refine (ccmp_any _ _ _).mono ?_; rintro e w' ⟨rfl, rfl⟩))
    go_ret2
    exact ⟨ret_ib (by rw [HV.out, HO.out]; simp) (by rw [HO.out]; simp), rfl⟩
  · by_cases c2 : y = 4
    · subst c2
      have c1' : (x == 4) = false := by simpa using c1
      go_enter Tryd.func23, Tryd.ntmps23
      go_wp2_with (first | (go_at_call 21; refine (class_anyI _ (by omega) _).mono ?_; rintro e w' ⟨rfl, rfl⟩; first | rw [HX.out] | rw [HY.out]) | (go_at_call 31; refine (rank_anyI _ (by omega) _).mono ?_; rintro e w' ⟨rfl, rfl⟩) | (go_at_call 30; refine (ccmp_any _ _ _).mono ?_; rintro e w' ⟨rfl, rfl⟩))
      go_ret2
      exact ⟨ret_ib (by rw [HV.out, HO.out]; simp) (by rw [HO.out]; simp), rfl⟩
    · have c1' : (x == 4) = false := by simpa using c1
      have c2' : (y == 4) = false := by simpa using c2
      go_enter Tryd.func23, Tryd.ntmps23
      go_wp2_with (first | (go_at_call 21; refine (class_anyI _ (by omega) _).mono ?_; rintro e w' ⟨rfl, rfl⟩; first | rw [HX.out] | rw [HY.out]) | (go_at_call 31; refine (rank_anyI _ (by omega) _).mono ?_; rintro e w' ⟨rfl, rfl⟩) | (go_at_call 30; refine (ccmp_any _ _ _).mono ?_; rintro e w' ⟨rfl, rfl⟩))
      all_goals (go_ret2; refine ⟨ret_ib ?_ (by rw [HO.out]; simp [c1, c2]), rfl⟩; rw [HV.out, HO.out, if_pos (by simp [c1, c2])])
      all_goals (unfold cmpI; (repeat' split) <;> first | rfl | omega)

set_option maxHeartbeats 800000 in
theorem qcompare_any (a b : Int) (ha : 0 ≤ a ∧ a < 18446744073709551616) (hb : 0 ≤ b ∧ b < 18446744073709551616) (w : World) : Calls Tryd.prog 24 #[.int .u64 a, .int .u64 b] w fun e w' => e = .returned (.tuple #[.int .i64 (cmpV a.toNat b.toNat), .bool (cmpOk a.toNat b.toNat)]) ∧ w' = w := by
  have HO := hid (show cmpOk a.toNat b.toNat = (decide (clsV a.toNat ≠ 4) && decide (clsV b.toNat ≠ 4)) from rfl)
  have HV := hid (show cmpV a.toNat b.toNat = if cmpOk a.toNat b.toNat = true then cmpI (rkV a.toNat) (rkV b.toNat) else 0 from rfl)
  obtain ⟨x, hx⟩ : ∃ x, clsV a.toNat = x := ⟨_, rfl⟩
  obtain ⟨y, hy⟩ : ∃ y, clsV b.toNat = y := ⟨_, rfl⟩
  have HX := hid hx
  have HY := hid hy
  rw [hx, hy] at HO
  clear hx hy
  obtain ⟨a1, a2⟩ := ha
  obtain ⟨b1, b2⟩ := hb
  by_cases c1 : x = 4
  · subst c1
    go_enter Tryd.func24, Tryd.ntmps24
    go_wp2_with (first | (go_at_call 22; refine (qclass_anyI _ (by omega) _).mono ?_; rintro e w' ⟨rfl, rfl⟩; first | rw [HX.out] | rw [HY.out]) | (go_at_call 32; refine (key_anyI _ (by omega) _).mono ?_; rintro e w' ⟨rfl, rfl⟩))
    go_ret2
    exact ⟨ret_ib (by rw [HV.out, HO.out]; simp) (by rw [HO.out]; simp), rfl⟩
  · by_cases c2 : y = 4
    · subst c2
      have c1' : (x == 4) = false := by simpa using c1
      go_enter Tryd.func24, Tryd.ntmps24
      go_wp2_with (first | (go_at_call 22; refine (qclass_anyI _ (by omega) _).mono ?_; rintro e w' ⟨rfl, rfl⟩; first | rw [HX.out] | rw [HY.out]) | (go_at_call 32; refine (key_anyI _ (by omega) _).mono ?_; rintro e w' ⟨rfl, rfl⟩))
      go_ret2
      exact ⟨ret_ib (by rw [HV.out, HO.out]; simp) (by rw [HO.out]; simp), rfl⟩
    · have c1' : (x == 4) = false := by simpa using c1
      have c2' : (y == 4) = false := by simpa using c2
      go_enter Tryd.func24, Tryd.ntmps24
      go_wp2_with (first | (go_at_call 22; refine (qclass_anyI _ (by omega) _).mono ?_; rintro e w' ⟨rfl, rfl⟩; first | rw [HX.out] | rw [HY.out]) | (go_at_call 32; refine (key_anyI _ (by omega) _).mono ?_; rintro e w' ⟨rfl, rfl⟩))
      all_goals (go_ret2; refine ⟨ret_ib ?_ (by rw [HO.out]; simp [c1, c2]), rfl⟩; rw [HV.out, HO.out, if_pos (by simp [c1, c2])])
      all_goals (unfold cmpI; (repeat' split) <;> first | rfl | omega)
end Go.Proofs.YtfmahdcnikeaiaaDoor
