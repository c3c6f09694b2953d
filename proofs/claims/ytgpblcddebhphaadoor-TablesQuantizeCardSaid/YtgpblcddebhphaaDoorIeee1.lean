/-
  Contracts: classes, parts and the order of floating point values, in the program and in the reference.
-/
import Derived.Test.YtgpblcddebhphaaDoorIeeePlain
import Derived.Test.YtgpblcddebhphaaDoorKA
import Derived.Test.YtgpblcddebhphaaDoorKX
import Derived.Laws.Bits64b
import Derived.Laws.BitsAllLaws
namespace Go.Proofs.YtgpblcddebhphaaDoor
open Go.RowKit
attribute [local go_sem ↓] Go.wp_at_zero Go.wp_at_succ
set_option linter.unusedVariables false
set_option linter.unusedSimpArgs false

theorem and_frac (v : Nat) (h : v < 18446744073709551616) : bits .and .u64 (v : Int) 4503599627370495 = (fF v : Int) := by
  rw [show (4503599627370495 : Int) = ((4503599627370495 : Nat) : Int) from rfl, u64_and_nat v _ h (by decide)]
  unfold fF
  rw [show (4503599627370495 : Nat) = 2 ^ 52 - 1 from by decide, Nat.and_two_pow_sub_one_eq_mod]
theorem and_exp (v : Nat) (h : v < 18446744073709551616) : bits .and .u64 ((v : Int) / 4503599627370496) 2047 = (fE v : Int) := by
  rw [show (2047 : Int) = ((2047 : Nat) : Int) from rfl, show (v : Int) / 4503599627370496 = ((v / 4503599627370496 : Nat) : Int) by omega, u64_and_nat _ _ (by omega) (by decide)]
  unfold fE
  rw [show (2047 : Nat) = 2 ^ 11 - 1 from by decide, Nat.and_two_pow_sub_one_eq_mod]
theorem and_low (v : Nat) (h : v < 18446744073709551616) : bits .and .u64 (v : Int) 9223372036854775807 = ((v % 9223372036854775808 : Nat) : Int) := by
  rw [show (9223372036854775807 : Int) = ((9223372036854775807 : Nat) : Int) from rfl, u64_and_nat v _ h (by decide)]
  rw [show (9223372036854775807 : Nat) = 2 ^ 63 - 1 from by decide, Nat.and_two_pow_sub_one_eq_mod]
theorem andNot_top (v : Nat) (h : v < 18446744073709551616) : bits .andNot .u64 (v : Int) 9223372036854775808 = ((v % 9223372036854775808 : Nat) : Int) := by
  rw [show (9223372036854775808 : Int) = ((9223372036854775808 : Nat) : Int) from rfl, u64_andNot_nat v _ h (by decide)]
  rw [show (18446744073709551615 - 9223372036854775808 : Nat) = 2 ^ 63 - 1 from by decide, Nat.and_two_pow_sub_one_eq_mod]
theorem or_mant (v : Nat) : bits .or .u64 (fF v : Int) 4503599627370496 = ((fF v + 4503599627370496 : Nat) : Int) := by
  have h := fF_lt v
  rw [show (4503599627370496 : Int) = ((4503599627370496 : Nat) : Int) from rfl, u64_or_nat _ _ (by omega) (by decide)]
  rw [Nat.or_comm, nat_join 52 _ _ (by decide) (by omega), Nat.add_comm]
theorem top_ne (v : Nat) : ((v : Int) / 9223372036854775808 != 0) = fS v := by
  unfold fS; by_cases h : 9223372036854775808 ≤ v
  · rw [decide_eq_true h]; simp; omega
  · rw [decide_eq_false h]; simp; omega
theorem top_eq (v : Nat) (h : v < 18446744073709551616) : ((v : Int) / 9223372036854775808 == 1) = fS v := by
  unfold fS; by_cases h : 9223372036854775808 ≤ v
  · rw [decide_eq_true h]; simp; omega
  · rw [decide_eq_false h]; simp; omega
theorem ret_bii {k l : IntKind} {a b c d : Int} {p q : Bool} (h : p = q) (h' : a = b) (h'' : c = d) : Ending.returned (.tuple #[.bool p, .int k a, .int l c]) = .returned (.tuple #[.bool q, .int k b, .int l d]) := by rw [h, h', h'']

set_option maxHeartbeats 800000 in
theorem split_any (v : Nat) (h : v < 18446744073709551616) (w : World) : Calls Tryd.prog 41 #[.int .u64 v] w fun e w' => e = .returned (.tuple #[.bool (fS v), .int .i64 (fE v : Int), .int .u64 (fF v : Int)]) ∧ w' = w := by
  have a1 := and_frac v h
  have a2 := and_exp v h
  have e1 := fE_lt v
  go_enter Tryd.func41, Tryd.ntmps41
  go_wp2
  go_ret3
  exact ⟨ret_bii (top_ne v) rfl rfl, rfl⟩

set_option maxHeartbeats 800000 in
theorem fields_any (v : Nat) (h : v < 18446744073709551616) (w : World) : Calls Tryd.prog 45 #[.int .u64 v] w fun e w' => e = .returned (.tuple #[.bool (fS v), .int .i64 (fE v : Int), .int .i64 (fF v : Int)]) ∧ w' = w := by
  have a1 := and_frac v h
  have a2 := and_exp v h
  have e1 := fE_lt v
  have f1 := fF_lt v
  go_enter Tryd.func45, Tryd.ntmps45
  go_wp2
  go_ret3
  exact ⟨ret_bii (top_eq v h) rfl rfl, rfl⟩

set_option maxHeartbeats 800000 in
theorem class_any (v : Nat) (h : v < 18446744073709551616) (w : World) : Calls Tryd.prog 42 #[.int .u64 v] w fun e w' => e = .returned (.int .i64 (clsV v)) ∧ w' = w := by
  have HE := hid (fE_lt v)
  have HF := hid (fF_lt v)
  have HC := hid (show clsV v = (if fE v = 2047 then (if fF v = 0 then 3 else 4) else if 0 < fE v then 2 else if 0 < fF v then 1 else 0) from rfl)
  have HS := hid (show Calls Tryd.prog 41 #[.int .u64 v] w _ from split_any v h w)
  obtain ⟨E, hE⟩ : ∃ E, fE v = E := ⟨_, rfl⟩
  obtain ⟨M, hM⟩ : ∃ M, fF v = M := ⟨_, rfl⟩
  rw [hE] at HE HC HS
  rw [hM] at HF HC HS
  clear hE hM
  have e1 := HE.out
  have f1 := HF.out
  go_enter Tryd.func42, Tryd.ntmps42
  go_wp2_with (go_at_call 41; refine HS.out.mono ?_; rintro e w' ⟨rfl, rfl⟩)
  all_goals (go_ret; refine ⟨ret_i ?_, rfl⟩; rw [HC.out]; (repeat' split) <;> first | rfl | omega | (simp only [beq_iff_eq, bne_iff_ne, ne_eq, beq_eq_false_iff_ne, bne_eq_false_iff_eq] at *; omega))

set_option maxHeartbeats 800000 in
theorem qclass_any (v : Nat) (h : v < 18446744073709551616) (w : World) : Calls Tryd.prog 44 #[.int .u64 v] w fun e w' => e = .returned (.int .i64 (clsV v)) ∧ w' = w := by
  have HE := hid (fE_lt v)
  have HF := hid (fF_lt v)
  have HC := hid (show clsV v = (if fE v = 2047 then (if fF v = 0 then 3 else 4) else if 0 < fE v then 2 else if 0 < fF v then 1 else 0) from rfl)
  have HS := hid (show Calls Tryd.prog 45 #[.int .u64 v] w _ from fields_any v h w)
  obtain ⟨E, hE⟩ : ∃ E, fE v = E := ⟨_, rfl⟩
  obtain ⟨M, hM⟩ : ∃ M, fF v = M := ⟨_, rfl⟩
  rw [hE] at HE HC HS
  rw [hM] at HF HC HS
  clear hE hM
  have e1 := HE.out
  have f1 := HF.out
  go_enter Tryd.func44, Tryd.ntmps44
  go_wp2_with (go_at_call 45; refine HS.out.mono ?_; rintro e w' ⟨rfl, rfl⟩)
  all_goals (go_ret; refine ⟨ret_i ?_, rfl⟩; rw [HC.out]; (repeat' split) <;> first | rfl | omega | (simp only [beq_iff_eq, bne_iff_ne, ne_eq, beq_eq_false_iff_ne, bne_eq_false_iff_eq] at *; omega))

theorem split_anyI (x : Int) (h0 : 0 ≤ x ∧ x < 18446744073709551616) (w : World) : Calls Tryd.prog 41 #[.int .u64 x] w fun e w' => e = .returned (.tuple #[.bool (fS x.toNat), .int .i64 (fE x.toNat : Int), .int .u64 (fF x.toNat : Int)]) ∧ w' = w := by
  obtain ⟨v, rfl⟩ := Int.eq_ofNat_of_zero_le h0.1
  simpa using split_any v (by omega) w

theorem fields_anyI (x : Int) (h0 : 0 ≤ x ∧ x < 18446744073709551616) (w : World) : Calls Tryd.prog 45 #[.int .u64 x] w fun e w' => e = .returned (.tuple #[.bool (fS x.toNat), .int .i64 (fE x.toNat : Int), .int .i64 (fF x.toNat : Int)]) ∧ w' = w := by
  obtain ⟨v, rfl⟩ := Int.eq_ofNat_of_zero_le h0.1
  simpa using fields_any v (by omega) w

theorem class_anyI (x : Int) (h0 : 0 ≤ x ∧ x < 18446744073709551616) (w : World) : Calls Tryd.prog 42 #[.int .u64 x] w fun e w' => e = .returned (.int .i64 (clsV x.toNat)) ∧ w' = w := by
  obtain ⟨v, rfl⟩ := Int.eq_ofNat_of_zero_le h0.1
  simpa using class_any v (by omega) w

theorem qclass_anyI (x : Int) (h0 : 0 ≤ x ∧ x < 18446744073709551616) (w : World) : Calls Tryd.prog 44 #[.int .u64 x] w fun e w' => e = .returned (.int .i64 (clsV x.toNat)) ∧ w' = w := by
  obtain ⟨v, rfl⟩ := Int.eq_ofNat_of_zero_le h0.1
  simpa using qclass_any v (by omega) w
end Go.Proofs.YtgpblcddebhphaaDoor
