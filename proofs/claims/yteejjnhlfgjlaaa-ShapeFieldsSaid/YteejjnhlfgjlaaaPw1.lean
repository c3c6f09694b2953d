/-
 Contracts: the small functions of programs on a stack, in the program and in the reference.
-/
import Derived.Test.YteejjnhlfgjlaaaKI
import Derived.Test.YteejjnhlfgjlaaaKF
import Derived.Test.YteejjnhlfgjlaaaKH
namespace Go.Proofs.Yteejjnhlfgjlaaa
open Go.RowKit
attribute [local go_sem ↓] Go.wp_at_zero Go.wp_at_succ
set_option linter.unusedVariables false
set_option linter.unusedSimpArgs false

set_option maxRecDepth 100000 in
set_option maxHeartbeats 1600000 in
theorem ptakes_any (c : Int) (w : World) : Calls Try.prog 74 #[.int .i64 c] w fun e w' => e = .returned (.tuple #[.int .i64 (if pwIs c = true then (pwK c : Int) else 0), .bool (pwIs c)]) ∧ w' = w := by
 by_cases hc : 0 ≤ c ∧ c ≤ 11
 ·
  rcases codes hc.1 hc.2 with rfl | rfl | rfl | rfl | rfl | rfl | rfl | rfl | rfl | rfl | rfl | rfl
  all_goals clear hc
  all_goals (go_enter Try.func74, Try.ntmps74; go_wp2; go_ret2; exact ⟨rfl, rfl⟩)
 ·
  have e : pwIs c = false := by simpa [pwIs] using hc
  rw [e]
  have c0 : ((c : Int) == 0) = false := by simp; omega
  have c1 : ((c : Int) == 1) = false := by simp; omega
  have c2 : ((c : Int) == 2) = false := by simp; omega
  have c3 : ((c : Int) == 3) = false := by simp; omega
  have c4 : ((c : Int) == 4) = false := by simp; omega
  have c5 : ((c : Int) == 5) = false := by simp; omega
  have c6 : ((c : Int) == 6) = false := by simp; omega
  have c7 : ((c : Int) == 7) = false := by simp; omega
  have c8 : ((c : Int) == 8) = false := by simp; omega
  have c9 : ((c : Int) == 9) = false := by simp; omega
  have c10 : ((c : Int) == 10) = false := by simp; omega
  have c11 : ((c : Int) == 11) = false := by simp; omega
  clear hc
  go_enter Try.func74, Try.ntmps74
  go_wp2
  go_ret2
  exact ⟨rfl, rfl⟩

set_option maxHeartbeats 1600000 in
theorem pabs_any (x : Int) (hx : -4611686018427387904 ≤ x ∧ x ≤ 4611686018427387904) (w : World) : Calls Try.prog 91 #[.int .i64 x] w fun e w' => e = .returned (.int .i64 (absI x)) ∧ w' = w := by
 obtain ⟨hx1, hx2⟩ := hx
 go_enter Try.func91, Try.ntmps91
 go_wp2
 all_goals (go_ret; refine ⟨ret_i ?_, rfl⟩; unfold absI; (repeat' split) <;> omega)

set_option maxHeartbeats 1600000 in
theorem pwithin_any (v : Int) (w : World) : Calls Try.prog 87 #[.int .i64 v] w fun e w' => e = .returned (.bool (accOk v)) ∧ w' = w := by
 go_enter Try.func87, Try.ntmps87
 go_wp2
 all_goals (go_ret; refine ⟨ret_b (bool_of_iff ?_), rfl⟩; simp only [accOk, decide_eq_true_eq, Bool.false_eq_true, false_iff, true_iff, Bool.and_eq_true, iff_false, iff_true] <;> omega)

set_option maxRecDepth 100000 in
set_option maxHeartbeats 3200000 in
theorem pproduct_any (x y : Int) (w : World) (hx : accOk x = true) (hy : accOk y = true) : Calls Try.prog 90 #[.int .i64 x, .int .i64 y] w fun e w' => e = .returned (.tuple #[.int .i64 (if accOk (x * y) = true then x * y else 0), .bool (accOk (x * y))]) ∧ w' = w := by
 have hm := mul_ok hx hy
 obtain ⟨x1, x2⟩ := accOk_iff.1 hx
 obtain ⟨y1, y2⟩ := accOk_iff.1 hy
 obtain ⟨m, hmm⟩ : ∃ m, x * y = m := ⟨_, rfl⟩
 rw [hmm] at hm ⊢
 have wm : accOk m = true → IntKind.i64.wrap m = m := fun h => IntWalk.i64_in _ (by have := accOk_iff.1 h; omega)
 obtain ⟨p, hp⟩ : ∃ p, absI x = p := ⟨_, rfl⟩
 obtain ⟨q, hq⟩ : ∃ q, absI y = q := ⟨_, rfl⟩
 rw [hp, hq] at hm
 obtain ⟨p1, p2⟩ : 0 ≤ p ∧ p ≤ 17592186044416 := by rw [← hp]; exact absI_bd ⟨x1, x2⟩
 obtain ⟨q1, q2⟩ : 0 ≤ q ∧ q ≤ 17592186044416 := by rw [← hq]; exact absI_bd ⟨y1, y2⟩
 have HP := hid hp
 have HQ := hid hq
 clear hp hq hx hy
 by_cases h0 : y = 0
 ·
  subst h0
  obtain rfl : m = 0 := by rw [← hmm]; simp
  clear hmm hm
  go_enter Try.func90, Try.ntmps90
  go_wp2
  go_ret2
  exact ⟨rfl, rfl⟩
 ·
  have hq3 : 0 < q := by rw [← HQ.out]; unfold absI; split <;> omega
  have hn : ((y : Int) != 0) = true := by simpa using h0
  have hd : Int.tdiv 17592186044416 q = 17592186044416 / q := Int.tdiv_eq_ediv_of_nonneg (by omega)
  obtain ⟨d, hdd⟩ : ∃ d, (17592186044416 : Int) / q = d := ⟨_, rfl⟩
  obtain ⟨d1, d2⟩ : 0 ≤ d ∧ d ≤ 17592186044416 := by rw [← hdd]; exact ⟨Int.ediv_nonneg (by omega) (by omega), Int.ediv_le_self _ (by omega)⟩
  rw [hdd] at hm hd
  have wd : IntKind.i64.wrap d = d := IntWalk.i64_in _ (by omega)
  have HM := hid hm
  have HE := hid hmm
  have HW := hid wm
  have hqn : ¬ (q = 0) := by omega
  have H0 := hid h0
  clear hm hmm wm hdd h0
  by_cases hk : d < p
  ·
   have e : accOk m = false := by rw [← Bool.not_eq_true, HM.out]; exact fun h => h ⟨H0.out, hk⟩
   rw [e]
   go_enter Try.func90, Try.ntmps90
   go_wp2_with (go_at_call 91; refine (pabs_any _ (by omega) _).mono ?_; rintro e w' ⟨rfl, rfl⟩; first | rw [HP.out] | rw [HQ.out])
   all_goals first
    | (go_ret2; exact ⟨rfl, rfl⟩)
    | (exfalso; omega)
  ·
   have e : accOk m = true := by rw [HM.out]; exact fun h => hk h.2
   have hw := HW.out e
   rw [e]
   have hmm := HE.out
   go_enter Try.func90, Try.ntmps90
   go_wp2_with (go_at_call 91; refine (pabs_any _ (by omega) _).mono ?_; rintro e w' ⟨rfl, rfl⟩; first | rw [HP.out] | rw [HQ.out])
   all_goals first
    | (go_ret2; exact ⟨rfl, rfl⟩)
    | (exfalso; omega)
end Go.Proofs.Yteejjnhlfgjlaaa
