/-
 Contracts: the small functions of programs on a stack, in the program and in the reference. Contracts: the argument and the value of an operation, in the program and in the reference. Contracts: the interval of an operation, in the program and in the reference. Contracts: the interval of a product, in the reference.
-/
import Derived.Test.YteejjnhlfgjlaaaGreatKI
import Derived.Test.YteejjnhlfgjlaaaGreatKF
import Derived.Test.YteejjnhlfgjlaaaGreatKH
namespace Go.Proofs.YteejjnhlfgjlaaaGreat
section
open Go.RowKit
attribute [local go_sem ↓] Go.wp_at_zero Go.wp_at_succ
set_option linter.unusedVariables false
set_option linter.unusedSimpArgs false

set_option maxRecDepth 100000 in
set_option maxHeartbeats 1600000 in
theorem ptakes_any (c : Int) (w : World) : Calls Tryz.prog 85 #[.int .i64 c] w fun e w' => e = .returned (.tuple #[.int .i64 (if pwIs c = true then (pwK c : Int) else 0), .bool (pwIs c)]) ∧ w' = w := by
 by_cases hc : 0 ≤ c ∧ c ≤ 11
 ·
  rcases codes hc.1 hc.2 with rfl | rfl | rfl | rfl | rfl | rfl | rfl | rfl | rfl | rfl | rfl | rfl
  all_goals clear hc
  all_goals (go_enter Tryz.func85, Tryz.ntmps85; go_wp2; go_ret2; exact ⟨rfl, rfl⟩)
 have e : pwIs c = false := by simpa [pwIs] using hc
 rw [e]; have c0 : ((c : Int) == 0) = false := by simp; omega
 have c1 : ((c : Int) == 1) = false := by simp; omega
 have c2 : ((c : Int) == 2) = false := by simp; omega
 have c3 : ((c : Int) == 3) = false := by simp; omega
 have c4 : ((c : Int) == 4) = false := by simp; omega
 have c5 : ((c : Int) == 5) = false := by simp; omega
 have c6 : ((c : Int) == 6) = false := by simp; omega
 have c7 : ((c : Int) == 7) = false := by simp; omega
 have c8 : ((c : Int) == 8) = false := by simp; omega
 have c9 : ((c : Int) == 9) = false := by simp; omega
 have c10 : ((c : Int) == 10) = false := by simp; omega
 have c10 : ((c : Int) == 11) = false := by simp; omega
 clear hc
 go_enter Tryz.func85, Tryz.ntmps85
 go_wp2
 go_ret2
 exact ⟨rfl, rfl⟩

set_option maxHeartbeats 1600000 in
theorem rtakes_any (c : Int) (w : World) : Calls Tryz.prog 102 #[.int .i64 c] w fun e w' => e = .returned (.int .i64 (pwK c)) ∧ w' = w := by
 go_enter Tryz.func102, Tryz.ntmps102
 go_wp2
 all_goals (go_ret; refine ⟨ret_i ?_, rfl⟩; simp only [pwK] at *; (repeat' split) <;> omega)

set_option maxHeartbeats 1600000 in
theorem pabs_any (x : Int) (hx : -4611686018427387904 ≤ x ∧ x ≤ 4611686018427387904) (w : World) : Calls Tryz.prog 118 #[.int .i64 x] w fun e w' => e = .returned (.int .i64 (absI x)) ∧ w' = w := by
 obtain ⟨hx1, hx2⟩ := hx
 go_enter Tryz.func118, Tryz.ntmps118
 go_wp2
 all_goals (go_ret; refine ⟨ret_i ?_, rfl⟩; unfold absI; (repeat' split) <;> omega)

set_option maxHeartbeats 1600000 in
theorem rabs_any (x : Int) (hx : -4611686018427387904 ≤ x ∧ x ≤ 4611686018427387904) (w : World) : Calls Tryz.prog 115 #[.int .i64 x] w fun e w' => e = .returned (.int .i64 (absI x)) ∧ w' = w := by
 obtain ⟨hx1, hx2⟩ := hx
 go_enter Tryz.func115, Tryz.ntmps115
 go_wp2
 all_goals (go_ret; refine ⟨ret_i ?_, rfl⟩; unfold absI; (repeat' split) <;> omega)

set_option maxHeartbeats 1600000 in
theorem pwithin_any (v : Int) (w : World) : Calls Tryz.prog 106 #[.int .i64 v] w fun e w' => e = .returned (.bool (accOk v)) ∧ w' = w := by
 go_enter Tryz.func106, Tryz.ntmps106
 go_wp2
 all_goals (go_ret; refine ⟨ret_b (bool_of_iff ?_), rfl⟩; simp only [accOk, decide_eq_true_eq, Bool.false_eq_true, false_iff, true_iff, Bool.and_eq_true, iff_false, iff_true] <;> omega)

set_option maxRecDepth 100000 in
set_option maxHeartbeats 3200000 in
theorem pproduct_any (x y : Int) (w : World) (hx : accOk x = true) (hy : accOk y = true) : Calls Tryz.prog 117 #[.int .i64 x, .int .i64 y] w fun e w' => e = .returned (.tuple #[.int .i64 (if accOk (x * y) = true then x * y else 0), .bool (accOk (x * y))]) ∧ w' = w := by
 have hm := mul_ok hx hy; obtain ⟨x1, x2⟩ := accOk_iff.1 hx; obtain ⟨y1, y2⟩ := accOk_iff.1 hy; obtain ⟨m, hmm⟩ : ∃ m, x * y = m := ⟨_, rfl⟩; rw [hmm] at hm ⊢; have wm : accOk m = true → IntKind.i64.wrap m = m := fun h => IntWalk.i64_in _ (by have := accOk_iff.1 h; omega)
 obtain ⟨p, hp⟩ : ∃ p, absI x = p := ⟨_, rfl⟩; obtain ⟨q, hq⟩ : ∃ q, absI y = q := ⟨_, rfl⟩; rw [hp, hq] at hm; obtain ⟨p1, p2⟩ : 0 ≤ p ∧ p ≤ 17592186044416 := by rw [← hp]; exact absI_bd ⟨x1, x2⟩
 obtain ⟨q1, q2⟩ : 0 ≤ q ∧ q ≤ 17592186044416 := by rw [← hq]; exact absI_bd ⟨y1, y2⟩
 have HP := kq hp; have HQ := kq hq; clear hp hq hx hy; by_cases h0 : y = 0
 ·
  subst h0; obtain rfl : m = 0 := by rw [← hmm]; simp
  clear hmm hm
  go_enter Tryz.func117, Tryz.ntmps117
  go_wp2
  go_ret2
  exact ⟨rfl, rfl⟩
 have hq3 : 0 < q := by rw [← HQ.o]; unfold absI; split <;> omega
 have hn : ((y : Int) != 0) = true := by simpa using h0
 have hd : Int.tdiv 17592186044416 q = 17592186044416 / q := Int.tdiv_eq_ediv_of_nonneg (by omega); obtain ⟨d, hdd⟩ : ∃ d, (17592186044416 : Int) / q = d := ⟨_, rfl⟩; obtain ⟨d1, d2⟩ : 0 ≤ d ∧ d ≤ 17592186044416 := by rw [← hdd]; exact ⟨Int.ediv_nonneg (by omega) (by omega), Int.ediv_le_self _ (by omega)⟩
 rw [hdd] at hm hd; have wd : IntKind.i64.wrap d = d := IntWalk.i64_in _ (by omega); have HM := kq hm; have HE := kq hmm; have HW := kq wm; have hqn : ¬ (q = 0) := by omega
 have H0 := kq h0; clear hm hmm wm hdd h0; by_cases hk : d < p
 ·
  have e : accOk m = false := by rw [← Bool.not_eq_true, HM.o]; exact fun h => h ⟨H0.o, hk⟩
  rw [e]
  go_enter Tryz.func117, Tryz.ntmps117
  go_wp2_with (go_at_call 118; refine (pabs_any _ (by omega) _).mono ?_; rintro e w' ⟨rfl, rfl⟩; first | rw [HP.o] | rw [HQ.o])
  all_goals first
   | (go_ret2; exact ⟨rfl, rfl⟩)
   | (exfalso; omega)
 have e : accOk m = true := by rw [HM.o]; exact fun h => hk h.2
 have hw := HW.o e; rw [e]; have hmm := HE.o
 go_enter Tryz.func117, Tryz.ntmps117
 go_wp2_with (go_at_call 118; refine (pabs_any _ (by omega) _).mono ?_; rintro e w' ⟨rfl, rfl⟩; first | rw [HP.o] | rw [HQ.o])
 all_goals first
  | (go_ret2; exact ⟨rfl, rfl⟩)
  | (exfalso; omega)

set_option maxRecDepth 100000 in
set_option maxHeartbeats 3200000 in
theorem rtimes_any (x y : Int) (w : World) (hx : accOk x = true) (hy : accOk y = true) : Calls Tryz.prog 114 #[.int .i64 x, .int .i64 y] w fun e w' => e = .returned (.tuple #[.int .i64 (if accOk (x * y) = true then x * y else 0), .bool (accOk (x * y))]) ∧ w' = w := by
 have hm := mul_ok hx hy; obtain ⟨x1, x2⟩ := accOk_iff.1 hx; obtain ⟨y1, y2⟩ := accOk_iff.1 hy; obtain ⟨m, hmm⟩ : ∃ m, x * y = m := ⟨_, rfl⟩; rw [hmm] at hm ⊢; have wm : accOk m = true → IntKind.i64.wrap m = m := fun h => IntWalk.i64_in _ (by have := accOk_iff.1 h; omega)
 obtain ⟨p, hp⟩ : ∃ p, absI x = p := ⟨_, rfl⟩; obtain ⟨q, hq⟩ : ∃ q, absI y = q := ⟨_, rfl⟩; rw [hp, hq] at hm; obtain ⟨p1, p2⟩ : 0 ≤ p ∧ p ≤ 17592186044416 := by rw [← hp]; exact absI_bd ⟨x1, x2⟩
 obtain ⟨q1, q2⟩ : 0 ≤ q ∧ q ≤ 17592186044416 := by rw [← hq]; exact absI_bd ⟨y1, y2⟩
 clear hx hy; by_cases hsx : x < 0
 ·
  obtain rfl : -x = p := by rw [← hp]; unfold absI; rw [if_pos hsx]
  by_cases hsy : y < 0
  ·
   obtain rfl : -y = q := by rw [← hq]; unfold absI; rw [if_pos hsy]
   have hd : Int.tdiv 17592186044416 (-y) = 17592186044416 / (-y) := Int.tdiv_eq_ediv_of_nonneg (by omega); obtain ⟨d, hdd⟩ : ∃ d, (17592186044416 : Int) / (-y) = d := ⟨_, rfl⟩; obtain ⟨d1, d2⟩ : 0 ≤ d ∧ d ≤ 17592186044416 := by rw [← hdd]; exact ⟨Int.ediv_nonneg (by omega) (by omega), Int.ediv_le_self _ (by omega)⟩
   rw [hdd] at hm hd; have wd : IntKind.i64.wrap d = d := IntWalk.i64_in _ (by omega); have HM := kq hm; have HE := kq hmm; have HW := kq wm; have hqn : ¬ ((-y) = 0) := by omega
   have H0 : Kq (y ≠ 0) := kq (by omega); clear hm hmm wm hdd hp hq; by_cases hk : d < -x
   ·
    have e : accOk m = false := by rw [← Bool.not_eq_true, HM.o]; exact fun h => h ⟨H0.o, hk⟩
    rw [e]
    go_enter Tryz.func114, Tryz.ntmps114
    go_wp2
    all_goals first
     | (go_ret2; exact ⟨rfl, rfl⟩)
     | (exfalso; omega)
   have e : accOk m = true := by rw [HM.o]; exact fun h => hk h.2
   have hw := HW.o e; rw [e]; have hmm := HE.o
   go_enter Tryz.func114, Tryz.ntmps114
   go_wp2
   all_goals first
    | (go_ret2; exact ⟨rfl, rfl⟩)
    | (exfalso; omega)
  obtain rfl : y = q := by rw [← hq]; unfold absI; rw [if_neg hsy]
  by_cases h0 : y = 0
  ·
   subst h0; obtain rfl : m = 0 := by rw [← hmm]; simp
   clear hmm hm hp hq
   go_enter Tryz.func114, Tryz.ntmps114
   go_wp2
   all_goals first
    | (go_ret2; exact ⟨rfl, rfl⟩)
    | (exfalso; omega)
  have hd : Int.tdiv 17592186044416 y = 17592186044416 / y := Int.tdiv_eq_ediv_of_nonneg (by omega); obtain ⟨d, hdd⟩ : ∃ d, (17592186044416 : Int) / y = d := ⟨_, rfl⟩; obtain ⟨d1, d2⟩ : 0 ≤ d ∧ d ≤ 17592186044416 := by rw [← hdd]; exact ⟨Int.ediv_nonneg (by omega) (by omega), Int.ediv_le_self _ (by omega)⟩
  rw [hdd] at hm hd; have wd : IntKind.i64.wrap d = d := IntWalk.i64_in _ (by omega); have HM := kq hm; have HE := kq hmm; have HW := kq wm; have hqn : ¬ (y = 0) := by omega
  have H0 : Kq (y ≠ 0) := kq (by omega); clear hm hmm wm hdd hp hq; by_cases hk : d < -x
  ·
   have e : accOk m = false := by rw [← Bool.not_eq_true, HM.o]; exact fun h => h ⟨H0.o, hk⟩
   rw [e]
   go_enter Tryz.func114, Tryz.ntmps114
   go_wp2
   all_goals first
    | (go_ret2; exact ⟨rfl, rfl⟩)
    | (exfalso; omega)
  have e : accOk m = true := by rw [HM.o]; exact fun h => hk h.2
  have hw := HW.o e; rw [e]; have hmm := HE.o
  go_enter Tryz.func114, Tryz.ntmps114
  go_wp2
  all_goals first
   | (go_ret2; exact ⟨rfl, rfl⟩)
   | (exfalso; omega)
 obtain rfl : x = p := by rw [← hp]; unfold absI; rw [if_neg hsx]
 by_cases hsy : y < 0
 ·
  obtain rfl : -y = q := by rw [← hq]; unfold absI; rw [if_pos hsy]
  have hd : Int.tdiv 17592186044416 (-y) = 17592186044416 / (-y) := Int.tdiv_eq_ediv_of_nonneg (by omega); obtain ⟨d, hdd⟩ : ∃ d, (17592186044416 : Int) / (-y) = d := ⟨_, rfl⟩; obtain ⟨d1, d2⟩ : 0 ≤ d ∧ d ≤ 17592186044416 := by rw [← hdd]; exact ⟨Int.ediv_nonneg (by omega) (by omega), Int.ediv_le_self _ (by omega)⟩
  rw [hdd] at hm hd; have wd : IntKind.i64.wrap d = d := IntWalk.i64_in _ (by omega); have HM := kq hm; have HE := kq hmm; have HW := kq wm; have hqn : ¬ ((-y) = 0) := by omega
  have H0 : Kq (y ≠ 0) := kq (by omega); clear hm hmm wm hdd hp hq; by_cases hk : d < x
  ·
   have e : accOk m = false := by rw [← Bool.not_eq_true, HM.o]; exact fun h => h ⟨H0.o, hk⟩
   rw [e]
   go_enter Tryz.func114, Tryz.ntmps114
   go_wp2
   all_goals first
    | (go_ret2; exact ⟨rfl, rfl⟩)
    | (exfalso; omega)
  have e : accOk m = true := by rw [HM.o]; exact fun h => hk h.2
  have hw := HW.o e; rw [e]; have hmm := HE.o
  go_enter Tryz.func114, Tryz.ntmps114
  go_wp2
  all_goals first
   | (go_ret2; exact ⟨rfl, rfl⟩)
   | (exfalso; omega)
 obtain rfl : y = q := by rw [← hq]; unfold absI; rw [if_neg hsy]
 by_cases h0 : y = 0
 ·
  subst h0; obtain rfl : m = 0 := by rw [← hmm]; simp
  clear hmm hm hp hq
  go_enter Tryz.func114, Tryz.ntmps114
  go_wp2
  all_goals first
   | (go_ret2; exact ⟨rfl, rfl⟩)
   | (exfalso; omega)
 have hd : Int.tdiv 17592186044416 y = 17592186044416 / y := Int.tdiv_eq_ediv_of_nonneg (by omega); obtain ⟨d, hdd⟩ : ∃ d, (17592186044416 : Int) / y = d := ⟨_, rfl⟩; obtain ⟨d1, d2⟩ : 0 ≤ d ∧ d ≤ 17592186044416 := by rw [← hdd]; exact ⟨Int.ediv_nonneg (by omega) (by omega), Int.ediv_le_self _ (by omega)⟩
 rw [hdd] at hm hd; have wd : IntKind.i64.wrap d = d := IntWalk.i64_in _ (by omega); have HM := kq hm; have HE := kq hmm; have HW := kq wm; have hqn : ¬ (y = 0) := by omega
 have H0 : Kq (y ≠ 0) := kq (by omega); clear hm hmm wm hdd hp hq; by_cases hk : d < x
 ·
  have e : accOk m = false := by rw [← Bool.not_eq_true, HM.o]; exact fun h => h ⟨H0.o, hk⟩
  rw [e]
  go_enter Tryz.func114, Tryz.ntmps114
  go_wp2
  all_goals first
   | (go_ret2; exact ⟨rfl, rfl⟩)
   | (exfalso; omega)
 have e : accOk m = true := by rw [HM.o]; exact fun h => hk h.2
 have hw := HW.o e; rw [e]; have hmm := HE.o
 go_enter Tryz.func114, Tryz.ntmps114
 go_wp2
 all_goals first
  | (go_ret2; exact ⟨rfl, rfl⟩)
  | (exfalso; omega)

set_option maxRecDepth 100000 in
set_option maxHeartbeats 3200000 in
theorem rfloor_any (x y : Int) (w : World) (hx : accOk x = true) (hy : accOk y = true) : Calls Tryz.prog 116 #[.int .i64 x, .int .i64 y] w fun e w' => e = .returned (.int .i64 (Int.fdiv x y)) ∧ w' = w := by
 obtain ⟨x1, x2⟩ := accOk_iff.1 hx; obtain ⟨y1, y2⟩ := accOk_iff.1 hy; clear hx hy; by_cases h0 : y = 0
 ·
  subst h0; rw [Int.fdiv_zero]
  go_enter Tryz.func116, Tryz.ntmps116
  go_wp2
  go_ret
  exact ⟨rfl, rfl⟩
 have hf := fdiv_tdiv (x := x) h0; have hb := Int.natAbs_tdiv_le_natAbs x y; have hr := Int.natAbs_tmod x y; have hr2 : x.natAbs % y.natAbs < y.natAbs := Nat.mod_lt _ (by omega); obtain ⟨q, hq⟩ : ∃ q, Int.tdiv x y = q := ⟨_, rfl⟩; obtain ⟨r, hr0⟩ : ∃ q, Int.tmod x y = q := ⟨_, rfl⟩; rw [hq, hr0] at hf; rw [hq] at hb; rw [hr0] at hr; obtain ⟨q1, q2⟩ : -17592186044416 ≤ q ∧ q ≤ 17592186044416 := by omega
 obtain ⟨r1, r2⟩ : -17592186044416 ≤ r ∧ r ≤ 17592186044416 := by omega
 have wq : IntKind.i64.wrap q = q := IntWalk.i64_in _ (by omega); have wr : IntKind.i64.wrap r = r := IntWalk.i64_in _ (by omega); have hn : ((y : Int) == 0) = false := by simpa using h0
 have HF := kq hf; clear hf hb hr hr2
 go_enter Tryz.func116, Tryz.ntmps116
 go_wp2
 all_goals (go_ret; refine ⟨ret_i ?_, rfl⟩; rw [HF.o])
 all_goals (first | (rw [if_pos (by simp_all; omega)]; done) | (rw [if_neg (by simp_all; omega)]; done) | (rw [if_neg (by simp_all)]; done) | (rw [if_pos (by simp_all)]; done))
end

section
open Go.RowKit
attribute [local go_sem ↓] Go.wp_at_zero Go.wp_at_succ
set_option linter.unusedVariables false
set_option linter.unusedSimpArgs false

set_option maxRecDepth 100000 in
set_option maxHeartbeats 1600000 in
theorem pargument_any_2 (g : Int) (W : World) : Calls Tryz.prog 86 #[.agg #[.int .i64 2, .int .i64 g]] W fun e w' => e = .returned (.bool (pwArg 2 g)) ∧ Below W.heap.size W w' := by
 obtain ⟨B, hB⟩ : ∃ B, W.heap.size = B := ⟨_, rfl⟩; have HI0 := kq (St.init hB); rw [show pwArg 2 g = decide (-4294967296 ≤ g ∧ g ≤ 4294967296) from rfl]
 go_enter Tryz.func86, Tryz.ntmps86
 go_upto_region 1 with fail
 have H1 := kq (HI0.o.alloc #[.int .i64 2, .int .i64 g] 61 hB); first | refine gK H1 ?_ | refine gL H1 ?_ | refine gC H1 ?_
 clear H1; intro w2 H1; by_cases c3 : ((-4294967296) : Int) ≤ g
 ·
  have z4 := H1.o.c2 0 rfl; go_wp2_with fail
  clear z4
  go_ret
  exact ⟨ret_b (bool_of_iff (by (try unfold shOk); simp only [decide_eq_true_eq, beq_iff_eq, Bool.false_eq_true, false_iff, true_iff, iff_false, iff_true, Bool.and_eq_true, Bool.decide_and] <;> omega)), H1.o.bl⟩
 have z6 := H1.o.c2 0 rfl; go_wp2_with fail
 clear z6
 go_ret
 exact ⟨ret_b (bool_of_iff (by (try unfold shOk); simp only [decide_eq_true_eq, beq_iff_eq, Bool.false_eq_true, false_iff, true_iff, iff_false, iff_true, Bool.and_eq_true, Bool.decide_and] <;> omega)), H1.o.bl⟩

set_option maxRecDepth 100000 in
set_option maxHeartbeats 1600000 in
theorem pargument_any_10 (g : Int) (W : World) : Calls Tryz.prog 86 #[.agg #[.int .i64 10, .int .i64 g]] W fun e w' => e = .returned (.bool (pwArg 10 g)) ∧ Below W.heap.size W w' := by
 obtain ⟨B, hB⟩ : ∃ B, W.heap.size = B := ⟨_, rfl⟩; have HI0 := kq (St.init hB); rw [show pwArg 10 g = shOk g from rfl]
 go_enter Tryz.func86, Tryz.ntmps86
 go_upto_region 1 with fail
 have H8 := kq (HI0.o.alloc #[.int .i64 10, .int .i64 g] 61 hB); first | refine gK H8 ?_ | refine gL H8 ?_ | refine gC H8 ?_
 clear H8; intro w9 H8; by_cases c1 : (0 : Int) ≤ g
 ·
  have z1 := H8.o.c2 0 rfl; go_wp2_with fail
  clear z1
  go_ret
  exact ⟨ret_b (bool_of_iff (by (try unfold shOk); simp only [decide_eq_true_eq, beq_iff_eq, Bool.false_eq_true, false_iff, true_iff, iff_false, iff_true, Bool.and_eq_true, Bool.decide_and] <;> omega)), H8.o.bl⟩
 have z1 := H8.o.c2 0 rfl; go_wp2_with fail
 clear z1
 go_ret
 exact ⟨ret_b (bool_of_iff (by (try unfold shOk); simp only [decide_eq_true_eq, beq_iff_eq, Bool.false_eq_true, false_iff, true_iff, iff_false, iff_true, Bool.and_eq_true, Bool.decide_and] <;> omega)), H8.o.bl⟩

set_option maxRecDepth 100000 in
set_option maxHeartbeats 1600000 in
theorem pargument_any_x (c g : Int) (W : World) (hc : ¬ (c = 2) ∧ ¬ (c = 10)) : Calls Tryz.prog 86 #[.agg #[.int .i64 c, .int .i64 g]] W fun e w' => e = .returned (.bool (pwArg c g)) ∧ Below W.heap.size W w' := by
 obtain ⟨B, hB⟩ : ∃ B, W.heap.size = B := ⟨_, rfl⟩; have HI0 := kq (St.init hB); have e1 : ((c : Int) == 2) = false := by simpa using hc.1
 have e2 : ((c : Int) == 10) = false := by simpa using hc.2
 have e3 : pwArg c g = decide (g = 0) := by unfold pwArg; rw [if_neg hc.1, if_neg hc.2]
 rw [e3]; clear e3 hc
 go_enter Tryz.func86, Tryz.ntmps86
 go_upto_region 1 with fail
 have H1 := kq (HI0.o.alloc #[.int .i64 c, .int .i64 g] 61 hB); first | refine gK H1 ?_ | refine gL H1 ?_ | refine gC H1 ?_
 clear H1; intro w16 H1; have z1 := H1.o.c2 0 rfl; go_wp2_with fail
 clear z1
 go_ret
 exact ⟨ret_b (bool_of_iff (by (try unfold shOk); simp only [decide_eq_true_eq, beq_iff_eq, Bool.false_eq_true, false_iff, true_iff, iff_false, iff_true, Bool.and_eq_true, Bool.decide_and] <;> omega)), H1.o.bl⟩
theorem pargument_any (c g : Int) (W : World) : Calls Tryz.prog 86 #[.agg #[.int .i64 c, .int .i64 g]] W fun e w' => e = .returned (.bool (pwArg c g)) ∧ Below W.heap.size W w' := by
 by_cases h2 : c = 2
 ·
  subst h2; exact pargument_any_2 g W
 by_cases h1 : c = 10
 ·
  subst h1; exact pargument_any_10 g W
 exact pargument_any_x c g W ⟨h2, h1⟩

set_option maxRecDepth 100000 in
set_option maxHeartbeats 1600000 in
theorem rargument_any_2 (g : Int) (W : World) : Calls Tryz.prog 110 #[.agg #[.int .i64 2, .int .i64 g]] W fun e w' => e = .returned (.bool (pwArg 2 g)) ∧ Below W.heap.size W w' := by
 obtain ⟨B, hB⟩ : ∃ B, W.heap.size = B := ⟨_, rfl⟩; have HI0 := kq (St.init hB); rw [show pwArg 2 g = decide (-4294967296 ≤ g ∧ g ≤ 4294967296) from rfl]
 go_enter Tryz.func110, Tryz.ntmps110
 go_upto_region 1 with fail
 have H1 := kq (HI0.o.alloc #[.int .i64 2, .int .i64 g] 61 hB); first | refine gK H1 ?_ | refine gL H1 ?_ | refine gC H1 ?_
 clear H1; intro w1 H1; by_cases c1 : ((-4294967296) : Int) ≤ g
 ·
  have z1 := H1.o.c2 0 rfl; go_wp2_with fail
  clear z1
  go_ret
  exact ⟨ret_b (bool_of_iff (by (try unfold shOk); simp only [decide_eq_true_eq, beq_iff_eq, Bool.false_eq_true, false_iff, true_iff, iff_false, iff_true, Bool.and_eq_true, Bool.decide_and] <;> omega)), H1.o.bl⟩
 have z1 := H1.o.c2 0 rfl; go_wp2_with fail
 clear z1
 go_ret
 exact ⟨ret_b (bool_of_iff (by (try unfold shOk); simp only [decide_eq_true_eq, beq_iff_eq, Bool.false_eq_true, false_iff, true_iff, iff_false, iff_true, Bool.and_eq_true, Bool.decide_and] <;> omega)), H1.o.bl⟩

set_option maxRecDepth 100000 in
set_option maxHeartbeats 1600000 in
theorem rargument_any_10 (g : Int) (W : World) : Calls Tryz.prog 110 #[.agg #[.int .i64 10, .int .i64 g]] W fun e w' => e = .returned (.bool (pwArg 10 g)) ∧ Below W.heap.size W w' := by
 obtain ⟨B, hB⟩ : ∃ B, W.heap.size = B := ⟨_, rfl⟩; have HI0 := kq (St.init hB); rw [show pwArg 10 g = shOk g from rfl]
 go_enter Tryz.func110, Tryz.ntmps110
 go_upto_region 1 with fail
 have H1 := kq (HI0.o.alloc #[.int .i64 10, .int .i64 g] 61 hB); first | refine gK H1 ?_ | refine gL H1 ?_ | refine gC H1 ?_
 clear H1; intro w1 H1; have z1 := H1.o.c2 0 rfl; go_wp2_with fail
 clear z1; refine (rshok_any _ _).mono ?_; rintro e w2 ⟨rfl, hsw⟩; have hsw2 : w1 = w2 := by first | exact hsw | exact hsw.symm
 clear hsw; subst hsw2; obtain ⟨b1, HNb1⟩ := nQ (shOk g); rw [HNb1.o]; go_wp2_with fail
 go_ret
 exact ⟨ret_b HNb1.o.symm, H1.o.bl⟩

set_option maxRecDepth 100000 in
set_option maxHeartbeats 1600000 in
theorem rargument_any_x (c g : Int) (W : World) (hc : ¬ (c = 2) ∧ ¬ (c = 10)) : Calls Tryz.prog 110 #[.agg #[.int .i64 c, .int .i64 g]] W fun e w' => e = .returned (.bool (pwArg c g)) ∧ Below W.heap.size W w' := by
 obtain ⟨B, hB⟩ : ∃ B, W.heap.size = B := ⟨_, rfl⟩; have HI0 := kq (St.init hB); have e1 : ((c : Int) == 2) = false := by simpa using hc.1
 have e2 : ((c : Int) == 10) = false := by simpa using hc.2
 have e3 : pwArg c g = decide (g = 0) := by unfold pwArg; rw [if_neg hc.1, if_neg hc.2]
 rw [e3]; clear e3 hc
 go_enter Tryz.func110, Tryz.ntmps110
 go_upto_region 1 with fail
 have H32 := kq (HI0.o.alloc #[.int .i64 c, .int .i64 g] 61 hB); first | refine gK H32 ?_ | refine gL H32 ?_ | refine gC H32 ?_
 clear H32; intro w1 H32; have z1 := H32.o.c2 0 rfl; go_wp2_with fail
 clear z1
 go_ret
 exact ⟨ret_b (bool_of_iff (by (try unfold shOk); simp only [decide_eq_true_eq, beq_iff_eq, Bool.false_eq_true, false_iff, true_iff, iff_false, iff_true, Bool.and_eq_true, Bool.decide_and] <;> omega)), H32.o.bl⟩
theorem rargument_any (c g : Int) (W : World) : Calls Tryz.prog 110 #[.agg #[.int .i64 c, .int .i64 g]] W fun e w' => e = .returned (.bool (pwArg c g)) ∧ Below W.heap.size W w' := by
 by_cases h2 : c = 2
 ·
  subst h2; exact rargument_any_2 g W
 by_cases h1 : c = 10
 ·
  subst h1; exact rargument_any_10 g W
 exact rargument_any_x c g W ⟨h2, h1⟩

set_option maxRecDepth 100000 in
set_option maxHeartbeats 3200000 in
theorem rapply_any (c g x y a b : Int) (W : World) (hc : 0 ≤ c ∧ c ≤ 11) (hx : accOk x = true) (hy : accOk y = true) : Calls Tryz.prog 103 #[.agg #[.int .i64 c, .int .i64 g], .int .i64 x, .int .i64 y, .int .i64 a, .int .i64 b] W fun e w' => (∃ v, e = .returned (.tuple #[.int .i64 v, .bool (accOk (pwVal c g x y a b))]) ∧ (accOk (pwVal c g x y a b) = true → v = pwVal c g x y a b)) ∧ Below W.heap.size W w' := by
 obtain ⟨x1, x2⟩ := accOk_iff.1 hx; obtain ⟨y1, y2⟩ := accOk_iff.1 hy; obtain ⟨B, hB⟩ : ∃ B, W.heap.size = B := ⟨_, rfl⟩; have HI0 := kq (St.init hB)
 go_enter Tryz.func103, Tryz.ntmps103
 go_upto_region 1 with fail
 have H1 := kq (HI0.o.alloc #[.int .i64 c, .int .i64 g] 61 hB); first | refine gK H1 ?_ | refine gL H1 ?_ | refine gC H1 ?_
 clear H1; intro w1 H1; have z1 := H1.o.c2 0 rfl; go_upto_block 0 with fail
 clear z1
 go_cut [12, 13] (fun s t wx => ∃ (v : Int) (ok : Bool), s = .int .i64 v ∧ t = .bool ok ∧ (ok = true → v = pwVal c g x y a b) ∧ (ok = false → accOk (pwVal c g x y a b) = false) ∧ St B W [.cells B #[.int .i64 c, .int .i64 g] 61] [] wx)
 case first =>
  rcases codes hc.1 hc.2 with rfl | rfl | rfl | rfl | rfl | rfl | rfl | rfl | rfl | rfl | rfl | rfl
  ·
   clear hc; go_wp2_with fail
   go_meet
   exact ⟨_, true, rfl, rfl, fun _ => (show a = pwVal 0 g x y a b from rfl), fun h => Bool.noConfusion h, H1.o.pick [0] rfl (by decide)⟩
  ·
   clear hc; go_wp2_with fail
   go_meet
   exact ⟨_, true, rfl, rfl, fun _ => (show b = pwVal 1 g x y a b from rfl), fun h => Bool.noConfusion h, H1.o.pick [0] rfl (by decide)⟩
  ·
   clear hc; have z1 := H1.o.c2 0 rfl; go_wp2_with fail
   clear z1
   go_meet
   exact ⟨_, true, rfl, rfl, fun _ => (show g = pwVal 2 g x y a b from rfl), fun h => Bool.noConfusion h, H1.o.pick [0] rfl (by decide)⟩
  ·
   clear hc; go_wp2_with fail
   go_meet
   exact ⟨_, true, rfl, rfl, fun _ => (show x + y = pwVal 3 g x y a b from rfl), fun h => Bool.noConfusion h, H1.o.pick [0] rfl (by decide)⟩
  ·
   clear hc; go_wp2_with fail
   go_meet
   exact ⟨_, true, rfl, rfl, fun _ => (show x - y = pwVal 4 g x y a b from rfl), fun h => Bool.noConfusion h, H1.o.pick [0] rfl (by decide)⟩
  ·
   clear hc; go_wp2_with fail
   refine (rtimes_any _ _ _ hx hy).mono ?_; rintro e w2 ⟨rfl, hsw⟩; have hsw2 : w1 = w2 := by first | exact hsw | exact hsw.symm
   clear hsw; subst hsw2; obtain ⟨b1, HNb1⟩ := nQ (accOk (x * y)); rw [HNb1.o]; obtain ⟨t1, ht1⟩ := nK (if b1 = true then x * y else 0); rw [ht1]; have HNt1 := kq (show b1 = true → t1 = x * y from fun h => by rw [← ht1, if_pos h]); clear ht1; go_wp2_with fail
   go_meet
   exact ⟨_, _, rfl, rfl, fun h => (show t1 = x * y from by first | exact HNt1.o h | exact HNt1.o rfl | exact HNt1.o trivial), fun h => HNb1.o.trans h, H1.o.pick [0] rfl (by decide)⟩
  ·
   clear hc; obtain ⟨m1, hm1⟩ : ∃ zz : Int, (if y < x then y else x) = zz := ⟨_, rfl⟩; go_wp2_with fail
   have HNm1 := kq hm1; clear hm1
   go_meet
   exact ⟨_, true, rfl, rfl, fun _ => (show m1 = pwVal 6 g x y a b from HNm1.o.symm), fun h => Bool.noConfusion h, H1.o.pick [0] rfl (by decide)⟩
  ·
   clear hc; obtain ⟨m1, hm1⟩ : ∃ zz : Int, (if x < y then y else x) = zz := ⟨_, rfl⟩; go_wp2_with fail
   have HNm1 := kq hm1; clear hm1
   go_meet
   exact ⟨_, true, rfl, rfl, fun _ => (show m1 = pwVal 7 g x y a b from HNm1.o.symm), fun h => Bool.noConfusion h, H1.o.pick [0] rfl (by decide)⟩
  ·
   clear hc; go_wp2_with fail
   refine (rabs_any _ (by omega) _).mono ?_; rintro e w2 ⟨rfl, hsw⟩; have hsw2 : w1 = w2 := by first | exact hsw | exact hsw.symm
   clear hsw; subst hsw2; obtain ⟨t1, HNt1⟩ := nQ (absI (x - y)); rw [HNt1.o]; go_wp2_with fail
   go_meet
   exact ⟨_, true, rfl, rfl, fun _ => (show t1 = pwVal 8 g x y a b from HNt1.o.symm), fun h => Bool.noConfusion h, H1.o.pick [0] rfl (by decide)⟩
  ·
   clear hc; go_wp2_with fail
   refine (rfloor_any _ _ _ hx hy).mono ?_; rintro e w2 ⟨rfl, hsw⟩; have hsw2 : w1 = w2 := by first | exact hsw | exact hsw.symm
   clear hsw; subst hsw2; obtain ⟨t1, HNt1⟩ := nQ (Int.fdiv x y); rw [HNt1.o]; go_wp2_with fail
   go_meet
   exact ⟨_, true, rfl, rfl, fun _ => (show t1 = pwVal 9 g x y a b from HNt1.o.symm), fun h => Bool.noConfusion h, H1.o.pick [0] rfl (by decide)⟩
  ·
   clear hc; have z1 := H1.o.c2 0 rfl; go_wp2_with fail
   clear z1; refine (rshift_any _ _ _).mono ?_; rintro e w2 ⟨rfl, hsw⟩; have hsw2 : w1 = w2 := by first | exact hsw | exact hsw.symm
   clear hsw; subst hsw2; obtain ⟨t1, HNt1⟩ := nQ (shV x g); rw [HNt1.o]; go_wp2_with fail
   go_meet
   exact ⟨_, true, rfl, rfl, fun _ => (show t1 = pwVal 10 g x y a b from HNt1.o.symm), fun h => Bool.noConfusion h, H1.o.pick [0] rfl (by decide)⟩
  clear hc; go_wp2_with fail
  refine (rabs_any _ (by omega) _).mono ?_; rintro e w2 ⟨rfl, hsw⟩; have hsw2 : w1 = w2 := by first | exact hsw | exact hsw.symm
  clear hsw; subst hsw2; obtain ⟨t1, HNt1⟩ := nQ (absI x); rw [HNt1.o]; go_wp2_with fail
  go_meet
  exact ⟨_, true, rfl, rfl, fun _ => (show t1 = pwVal 11 g x y a b from HNt1.o.symm), fun h => Bool.noConfusion h, H1.o.pick [0] rfl (by decide)⟩
 case rest =>
  obtain ⟨v, ok, rfl, rfl, hok, hno, hst⟩ := hcut; obtain ⟨u1, rfl⟩ : ∃ u1 : World, u1 = wc := ⟨_, rfl⟩; have H1 := kq hst; clear hst; have HOK := kq hok; have HNO := kq hno; clear hok hno; cases ok; rotate_left
  ·
   go_wp2_with fail
   refine (racc_any _ _).mono ?_; rintro e w1 ⟨rfl, hsw⟩; have hsw2 : u1 = w1 := by first | exact hsw | exact hsw.symm
   clear hsw; subst hsw2; obtain ⟨b1, HNb1⟩ := nQ (accOk v); rw [HNb1.o]; go_wp2_with fail
   have hn := HOK.o (by first | rfl | trivial)
   go_ret2
   exact ⟨⟨_, by rw [← hn, HNb1.o] <;> rfl, fun _ => hn⟩, H1.o.bl⟩
  go_wp2_with fail
  have hn := HNO.o (by first | rfl | trivial)
  go_ret2
  exact ⟨⟨_, by rw [hn] <;> rfl, fun h => absurd (h.symm.trans hn) (by simp)⟩, H1.o.bl⟩
end

section
open Go.RowKit
attribute [local go_sem ↓] Go.wp_at_zero Go.wp_at_succ
set_option linter.unusedVariables false
set_option linter.unusedSimpArgs false

/-! ## the four products -/
def prodP (xl xh yl yh : Int) : Nat → Int
 | 0 => xl * yl
 | 1 => xl * yh
 | 2 => xh * yl
 | _ => xh * yh
def tmLo (P : Nat → Int) : Nat → Int
 | 0 => 0
 | 1 => P 0
 | n + 2 => mnI (tmLo P (n + 1)) (P (n + 1))
def tmHi (P : Nat → Int) : Nat → Int
 | 0 => 0
 | 1 => P 0
 | n + 2 => mxI (tmHi P (n + 1)) (P (n + 1))
def tmInv (P : Nat → Int) (lo hi k : Int) : Prop := lo = tmLo P k.toNat ∧ hi = tmHi P k.toNat ∧ ∀ i, i < k.toNat → accOk (P i) = true
theorem mag_bd {x y : Int} (hx : accOk x = true) (hy : accOk y = true) : 0 ≤ mxI (absI x) (absI y) ∧ mxI (absI x) (absI y) ≤ 17592186044416 := by
 have a := absI_bd (accOk_iff.1 hx); have b := absI_bd (accOk_iff.1 hy)
 unfold mxI; split <;> omega
theorem tm_zero (P : Nat → Int) : tmInv P 0 0 0 := ⟨rfl, rfl, fun i h => by simp at h⟩
theorem tm_first {P : Nat → Int} {lo hi t : Int} (h : tmInv P lo hi 0) (ht : t = P 0) (ha : accOk (P 0) = true) : tmInv P t t 1 := by
  refine ⟨?_, ?_, fun i hi => ?_⟩
  · exact ht
  · exact ht
  · have : i = 0 := by have : (1 : Int).toNat = 1 := rfl
                       omega
    subst this; exact ha
theorem tm_next {P : Nat → Int} {lo hi t m m' k : Int} (n : Nat) (hk : k = (n : Int) + 1) (h : tmInv P lo hi k) (ht : t = P (n + 1)) (ha : accOk (P (n + 1)) = true) (hm : (if t < lo then t else lo) = m) (hm' : (if hi < t then t else hi) = m') : tmInv P m m' (k + 1) := by
 obtain ⟨h1, h2, h3⟩ := h; have e1 : k.toNat = n + 1 := by omega
 have e2 : (k + 1).toNat = n + 2 := by omega
 rw [e1] at h1 h2 h3; refine ⟨?_, ?_, fun i hi => ?_⟩
 ·
  rw [e2, ← hm, ht, h1]; rfl
 ·
  rw [e2, ← hm', ht, h2]; rfl
 rw [e2] at hi
 rcases Nat.lt_or_ge i (n + 1) with h' | h'
 ·
  exact h3 i h'
 rw [show i = n + 1 by omega]; exact ha
theorem tm_all {xl xh yl yh lo hi : Int} (h : tmInv (prodP xl xh yl yh) lo hi 4) : pwMul (xl, xh) (yl, yh) = true ∧ lo = mnI (mnI (mnI (xl * yl) (xl * yh)) (xh * yl)) (xh * yh) ∧ hi = mxI (mxI (mxI (xl * yl) (xl * yh)) (xh * yl)) (xh * yh) := by
 obtain ⟨h1, h2, h3⟩ := h; refine ⟨?_, h1, h2⟩; have a0 := h3 0 (by decide); have a1 := h3 1 (by decide); have a2 := h3 2 (by decide); have a3 := h3 3 (by decide); simp only [prodP] at a0 a1 a2 a3; simp [pwMul, a0, a1, a2, a3]
theorem pwMul_no {xl xh yl yh : Int} (i : Nat) (h : accOk (prodP xl xh yl yh i) = false) : pwMul (xl, xh) (yl, yh) = false := by
 rcases (show i = 0 ∨ i = 1 ∨ i = 2 ∨ 3 ≤ i by omega) with rfl | rfl | rfl | h3
 ·
  simp only [prodP] at h; simp [pwMul, h]
 ·
  simp only [prodP] at h; simp [pwMul, h]
 ·
  simp only [prodP] at h; simp [pwMul, h]
 obtain ⟨n, rfl⟩ : ∃ n, i = n + 3 := ⟨i - 3, by omega⟩; simp only [prodP] at h; simp [pwMul, h]
theorem idx42_0 (a b c d e f g h : Value) (w : World) : (Instr.index 134 (.agg #[a, b, c, d, e, f, g, h]) (.int .i64 0)).run Tryz.prog w = .ok (.agg #[a, b]) w := by
 have hu := Tryz.underlying134; simp [Instr.index, run_underlying hu, asIntOf, go_sem]
theorem idx42_1 (a b c d e f g h : Value) (w : World) : (Instr.index 134 (.agg #[a, b, c, d, e, f, g, h]) (.int .i64 1)).run Tryz.prog w = .ok (.agg #[c, d]) w := by
 have hu := Tryz.underlying134; simp [Instr.index, run_underlying hu, asIntOf, go_sem]
theorem idx42_2 (a b c d e f g h : Value) (w : World) : (Instr.index 134 (.agg #[a, b, c, d, e, f, g, h]) (.int .i64 2)).run Tryz.prog w = .ok (.agg #[e, f]) w := by
 have hu := Tryz.underlying134; simp [Instr.index, run_underlying hu, asIntOf, go_sem]
theorem idx42_3 (a b c d e f g h : Value) (w : World) : (Instr.index 134 (.agg #[a, b, c, d, e, f, g, h]) (.int .i64 3)).run Tryz.prog w = .ok (.agg #[g, h]) w := by
 have hu := Tryz.underlying134; simp [Instr.index, run_underlying hu, asIntOf, go_sem]
theorem run_min4 {P : Program} (w : World) (ts : Array TypeId) (t : TypeId) (a b c d : Int) : (Builtin.min_ ts t #[.int .i64 a, .int .i64 b, .int .i64 c, .int .i64 d]).run P w = .ok (.int .i64 (mnI (mnI (mnI a b) c) d)) w := by
 simp [Builtin.min_, Builtin.min2, mnI, Sem.run_bind, Sem.run_pure]
 rfl
theorem run_max4 {P : Program} (w : World) (ts : Array TypeId) (t : TypeId) (a b c d : Int) : (Builtin.max_ ts t #[.int .i64 a, .int .i64 b, .int .i64 c, .int .i64 d]).run P w = .ok (.int .i64 (mxI (mxI (mxI a b) c) d)) w := by
 simp [Builtin.max_, Builtin.max2, mxI, Sem.run_bind, Sem.run_pure]
 rfl
attribute [local go_sem ↓] run_min4 run_max4
attribute [local go_sem ↓] idx42_0 idx42_1 idx42_2 idx42_3

set_option maxRecDepth 100000 in
set_option maxHeartbeats 1600000 in
theorem pmag_any (xl xh : Int) (W : World) (hxl : accOk xl = true) (hxh : accOk xh = true) : Calls Tryz.prog 105 #[.agg #[.int .i64 xl, .int .i64 xh]] W fun e w' => e = .returned (.int .i64 (mxI (absI xl) (absI xh))) ∧ Below W.heap.size W w' := by
 obtain ⟨xl1, xl2⟩ := accOk_iff.1 hxl; obtain ⟨xh1, xh2⟩ := accOk_iff.1 hxh; obtain ⟨B, hB⟩ : ∃ B, W.heap.size = B := ⟨_, rfl⟩; have HI0 := kq (St.init hB)
 go_enter Tryz.func105, Tryz.ntmps105
 go_upto_region 1 with fail
 have H1 := kq (HI0.o.alloc #[.int .i64 xl, .int .i64 xh] 121 hB); first | refine gK H1 ?_ | refine gL H1 ?_ | refine gC H1 ?_
 clear H1; intro w1 H1; obtain ⟨mg, hmg⟩ : ∃ zz : Int, (if absI xl < absI xh then absI xh else absI xl) = zz := ⟨_, rfl⟩; have H2 := kq H1.o.drew; refine wp_region_held_drew (S := (fun w' => w'.cell? ⟨B, 0, none⟩ = some (.int .i64 xl) ∧ w'.cell? ⟨B, 1, none⟩ = some (.int .i64 xh))) (by kernel_rfl) ⟨H2.o.cell 0 rfl 0 rfl, H2.o.cell 0 rfl 1 rfl⟩ (fun hHeld => ?_); generalize w1.drew = k1 at *; refine tk 0 ?_; refine tk 1 ?_; refine tk 3 ?_; refine tk 4 ?_; refine rdy 2 fun K hK => ?_
 go_simp
 go_at_call 118
 refine (pabs_any _ (by omega) _).mono ?_; rintro e w1 ⟨rfl, hsw⟩; have hsw2 : k1 = w1 := by first | exact hsw | exact hsw.symm
 clear hsw; subst hsw2; refine hK.out _ _ (by (try dsimp only); exact ⟨H2.o.cell 0 rfl 0 rfl, H2.o.cell 0 rfl 1 rfl⟩) ?_; clear hK K hHeld; intro hHeld; try simp only [pz]
 refine rdy 5 fun K hK => ?_
 go_simp
 go_at_call 118
 refine (pabs_any _ (by omega) _).mono ?_; rintro e w1 ⟨rfl, hsw⟩; have hsw2 : k1 = w1 := by first | exact hsw | exact hsw.symm
 clear hsw; subst hsw2; refine hK.out _ _ (by (try dsimp only); exact ⟨H2.o.cell 0 rfl 0 rfl, H2.o.cell 0 rfl 1 rfl⟩) ?_; clear hK K hHeld; intro hHeld; try simp only [pz]
 refine tk 6 ?_; refine tk 7 ?_; refine wpAnyH_done (by kernel_rfl) ?_ _; try clear hHeld
 go_wp2_with fail
 go_ret
 exact ⟨ret_i hmg.symm, H2.o.bl⟩

set_option maxRecDepth 100000 in
set_option maxHeartbeats 6400000 in
theorem ptimes_any (xl xh yl yh : Int) (W : World) (hxl : accOk xl = true) (hxh : accOk xh = true) (hyl : accOk yl = true) (hyh : accOk yh = true) : Calls Tryz.prog 104 #[.agg #[.int .i64 xl, .int .i64 xh], .agg #[.int .i64 yl, .int .i64 yh]] W fun e w' => (∃ lo hi, e = .returned (.tuple #[.agg #[.int .i64 lo, .int .i64 hi], .bool (pwMul (xl, xh) (yl, yh))]) ∧ (pwMul (xl, xh) (yl, yh) = true → lo = mnI (mnI (mnI (xl * yl) (xl * yh)) (xh * yl)) (xh * yh) ∧ hi = mxI (mxI (mxI (xl * yl) (xl * yh)) (xh * yl)) (xh * yh))) ∧ Below W.heap.size W w' := by
 obtain ⟨xl1, xl2⟩ := accOk_iff.1 hxl; obtain ⟨xh1, xh2⟩ := accOk_iff.1 hxh; obtain ⟨yl1, yl2⟩ := accOk_iff.1 hyl; obtain ⟨yh1, yh2⟩ := accOk_iff.1 hyh; obtain ⟨B, hB⟩ : ∃ B, W.heap.size = B := ⟨_, rfl⟩; have HI0 := kq (St.init hB)
 go_enter Tryz.func104, Tryz.ntmps104
 go_upto_region 1 with fail
 have H1 := kq (show St _ _ (.cells (B + 1 + 1) _ _ :: .cells (B + 1) _ _ :: .cells B _ _ :: _) _ _ from (((HI0.o.alloc #[.int .i64 xl, .int .i64 xh] 121 hB).alloc #[.int .i64 yl, .int .i64 yh] 121 (by first | exact hB | simp [hB])).alloc #[.int .i64 0, .int .i64 0] 121 (by first | exact hB | simp [hB]))); first | refine gK H1 ?_ | refine gL H1 ?_ | refine gC H1 ?_
 clear H1; intro w1 H1; obtain ⟨D1, hD1⟩ := nK w1.heap.size; go_upto_region 2 with fail
 have H2 := kq (H1.o.alloc #[.int .i64 0, .int .i64 0] 121 hD1); first | refine gK H2 ?_ | refine gL H2 ?_ | refine gC H2 ?_
 clear H2; intro w1 H2; clear hD1; have z1 := H2.o.c2 3 rfl; have z3 := H2.o.c2 2 rfl; go_wp2_with fail
 clear z1 z3
 go_loopw [32] (fun i wr => ∃ (k lo hi : Int), 0 ≤ k ∧ k ≤ 4 ∧ i = .int .i64 k ∧ tmInv (prodP xl xh yl yh) lo hi k ∧ St B W [.cells D1 #[.int .i64 lo, .int .i64 hi] 121, .cells (B + 1 + 1) #[.int .i64 0, .int .i64 0] 121, .cells (B + 1) #[.int .i64 yl, .int .i64 yh] 121, .cells B #[.int .i64 xl, .int .i64 xh] 121] [] wr) (fun i _ => 4 - (intOf i).toNat)
 case atStart => exact ⟨0, 0, 0, by omega, by omega, rfl, tm_zero _, H2.o⟩
 case round =>
  obtain ⟨k, lo, hi, hk1, hk2, rfl, ht, hst⟩ := hrel; obtain ⟨u1, rfl⟩ : ∃ u1 : World, u1 = wr := ⟨_, rfl⟩; have H1 := kq hst; clear hst; have HT := kq ht; clear ht
  rcases (show k = 0 ∨ k = 1 ∨ k = 2 ∨ k = 3 ∨ k = 4 by omega) with rfl | rfl | rfl | rfl | rfl
  ·
   clear hk1 hk2; obtain ⟨D2, hD1⟩ := nK u1.heap.size; go_upto_region 5 with fail
   have H2 := kq (H1.o.alloc #[.int .i64 xl, .int .i64 yl] 133 hD1); first | refine gK H2 ?_ | refine gL H2 ?_ | refine gC H2 ?_
   clear H2; intro w1 H2; clear hD1; have z1 := H2.o.c2 0 rfl; go_wp2_with fail
   clear z1; refine (pproduct_any _ _ _ hxl hyl).mono ?_; rintro e w2 ⟨rfl, hsw⟩; have hsw2 : w1 = w2 := by first | exact hsw | exact hsw.symm
   clear hsw; subst hsw2; obtain ⟨b1, HNb1⟩ := nQ (accOk (xl * yl)); rw [HNb1.o]; obtain ⟨t1, ht1⟩ := nK (if b1 = true then xl * yl else 0); rw [ht1]; have HNt1 := kq (show b1 = true → t1 = xl * yl from fun h => by rw [← ht1, if_pos h]); clear ht1; cases b1; rotate_left
   ·
    have z1 := H2.o.f2 1 rfl; go_upto_region 10 with fail
    clear z1; have H3 := kq (show St _ _ (_ :: .cells D1 #[.int .i64 t1, .int .i64 t1] 121 :: _) _ _ from ((H2.o.set 1 rfl 0 (.int .i64 t1)).set 1 rfl 1 (.int .i64 t1))); first | refine gK H3 ?_ | refine gL H3 ?_ | refine gC H3 ?_
    clear H3; intro w1 H3; have z1 := H3.o.f2 1 rfl; go_upto_region 11 with fail
    clear z1; have H4 := kq (show St _ _ (_ :: .cells D1 #[.int .i64 t1, .int .i64 t1] 121 :: _) _ _ from ((H3.o.set 1 rfl 0 (.int .i64 t1)).set 1 rfl 1 (.int .i64 t1))); first | refine gK H4 ?_ | refine gL H4 ?_ | refine gC H4 ?_
    clear H4; intro w1 H4; go_wp2_with fail
    go_roundw
    case rel => exact ⟨1, _, _, by omega, by omega, by go_num, tm_first HT.o (show t1 = xl * yl from by first | exact HNt1.o rfl | exact HNt1.o trivial) HNb1.o, H4.o.pick [1, 2, 3, 4] rfl (by decide)⟩
    case measure => first | (simp [intOf]; omega) | (simp [intOf]; done)
   have z1 := H2.o.f2 2 rfl; go_wp2_with fail
   clear z1; have H3 := kq (show St _ _ (_ :: _ :: .cells (B + 1 + 1) #[.int .i64 0, .int .i64 0] 121 :: _) _ _ from ((H2.o.set 2 rfl 0 (.int .i64 0)).set 2 rfl 1 (.int .i64 0))); obtain ⟨q1, q2⟩ := H3.o.c2 2 rfl; refine bodyPost_ret (v := .tuple #[.agg #[.int .i64 0, .int .i64 0], .bool false]) ?_ rfl ⟨⟨_, _, by rw [pwMul_no 0 HNb1.o], fun h => by rw [pwMul_no 0 HNb1.o] at h; cases h⟩, H3.o.bl⟩; simp [results, Tryz.results104, go_sem, q1, q2]
  ·
   clear hk1 hk2; obtain ⟨D2, hD1⟩ := nK u1.heap.size; go_upto_region 5 with fail
   have H2 := kq (H1.o.alloc #[.int .i64 xl, .int .i64 yh] 133 hD1); first | refine gK H2 ?_ | refine gL H2 ?_ | refine gC H2 ?_
   clear H2; intro w1 H2; clear hD1; have z1 := H2.o.c2 0 rfl; go_wp2_with fail
   clear z1; refine (pproduct_any _ _ _ hxl hyh).mono ?_; rintro e w2 ⟨rfl, hsw⟩; have hsw2 : w1 = w2 := by first | exact hsw | exact hsw.symm
   clear hsw; subst hsw2; obtain ⟨b1, HNb1⟩ := nQ (accOk (xl * yh)); rw [HNb1.o]; obtain ⟨t1, ht1⟩ := nK (if b1 = true then xl * yh else 0); rw [ht1]; have HNt1 := kq (show b1 = true → t1 = xl * yh from fun h => by rw [← ht1, if_pos h]); clear ht1; cases b1; rotate_left
   ·
    obtain ⟨m1, hm1⟩ : ∃ zz : Int, (if t1 < lo then t1 else lo) = zz := ⟨_, rfl⟩; obtain ⟨m2, hm2⟩ : ∃ zz : Int, (if hi < t1 then t1 else hi) = zz := ⟨_, rfl⟩; have z1 := H2.o.f2 1 rfl; go_upto_region 11 with fail
    clear z1; have HNm1 := kq hm1; clear hm1; have HNm2 := kq hm2; clear hm2; have H3 := kq (show St _ _ (_ :: .cells D1 #[.int .i64 m1, .int .i64 m2] 121 :: _) _ _ from ((H2.o.set 1 rfl 0 (.int .i64 m1)).set 1 rfl 1 (.int .i64 m2))); first | refine gK H3 ?_ | refine gL H3 ?_ | refine gC H3 ?_
    clear H3; intro w1 H3; go_wp2_with fail
    go_roundw
    case rel => exact ⟨2, _, _, by omega, by omega, by go_num, tm_next 0 rfl HT.o (show t1 = xl * yh from by first | exact HNt1.o rfl | exact HNt1.o trivial) HNb1.o HNm1.o HNm2.o, H3.o.pick [1, 2, 3, 4] rfl (by decide)⟩
    case measure => first | (simp [intOf]; omega) | (simp [intOf]; done)
   have z1 := H2.o.f2 2 rfl; go_wp2_with fail
   clear z1; have H3 := kq (show St _ _ (_ :: _ :: .cells (B + 1 + 1) #[.int .i64 0, .int .i64 0] 121 :: _) _ _ from ((H2.o.set 2 rfl 0 (.int .i64 0)).set 2 rfl 1 (.int .i64 0))); obtain ⟨q1, q2⟩ := H3.o.c2 2 rfl; refine bodyPost_ret (v := .tuple #[.agg #[.int .i64 0, .int .i64 0], .bool false]) ?_ rfl ⟨⟨_, _, by rw [pwMul_no 1 HNb1.o], fun h => by rw [pwMul_no 1 HNb1.o] at h; cases h⟩, H3.o.bl⟩; simp [results, Tryz.results104, go_sem, q1, q2]
  ·
   clear hk1 hk2; obtain ⟨D2, hD1⟩ := nK u1.heap.size; go_upto_region 5 with fail
   have H256 := kq (H1.o.alloc #[.int .i64 xh, .int .i64 yl] 133 hD1); first | refine gK H256 ?_ | refine gL H256 ?_ | refine gC H256 ?_
   clear H256; intro w1 H256; clear hD1; have z1 := H256.o.c2 0 rfl; go_wp2_with fail
   clear z1; refine (pproduct_any _ _ _ hxh hyl).mono ?_; rintro e w2 ⟨rfl, hsw⟩; have hsw2 : w1 = w2 := by first | exact hsw | exact hsw.symm
   clear hsw; subst hsw2; obtain ⟨b1, HNb1⟩ := nQ (accOk (xh * yl)); rw [HNb1.o]; obtain ⟨t1, ht1⟩ := nK (if b1 = true then xh * yl else 0); rw [ht1]; have HNt1 := kq (show b1 = true → t1 = xh * yl from fun h => by rw [← ht1, if_pos h]); clear ht1; cases b1; rotate_left
   ·
    obtain ⟨m1, hm1⟩ : ∃ zz : Int, (if t1 < lo then t1 else lo) = zz := ⟨_, rfl⟩; obtain ⟨m2, hm2⟩ : ∃ zz : Int, (if hi < t1 then t1 else hi) = zz := ⟨_, rfl⟩; have z1 := H256.o.f2 1 rfl; go_upto_region 11 with fail
    clear z1; have HNm1 := kq hm1; clear hm1; have HNm2 := kq hm2; clear hm2; have H2 := kq (show St _ _ (_ :: .cells D1 #[.int .i64 m1, .int .i64 m2] 121 :: _) _ _ from ((H256.o.set 1 rfl 0 (.int .i64 m1)).set 1 rfl 1 (.int .i64 m2))); first | refine gK H2 ?_ | refine gL H2 ?_ | refine gC H2 ?_
    clear H2; intro w1 H2; go_wp2_with fail
    go_roundw
    case rel => exact ⟨3, _, _, by omega, by omega, by go_num, tm_next 1 rfl HT.o (show t1 = xh * yl from by first | exact HNt1.o rfl | exact HNt1.o trivial) HNb1.o HNm1.o HNm2.o, H2.o.pick [1, 2, 3, 4] rfl (by decide)⟩
    case measure => first | (simp [intOf]; omega) | (simp [intOf]; done)
   have z1 := H256.o.f2 2 rfl; go_wp2_with fail
   clear z1; have H2 := kq (show St _ _ (_ :: _ :: .cells (B + 1 + 1) #[.int .i64 0, .int .i64 0] 121 :: _) _ _ from ((H256.o.set 2 rfl 0 (.int .i64 0)).set 2 rfl 1 (.int .i64 0))); obtain ⟨q1, q2⟩ := H2.o.c2 2 rfl; refine bodyPost_ret (v := .tuple #[.agg #[.int .i64 0, .int .i64 0], .bool false]) ?_ rfl ⟨⟨_, _, by rw [pwMul_no 2 HNb1.o], fun h => by rw [pwMul_no 2 HNb1.o] at h; cases h⟩, H2.o.bl⟩; simp [results, Tryz.results104, go_sem, q1, q2]
  ·
   clear hk1 hk2; obtain ⟨D2, hD1⟩ := nK u1.heap.size; go_upto_region 5 with fail
   have H2 := kq (H1.o.alloc #[.int .i64 xh, .int .i64 yh] 133 hD1); first | refine gK H2 ?_ | refine gL H2 ?_ | refine gC H2 ?_
   clear H2; intro w1 H2; clear hD1; have z1 := H2.o.c2 0 rfl; go_wp2_with fail
   clear z1; refine (pproduct_any _ _ _ hxh hyh).mono ?_; rintro e w2 ⟨rfl, hsw⟩; have hsw2 : w1 = w2 := by first | exact hsw | exact hsw.symm
   clear hsw; subst hsw2; obtain ⟨b1, HNb1⟩ := nQ (accOk (xh * yh)); rw [HNb1.o]; obtain ⟨t1, ht1⟩ := nK (if b1 = true then xh * yh else 0); rw [ht1]; have HNt1 := kq (show b1 = true → t1 = xh * yh from fun h => by rw [← ht1, if_pos h]); clear ht1; cases b1; rotate_left
   ·
    obtain ⟨m1, hm1⟩ : ∃ zz : Int, (if t1 < lo then t1 else lo) = zz := ⟨_, rfl⟩; obtain ⟨m2, hm2⟩ : ∃ zz : Int, (if hi < t1 then t1 else hi) = zz := ⟨_, rfl⟩; have z1 := H2.o.f2 1 rfl; go_upto_region 11 with fail
    clear z1; have HNm1 := kq hm1; clear hm1; have HNm2 := kq hm2; clear hm2; have H3 := kq (show St _ _ (_ :: .cells D1 #[.int .i64 m1, .int .i64 m2] 121 :: _) _ _ from ((H2.o.set 1 rfl 0 (.int .i64 m1)).set 1 rfl 1 (.int .i64 m2))); first | refine gK H3 ?_ | refine gL H3 ?_ | refine gC H3 ?_
    clear H3; intro w1 H3; go_wp2_with fail
    go_roundw
    case rel => exact ⟨4, _, _, by omega, by omega, by go_num, tm_next 2 rfl HT.o (show t1 = xh * yh from by first | exact HNt1.o rfl | exact HNt1.o trivial) HNb1.o HNm1.o HNm2.o, H3.o.pick [1, 2, 3, 4] rfl (by decide)⟩
    case measure => first | (simp [intOf]; omega) | (simp [intOf]; done)
   have z1 := H2.o.f2 2 rfl; go_wp2_with fail
   clear z1; have H3 := kq (show St _ _ (_ :: _ :: .cells (B + 1 + 1) #[.int .i64 0, .int .i64 0] 121 :: _) _ _ from ((H2.o.set 2 rfl 0 (.int .i64 0)).set 2 rfl 1 (.int .i64 0))); obtain ⟨q1, q2⟩ := H3.o.c2 2 rfl; refine bodyPost_ret (v := .tuple #[.agg #[.int .i64 0, .int .i64 0], .bool false]) ?_ rfl ⟨⟨_, _, by rw [pwMul_no 3 HNb1.o], fun h => by rw [pwMul_no 3 HNb1.o] at h; cases h⟩, H3.o.bl⟩; simp [results, Tryz.results104, go_sem, q1, q2]
  clear hk1 hk2; have z1 := H1.o.c2 0 rfl; have z3 := H1.o.f2 1 rfl; go_wp2_with fail
  clear z1 z3; have H2 := kq (show St _ _ (_ :: .cells (B + 1 + 1) #[.int .i64 lo, .int .i64 hi] 121 :: _) _ _ from ((H1.o.set 1 rfl 0 (.int .i64 lo)).set 1 rfl 1 (.int .i64 hi))); obtain ⟨q1, q2⟩ := H2.o.c2 1 rfl; refine bodyPost_ret (v := .tuple #[.agg #[.int .i64 lo, .int .i64 hi], .bool true]) ?_ rfl ⟨⟨_, _, by rw [(tm_all HT.o).1], fun _ => (tm_all HT.o).2⟩, H2.o.bl⟩; simp [results, Tryz.results104, go_sem, q1, q2]
end

section
open Go.RowKit
attribute [local go_sem ↓] Go.wp_at_zero Go.wp_at_succ
set_option linter.unusedVariables false
set_option linter.unusedSimpArgs false

attribute [local go_sem ↓] run_min4 run_max4

set_option maxRecDepth 100000 in
set_option maxHeartbeats 6400000 in
theorem rproduct_any (xl xh yl yh : Int) (W : World) (hxl : accOk xl = true) (hxh : accOk xh = true) (hyl : accOk yl = true) (hyh : accOk yh = true) : Calls Tryz.prog 119 #[.agg #[.int .i64 xl, .int .i64 xh], .agg #[.int .i64 yl, .int .i64 yh]] W fun e w' => (∃ lo hi, e = .returned (.tuple #[.agg #[.int .i64 lo, .int .i64 hi], .bool (pwMul (xl, xh) (yl, yh))]) ∧ (pwMul (xl, xh) (yl, yh) = true → lo = mnI (mnI (mnI (xl * yl) (xl * yh)) (xh * yl)) (xh * yh) ∧ hi = mxI (mxI (mxI (xl * yl) (xl * yh)) (xh * yl)) (xh * yh))) ∧ Below W.heap.size W w' := by
 obtain ⟨xl1, xl2⟩ := accOk_iff.1 hxl; obtain ⟨xh1, xh2⟩ := accOk_iff.1 hxh; obtain ⟨yl1, yl2⟩ := accOk_iff.1 hyl; obtain ⟨yh1, yh2⟩ := accOk_iff.1 hyh; obtain ⟨B, hB⟩ : ∃ B, W.heap.size = B := ⟨_, rfl⟩; have HI0 := kq (St.init hB)
 go_enter Tryz.func119, Tryz.ntmps119
 go_upto_region 1 with fail
 have H1 := kq (show St _ _ (.cells (B + 1 + 1) _ _ :: .cells (B + 1) _ _ :: .cells B _ _ :: _) _ _ from (((HI0.o.alloc #[.int .i64 xl, .int .i64 xh] 129 hB).alloc #[.int .i64 yl, .int .i64 yh] 129 (by first | exact hB | simp [hB])).alloc #[.int .i64 0, .int .i64 0] 129 (by first | exact hB | simp [hB]))); first | refine gK H1 ?_ | refine gL H1 ?_ | refine gC H1 ?_
 clear H1; intro w1 H1; have z1 := H1.o.c2 2 rfl; have z3 := H1.o.c2 1 rfl; go_wp2_with fail
 clear z1 z3; refine (rtimes_any _ _ _ hxl hyl).mono ?_; rintro e w2 ⟨rfl, hsw⟩; have hsw2 : w1 = w2 := by first | exact hsw | exact hsw.symm
 clear hsw; subst hsw2; obtain ⟨b1, HNb1⟩ := nQ (accOk (xl * yl)); rw [HNb1.o]; obtain ⟨t1, ht1⟩ := nK (if b1 = true then xl * yl else 0); rw [ht1]; have HNt1 := kq (show b1 = true → t1 = xl * yl from fun h => by rw [← ht1, if_pos h]); clear ht1; have z1 := H1.o.c2 2 rfl; have z3 := H1.o.c2 1 rfl; go_wp2_with fail
 clear z1 z3; refine (rtimes_any _ _ _ hxl hyh).mono ?_; rintro e w2 ⟨rfl, hsw⟩; have hsw2 : w1 = w2 := by first | exact hsw | exact hsw.symm
 clear hsw; subst hsw2; obtain ⟨b2, HNb2⟩ := nQ (accOk (xl * yh)); rw [HNb2.o]; obtain ⟨t2, ht1⟩ := nK (if b2 = true then xl * yh else 0); rw [ht1]; have HNt2 := kq (show b2 = true → t2 = xl * yh from fun h => by rw [← ht1, if_pos h]); clear ht1; have z1 := H1.o.c2 2 rfl; have z3 := H1.o.c2 1 rfl; go_wp2_with fail
 clear z1 z3; refine (rtimes_any _ _ _ hxh hyl).mono ?_; rintro e w2 ⟨rfl, hsw⟩; have hsw2 : w1 = w2 := by first | exact hsw | exact hsw.symm
 clear hsw; subst hsw2; obtain ⟨b3, HNb3⟩ := nQ (accOk (xh * yl)); rw [HNb3.o]; obtain ⟨t3, ht1⟩ := nK (if b3 = true then xh * yl else 0); rw [ht1]; have HNt3 := kq (show b3 = true → t3 = xh * yl from fun h => by rw [← ht1, if_pos h]); clear ht1; have z1 := H1.o.c2 2 rfl; have z3 := H1.o.c2 1 rfl; go_wp2_with fail
 clear z1 z3; refine (rtimes_any _ _ _ hxh hyh).mono ?_; rintro e w2 ⟨rfl, hsw⟩; have hsw2 : w1 = w2 := by first | exact hsw | exact hsw.symm
 clear hsw; subst hsw2; obtain ⟨b4, HNb4⟩ := nQ (accOk (xh * yh)); rw [HNb4.o]; obtain ⟨t4, ht1⟩ := nK (if b4 = true then xh * yh else 0); rw [ht1]; have HNt4 := kq (show b4 = true → t4 = xh * yh from fun h => by rw [← ht1, if_pos h]); clear ht1; cases b1; rotate_left
 ·
  cases b2; rotate_left
  ·
   cases b3; rotate_left
   ·
    obtain ⟨m1, hm1⟩ : ∃ zz : Int, (mnI (mnI (mnI t1 t2) t3) t4) = zz := ⟨_, rfl⟩; obtain ⟨m2, hm2⟩ : ∃ zz : Int, (mxI (mxI (mxI t1 t2) t3) t4) = zz := ⟨_, rfl⟩; have z1 := H1.o.f2 0 rfl; go_wp2_with fail
    clear z1; have HNm1 := kq hm1; clear hm1; have HNm2 := kq hm2; clear hm2; have H2 := kq (show St _ _ (.cells (B + 1 + 1) #[.int .i64 m1, .int .i64 m2] 129 :: _) _ _ from ((H1.o.set 0 rfl 0 (.int .i64 m1)).set 0 rfl 1 (.int .i64 m2))); have hmul := kq (show pwMul (xl, xh) (yl, yh) = b4 from by simp only [pwMul]; rw [HNb1.o, HNb2.o, HNb3.o, HNb4.o]; rfl); obtain ⟨q1, q2⟩ := H2.o.c2 0 rfl; refine bodyPost_ret (v := .tuple #[.agg #[.int .i64 m1, .int .i64 m2], .bool b4]) ?_ rfl ⟨⟨_, _, by rw [hmul.o], fun h => by have e0 := (show t1 = xl * yl from by first | exact HNt1.o rfl | exact HNt1.o trivial); have e1 := (show t2 = xl * yh from by first | exact HNt2.o rfl | exact HNt2.o trivial); have e2 := (show t3 = xh * yl from by first | exact HNt3.o rfl | exact HNt3.o trivial); have e3 := (show t4 = xh * yh from HNt4.o (hmul.o.symm.trans h)); rw [← HNm1.o, ← HNm2.o, e0, e1, e2, e3]; exact ⟨rfl, rfl⟩⟩, H2.o.bl⟩; simp [results, Tryz.results119, go_sem, q1, q2]
   obtain ⟨m1, hm1⟩ : ∃ zz : Int, (mnI (mnI (mnI t1 t2) t3) t4) = zz := ⟨_, rfl⟩; obtain ⟨m2, hm2⟩ : ∃ zz : Int, (mxI (mxI (mxI t1 t2) t3) t4) = zz := ⟨_, rfl⟩; have z1 := H1.o.f2 0 rfl; go_wp2_with fail
   clear z1; have HNm1 := kq hm1; clear hm1; have HNm2 := kq hm2; clear hm2; have H2 := kq (show St _ _ (.cells (B + 1 + 1) #[.int .i64 m1, .int .i64 m2] 129 :: _) _ _ from ((H1.o.set 0 rfl 0 (.int .i64 m1)).set 0 rfl 1 (.int .i64 m2))); obtain ⟨q1, q2⟩ := H2.o.c2 0 rfl; refine bodyPost_ret (v := .tuple #[.agg #[.int .i64 m1, .int .i64 m2], .bool false]) ?_ rfl ⟨⟨_, _, by rw [pwMul_no 2 HNb3.o], fun h => by rw [pwMul_no 2 HNb3.o] at h; cases h⟩, H2.o.bl⟩; simp [results, Tryz.results119, go_sem, q1, q2]
  obtain ⟨m1, hm1⟩ : ∃ zz : Int, (mnI (mnI (mnI t1 t2) t3) t4) = zz := ⟨_, rfl⟩; obtain ⟨m2, hm2⟩ : ∃ zz : Int, (mxI (mxI (mxI t1 t2) t3) t4) = zz := ⟨_, rfl⟩; have z1 := H1.o.f2 0 rfl; go_wp2_with fail
  clear z1; have HNm1 := kq hm1; clear hm1; have HNm2 := kq hm2; clear hm2; have H2 := kq (show St _ _ (.cells (B + 1 + 1) #[.int .i64 m1, .int .i64 m2] 129 :: _) _ _ from ((H1.o.set 0 rfl 0 (.int .i64 m1)).set 0 rfl 1 (.int .i64 m2))); obtain ⟨q1, q2⟩ := H2.o.c2 0 rfl; refine bodyPost_ret (v := .tuple #[.agg #[.int .i64 m1, .int .i64 m2], .bool false]) ?_ rfl ⟨⟨_, _, by rw [pwMul_no 1 HNb2.o], fun h => by rw [pwMul_no 1 HNb2.o] at h; cases h⟩, H2.o.bl⟩; simp [results, Tryz.results119, go_sem, q1, q2]
 obtain ⟨m1, hm1⟩ : ∃ zz : Int, (mnI (mnI (mnI t1 t2) t3) t4) = zz := ⟨_, rfl⟩; obtain ⟨m2, hm2⟩ : ∃ zz : Int, (mxI (mxI (mxI t1 t2) t3) t4) = zz := ⟨_, rfl⟩; have z1 := H1.o.f2 0 rfl; go_wp2_with fail
 clear z1; have HNm1 := kq hm1; clear hm1; have HNm2 := kq hm2; clear hm2; have H2 := kq (show St _ _ (.cells (B + 1 + 1) #[.int .i64 m1, .int .i64 m2] 129 :: _) _ _ from ((H1.o.set 0 rfl 0 (.int .i64 m1)).set 0 rfl 1 (.int .i64 m2))); obtain ⟨q1, q2⟩ := H2.o.c2 0 rfl; refine bodyPost_ret (v := .tuple #[.agg #[.int .i64 m1, .int .i64 m2], .bool false]) ?_ rfl ⟨⟨_, _, by rw [pwMul_no 0 HNb1.o], fun h => by rw [pwMul_no 0 HNb1.o] at h; cases h⟩, H2.o.bl⟩; simp [results, Tryz.results119, go_sem, q1, q2]
end
end Go.Proofs.YteejjnhlfgjlaaaGreat
