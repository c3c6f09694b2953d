/-
 Contract: the error of a program of a stage, in the reference.
-/
import Derived.Test.YteejjnhlfgjlaaaPwtPlain
import Derived.Test.YteejjnhlfgjlaaaPw7
import Derived.Test.YteejjnhlfgjlaaaPw11
import Derived.Test.YteejjnhlfgjlaaaKN
namespace Go.Proofs.Yteejjnhlfgjlaaa
open Go.RowKit
attribute [local go_sem ↓] Go.wp_at_zero Go.wp_at_succ
set_option linter.unusedVariables false
set_option linter.unusedSimpArgs false

def pwCk (l : List (Int × Int)) (two : Bool) (mx qmx out : Int) : Int :=
 if vCode l two ≠ 0 then vCode l two else if ¬ valOk out = true then 2 else (ivR l mx (pwS two qmx)).2.2
set_option maxRecDepth 100000 in
set_option maxHeartbeats 1600000 in
theorem rcheck14_true (la : Option Addr) (lx lc : Nat) (ls : List (Int × Int)) (mx qmx out : Int) (W : World) (ho : Prs W la lx lc ls) : Calls Try.prog 50 #[.slice la lx lc, .bool true, .int .i64 mx, .int .i64 qmx, .int .i64 out] W fun e w' => e = .returned (.int .i64 (pwCk ls true mx qmx out)) ∧ Below W.heap.size W w' := by
 obtain ⟨B, hB⟩ : ∃ B, W.heap.size = B := ⟨_, rfl⟩; have HI0 := hid (St.init hB); have HO := hid ho; clear ho
 go_enter Try.func50, Try.ntmps50
 go_wp2_with fail
 refine (rvalid_any14 _ _ _ ls true _ (HI0.out.oldPrs HO.out)).mono ?_; rintro e w1 ⟨rfl, hb⟩; have H2 := hid (HI0.out.call hb); clear hb; obtain ⟨c3, hc3⟩ : ∃ xx', vCode ls true = xx' := ⟨_, rfl⟩; rw [hc3]; have HNc3 := hid hc3; clear hc3; by_cases c4 : (c3 : Int) = 0
 ·
  obtain ⟨c4c, c4d⟩ : (c3 : Int) ≤ 0 ∧ (0 : Int) ≤ c3 := by omega
  have c4a : ((c3 : Int) == (0)) = true := by simpa using c4
  have c4b : ((c3 : Int) != (0)) = false := by simpa using c4
  have c4h := hid c4; clear c4; go_wp2_with fail
  refine (rval14_any _ _).mono ?_; rintro e w5 ⟨rfl, hsw⟩; have hsw2 : w1 = w5 := by first | exact hsw | exact hsw.symm
  clear hsw; subst hsw2; obtain ⟨b6, hb6⟩ : ∃ xx', valOk out = xx' := ⟨_, rfl⟩; rw [hb6]; have HNb6 := hid hb6; clear hb6; cases b6; rotate_left
  ·
   go_wp2_with fail
   refine (rinterval_any _ _ _ ls _ _ _ (H2.out.oldPrs HO.out)).mono ?_; rintro e w7 ⟨rfl, hb⟩; have H8 := hid (H2.out.call hb); clear hb; obtain ⟨n9, hn9⟩ : ∃ xx', (ivR ls mx qmx).1 = xx' := ⟨_, rfl⟩; rw [hn9]; have HNn9 := hid hn9; clear hn9; obtain ⟨n1, hn1⟩ : ∃ xx', (ivR ls mx qmx).2.1 = xx' := ⟨_, rfl⟩; rw [hn1]; have HNn1 := hid hn1; clear hn1; obtain ⟨c1, hc1⟩ : ∃ xx', (ivR ls mx qmx).2.2 = xx' := ⟨_, rfl⟩; rw [hc1]; have HNc1 := hid hc1; clear hc1; go_wp2_with fail
   go_ret
   exact ⟨ret_i (by unfold pwCk; rw [if_neg (show ¬ vCode ls true ≠ 0 from by rw [HNc3.out]; have := c4h.out; omega), if_neg (by rw [HNb6.out]; simp)]; exact HNc1.out.symm), H8.out.bl⟩
  go_wp2_with fail
  go_ret
  exact ⟨ret_i (by unfold pwCk; rw [if_neg (show ¬ vCode ls true ≠ 0 from by rw [HNc3.out]; have := c4h.out; omega), if_pos (by rw [HNb6.out]; simp)]), H2.out.bl⟩
 have c4a : ((c3 : Int) == (0)) = false := by simpa using c4
 have c4b : ((c3 : Int) != (0)) = true := by simpa using c4
 have c4h := hid c4; clear c4; go_wp2_with fail
 go_ret
 exact ⟨ret_i (by unfold pwCk; rw [if_pos (by rw [HNc3.out]; have := c4h.out; omega), HNc3.out]), H2.out.bl⟩

set_option maxRecDepth 100000 in
set_option maxHeartbeats 1600000 in
theorem rcheck14_false (la : Option Addr) (lx lc : Nat) (ls : List (Int × Int)) (mx qmx out : Int) (W : World) (ho : Prs W la lx lc ls) : Calls Try.prog 50 #[.slice la lx lc, .bool false, .int .i64 mx, .int .i64 qmx, .int .i64 out] W fun e w' => e = .returned (.int .i64 (pwCk ls false mx qmx out)) ∧ Below W.heap.size W w' := by
 obtain ⟨B, hB⟩ : ∃ B, W.heap.size = B := ⟨_, rfl⟩; have HI0 := hid (St.init hB); have HO := hid ho; clear ho
 go_enter Try.func50, Try.ntmps50
 go_wp2_with fail
 refine (rvalid_any14 _ _ _ ls false _ (HI0.out.oldPrs HO.out)).mono ?_; rintro e w1 ⟨rfl, hb⟩; have H1 := hid (HI0.out.call hb); clear hb; obtain ⟨c1, hc1⟩ : ∃ xx', vCode ls false = xx' := ⟨_, rfl⟩; rw [hc1]; have HNc1 := hid hc1; clear hc1; by_cases c2 : (c1 : Int) = 0
 ·
  obtain ⟨c2c, c2d⟩ : (c1 : Int) ≤ 0 ∧ (0 : Int) ≤ c1 := by omega
  have c2a : ((c1 : Int) == (0)) = true := by simpa using c2
  have c2b : ((c1 : Int) != (0)) = false := by simpa using c2
  have c2h := hid c2; clear c2; go_wp2_with fail
  refine (rval14_any _ _).mono ?_; rintro e w16 ⟨rfl, hsw⟩; have hsw2 : w1 = w16 := by first | exact hsw | exact hsw.symm
  clear hsw; subst hsw2; obtain ⟨b1, hb1⟩ : ∃ xx', valOk out = xx' := ⟨_, rfl⟩; rw [hb1]; have HNb1 := hid hb1; clear hb1; cases b1; rotate_left
  ·
   go_wp2_with fail
   refine (rinterval_any _ _ _ ls _ _ _ (H1.out.oldPrs HO.out)).mono ?_; rintro e w1 ⟨rfl, hb⟩; have H2 := hid (H1.out.call hb); clear hb; obtain ⟨n1, hn1⟩ : ∃ xx', (ivR ls mx 1).1 = xx' := ⟨_, rfl⟩; rw [hn1]; have HNn1 := hid hn1; clear hn1; obtain ⟨n1, hn1⟩ : ∃ xx', (ivR ls mx 1).2.1 = xx' := ⟨_, rfl⟩; rw [hn1]; have HNn1 := hid hn1; clear hn1; obtain ⟨c3, hc1⟩ : ∃ xx', (ivR ls mx 1).2.2 = xx' := ⟨_, rfl⟩; rw [hc1]; have HNc2 := hid hc1; clear hc1; go_wp2_with fail
   go_ret
   exact ⟨ret_i (by unfold pwCk; rw [if_neg (show ¬ vCode ls false ≠ 0 from by rw [HNc1.out]; have := c2h.out; omega), if_neg (by rw [HNb1.out]; simp)]; exact HNc2.out.symm), H2.out.bl⟩
  go_wp2_with fail
  go_ret
  exact ⟨ret_i (by unfold pwCk; rw [if_neg (show ¬ vCode ls false ≠ 0 from by rw [HNc1.out]; have := c2h.out; omega), if_pos (by rw [HNb1.out]; simp)]), H1.out.bl⟩
 have c2a : ((c1 : Int) == (0)) = false := by simpa using c2
 have c2b : ((c1 : Int) != (0)) = true := by simpa using c2
 have c2h := hid c2; clear c2; go_wp2_with fail
 go_ret
 exact ⟨ret_i (by unfold pwCk; rw [if_pos (by rw [HNc1.out]; have := c2h.out; omega), HNc1.out]), H1.out.bl⟩
end Go.Proofs.Yteejjnhlfgjlaaa
