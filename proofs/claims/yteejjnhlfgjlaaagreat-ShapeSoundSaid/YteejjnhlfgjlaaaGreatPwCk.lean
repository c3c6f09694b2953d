/-
 Contract: the error of a program of a stage, in the reference.
-/
import Derived.Test.YteejjnhlfgjlaaaGreatPT
import Derived.Test.YteejjnhlfgjlaaaGreatPC
import Derived.Test.YteejjnhlfgjlaaaGreatPw11
import Derived.Test.YteejjnhlfgjlaaaGreatKN
namespace Go.Proofs.YteejjnhlfgjlaaaGreat
open Go.RowKit
attribute [local go_sem ↓] Go.wp_at_zero Go.wp_at_succ
set_option linter.unusedVariables false
set_option linter.unusedSimpArgs false

def pwCk (l : List (Int × Int)) (two : Bool) (mx qmx out : Int) : Int :=
 if vCode l two ≠ 0 then vCode l two else if ¬ valOk out = true then 2 else (ivR l mx (pwS two qmx)).2.2
theorem pwTC_eq (w h mx : Int) (zs : List Int) (qw qh qmx : Int) (qs : List Int) (two : Bool) (l : List (Int × Int)) (out r0 r1 r2 r3 : Int) : pwTC w h mx zs qw qh qmx qs two l out r0 r1 r2 r3 =
  if ¬ (pValid w h mx zs = true ∧ (two = true → pValid qw qh qmx qs = true)) then 1 else if pwCk l two mx qmx out ≠ 0 then pwCk l two mx qmx out else if (two = true ∧ ¬ (w = qw ∧ h = qh)) ∨ ¬ rIs r0 r1 r2 r3 w h = true then 8 else 0 := by
 unfold pwTC pwCk
 by_cases h1 : ¬ (pValid w h mx zs = true ∧ (two = true → pValid qw qh qmx qs = true))
 ·
  rw [if_pos h1, if_pos h1]
 rw [if_neg h1, if_neg h1]; by_cases h2 : vCode l two ≠ 0
 ·
  rw [if_pos h2, if_pos h2, if_pos h2]
 rw [if_neg h2, if_neg h2]; by_cases h3 : ¬ valOk out = true
 ·
  rw [if_pos h3, if_pos h3, if_pos (by omega)]
 rw [if_neg h3, if_neg h3]
theorem pwCk_zero {l : List (Int × Int)} {two : Bool} {mx qmx out : Int} (h : pwCk l two mx qmx out = 0) : vCode l two = 0 ∧ valOk out = true := by
 unfold pwCk at h
 by_cases h2 : vCode l two ≠ 0
 ·
  rw [if_pos h2] at h; exact absurd h h2
 rw [if_neg h2] at h; by_cases h3 : ¬ valOk out = true
 ·
  rw [if_pos h3] at h; omega
 exact ⟨Decidable.not_not.1 h2, Decidable.not_not.1 h3⟩

set_option maxRecDepth 100000 in
set_option maxHeartbeats 1600000 in
theorem rcheck14_true (la : Option Addr) (lx lc : Nat) (ls : List (Int × Int)) (mx qmx out : Int) (W : World) (ho : Prs W la lx lc ls) : Calls Tryz.prog 72 #[.slice la lx lc, .bool true, .int .i64 mx, .int .i64 qmx, .int .i64 out] W fun e w' => e = .returned (.int .i64 (pwCk ls true mx qmx out)) ∧ Below W.heap.size W w' := by
 obtain ⟨B, hB⟩ : ∃ B, W.heap.size = B := ⟨_, rfl⟩; have HI0 := kq (St.init hB); have HO := kq ho; clear ho
 go_enter Tryz.func72, Tryz.ntmps72
 go_wp2_with fail
 refine (rvalid_any14 _ _ _ ls true _ (HI0.o.oldPrs HO.o)).mono ?_; rintro e w1 ⟨rfl, hb⟩; have H2 := kq (HI0.o.call hb); clear hb; obtain ⟨c3, HNc3⟩ := nQ (vCode ls true); rw [HNc3.o]
 rcases eqZ c3 0 with ⟨c4a, c4b, c4c, c4d, c4h⟩ | ⟨c4a, c4b, c4h⟩
 ·
  go_wp2_with fail
  refine (rval14_any _ _).mono ?_; rintro e w5 ⟨rfl, hsw⟩; have hsw2 : w1 = w5 := by first | exact hsw | exact hsw.symm
  clear hsw; subst hsw2; obtain ⟨b6, HNb6⟩ := nQ (valOk out); rw [HNb6.o]; cases b6; rotate_left
  ·
   go_wp2_with fail
   refine (rinterval_any _ _ _ ls _ _ _ (H2.o.oldPrs HO.o)).mono ?_; rintro e w7 ⟨rfl, hb⟩; have H8 := kq (H2.o.call hb); clear hb; obtain ⟨n9, HNn9⟩ := nQ ((ivR ls mx qmx).1); rw [HNn9.o]; obtain ⟨n1, HNn1⟩ := nQ ((ivR ls mx qmx).2.1); rw [HNn1.o]; obtain ⟨c1, HNc1⟩ := nQ ((ivR ls mx qmx).2.2); rw [HNc1.o]; go_wp2_with fail
   go_ret
   exact ⟨ret_i (by unfold pwCk; rw [if_neg (show ¬ vCode ls true ≠ 0 from by rw [HNc3.o]; have := c4h.o; omega), if_neg (by rw [HNb6.o]; simp)]; exact HNc1.o.symm), H8.o.bl⟩
  go_wp2_with fail
  go_ret
  exact ⟨ret_i (by unfold pwCk; rw [if_neg (show ¬ vCode ls true ≠ 0 from by rw [HNc3.o]; have := c4h.o; omega), if_pos (by rw [HNb6.o]; simp)]), H2.o.bl⟩
 go_wp2_with fail
 go_ret
 exact ⟨ret_i (by unfold pwCk; rw [if_pos (by rw [HNc3.o]; have := c4h.o; omega), HNc3.o]), H2.o.bl⟩

set_option maxRecDepth 100000 in
set_option maxHeartbeats 1600000 in
theorem rcheck14_false (la : Option Addr) (lx lc : Nat) (ls : List (Int × Int)) (mx qmx out : Int) (W : World) (ho : Prs W la lx lc ls) : Calls Tryz.prog 72 #[.slice la lx lc, .bool false, .int .i64 mx, .int .i64 qmx, .int .i64 out] W fun e w' => e = .returned (.int .i64 (pwCk ls false mx qmx out)) ∧ Below W.heap.size W w' := by
 obtain ⟨B, hB⟩ : ∃ B, W.heap.size = B := ⟨_, rfl⟩; have HI0 := kq (St.init hB); have HO := kq ho; clear ho
 go_enter Tryz.func72, Tryz.ntmps72
 go_wp2_with fail
 refine (rvalid_any14 _ _ _ ls false _ (HI0.o.oldPrs HO.o)).mono ?_; rintro e w1 ⟨rfl, hb⟩; have H1 := kq (HI0.o.call hb); clear hb; obtain ⟨c1, HNc1⟩ := nQ (vCode ls false); rw [HNc1.o]
 rcases eqZ c1 0 with ⟨c1a, c1b, c1c, c1d, c1h⟩ | ⟨c1a, c1b, c1h⟩
 ·
  go_wp2_with fail
  refine (rval14_any _ _).mono ?_; rintro e w16 ⟨rfl, hsw⟩; have hsw2 : w1 = w16 := by first | exact hsw | exact hsw.symm
  clear hsw; subst hsw2; obtain ⟨b1, HNb1⟩ := nQ (valOk out); rw [HNb1.o]; cases b1; rotate_left
  ·
   go_wp2_with fail
   refine (rinterval_any _ _ _ ls _ _ _ (H1.o.oldPrs HO.o)).mono ?_; rintro e w1 ⟨rfl, hb⟩; have H2 := kq (H1.o.call hb); clear hb; obtain ⟨n1, HNn1⟩ := nQ ((ivR ls mx 1).1); rw [HNn1.o]; obtain ⟨n1, HNn1⟩ := nQ ((ivR ls mx 1).2.1); rw [HNn1.o]; obtain ⟨c2, HNc2⟩ := nQ ((ivR ls mx 1).2.2); rw [HNc2.o]; go_wp2_with fail
   go_ret
   exact ⟨ret_i (by unfold pwCk; rw [if_neg (show ¬ vCode ls false ≠ 0 from by rw [HNc1.o]; have := c1h.o; omega), if_neg (by rw [HNb1.o]; simp)]; exact HNc2.o.symm), H2.o.bl⟩
  go_wp2_with fail
  go_ret
  exact ⟨ret_i (by unfold pwCk; rw [if_neg (show ¬ vCode ls false ≠ 0 from by rw [HNc1.o]; have := c1h.o; omega), if_pos (by rw [HNb1.o]; simp)]), H1.o.bl⟩
 go_wp2_with fail
 go_ret
 exact ⟨ret_i (by unfold pwCk; rw [if_pos (by rw [HNc1.o]; have := c1h.o; omega), HNc1.o]), H1.o.bl⟩
end Go.Proofs.YteejjnhlfgjlaaaGreat
