/-
  Contracts: which edges are valid, in the program and in the reference.
-/
import Derived.Test.YtoojiabdgaflgaaBorder
import Derived.Test.YtoojiabdgaflgaaHeap
namespace Go.Proofs.Ytoojiabdgaflgaa
open Go.RowKit

set_option maxHeartbeats 400000 in
theorem bvalid_any (p f m : Int) (w : World) :
    Calls Try.prog 85 #[.agg #[.int .i64 p, .int .i64 f], .int .i64 m] w fun e w' => e = .returned (.bool (bValid p f m)) ∧ Below w.heap.size w w' := by
  go_enter Try.func85, Try.ntmps85
  go_wp2
  all_goals go_ret
  all_goals refine ⟨ret_b ?_, (Below.refl _ _).alloc (Nat.le_refl _) _⟩
  all_goals simp only [beq_iff_eq, beq_eq_false_iff_ne, ne_eq] at *
  all_goals go_light
  all_goals unfold bValid
  all_goals (repeat' split)
  all_goals (first | rfl | omega | (rw [Bool.eq_iff_iff]; simp; omega) | (simp; omega))

set_option maxHeartbeats 400000 in
theorem rbvalid_any (p f m : Int) (w : World) :
    Calls Try.prog 87 #[.agg #[.int .i64 p, .int .i64 f], .int .i64 m] w fun e w' => e = .returned (.bool (bValid p f m)) ∧ Below w.heap.size w w' := by
  go_enter Try.func87, Try.ntmps87
  go_wp2
  all_goals go_ret
  all_goals refine ⟨ret_b ?_, (Below.refl _ _).alloc (Nat.le_refl _) _⟩
  all_goals simp only [beq_iff_eq, beq_eq_false_iff_ne, ne_eq] at *
  all_goals go_light
  all_goals unfold bValid
  all_goals (repeat' split)
  all_goals (first | rfl | omega | (rw [Bool.eq_iff_iff]; simp; omega) | (simp; omega))

end Go.Proofs.Ytoojiabdgaflgaa
