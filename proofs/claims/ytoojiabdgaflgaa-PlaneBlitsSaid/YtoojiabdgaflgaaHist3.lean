/-
  Contracts: the rectangle that a plane covers.
-/
import Derived.Test.YtoojiabdgaflgaaHist2
namespace Go.Proofs.Ytoojiabdgaflgaa
open Go.RowKit
set_option linter.unusedVariables false

theorem qcover_any (w h mx : Int) (a : Option Addr) (n c : Nat) (W : World) :
    Calls Try.prog 70 #[.agg #[.int .i64 w, .int .i64 h, .int .i64 mx, .slice a n c]] W fun e w' => e = .returned (.agg #[.int .i64 0, .int .i64 0, .int .i64 w, .int .i64 h]) ∧ Below W.heap.size W w' := by
  obtain ⟨B, hB⟩ : ∃ B, W.heap.size = B := ⟨_, rfl⟩
  go_enter Try.func70, Try.ntmps70
  go_wp2_with fail
  have b := alloc_at (.cells #[.int .i64 0, .int .i64 0, .int .i64 w, .int .i64 h] 39) (alloc_size (.cells #[.int .i64 w, .int .i64 h, .int .i64 mx, .slice a n c] 26) hB)
  have q0 := cell_of (i := 0) b rfl
  have q1 := cell_of (i := 1) b rfl
  have q2 := cell_of (i := 2) b rfl
  have q3 := cell_of (i := 3) b rfl
  refine bodyPost_ret (v := .agg #[.int .i64 0, .int .i64 0, .int .i64 w, .int .i64 h]) ?_ rfl ⟨rfl, ?_⟩
  · simp [results, Try.results70, go_sem, q0, q1, q2, q3]
  · first | exact (((Since.self hB).alloc _).alloc _).below | exact (((Since.self hB).alloc _).alloc _).all hB
end Go.Proofs.Ytoojiabdgaflgaa
