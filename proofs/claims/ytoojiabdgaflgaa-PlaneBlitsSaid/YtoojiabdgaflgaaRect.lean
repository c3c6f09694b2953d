/-
  Contracts of package rect and of its reference.
-/
import Derived.Test.YtoojiabdgaflgaaProg
import Derived.Test.YtoojiabdgaflgaaRectPlain
import Derived.Test.YtoojiabdgaflgaaHeap
import Derived.WalkLawsBesides
import Derived.WalkSpells
import Derived.Deep.Light
namespace Go.Proofs.Ytoojiabdgaflgaa
open Go.RowKit

set_option maxHeartbeats 400000 in
theorem rin_any (v : Int) (w : World) :
    Calls Try.prog 97 #[.int .i64 v] w fun e w' => e = .returned (.bool (rIn v)) ∧ w = w' := by
  go_enter Try.func97, Try.ntmps97
  go_wp2
  all_goals go_ret
  all_goals refine ⟨ret_b ?_, rfl⟩
  all_goals go_light
  all_goals (unfold rIn; simp; try omega)

set_option maxHeartbeats 400000 in
theorem rempty_any (x0 y0 x1 y1 : Int) (w : World) :
    Calls Try.prog 66 #[.agg #[.int .i64 x0, .int .i64 y0, .int .i64 x1, .int .i64 y1]] w fun e w' => e = .returned (.bool (rEmpty x0 y0 x1 y1)) ∧ Below w.heap.size w w' := by
  go_enter Try.func66, Try.ntmps66
  go_wp2
  all_goals go_ret
  all_goals refine ⟨ret_b ?_, below_self _ _⟩
  all_goals go_light
  all_goals (unfold rEmpty; simp [*])

set_option maxHeartbeats 800000 in
theorem rvalid_any (x0 y0 x1 y1 : Int) (w : World) :
    Calls Try.prog 91 #[.agg #[.int .i64 x0, .int .i64 y0, .int .i64 x1, .int .i64 y1]] w fun e w' => e = .returned (.bool (rValid x0 y0 x1 y1)) ∧ Below w.heap.size w w' := by
  cases he : rEmpty x0 y0 x1 y1 with
  | true =>
    have HE := hid he
    go_enter Try.func91, Try.ntmps91
    go_wp2_with (first | (go_at_call 66; refine (rempty_any _ _ _ _ _).mono ?_; rintro e w' ⟨rfl, hb⟩))
    go_ret
    exact ⟨ret_b (by rw [eq_comm, rValid_iff]; exact .inl (rEmpty_iff.1 HE.out)), below_trans (below_self _ _) hb (by simp)⟩
  | false =>
    have HE := hid he
    go_enter Try.func91, Try.ntmps91
    go_wp2_with (first
      | (go_at_call 66; refine (rempty_any _ _ _ _ _).mono ?_; rintro e w' ⟨rfl, hb⟩; obtain ⟨_, k0, k1, k2, k3⟩ := kept4 hb (alloc_at _ rfl))
      | (go_at_call 97; refine (rin_any _ _).mono ?_; rintro e w' ⟨rfl, rfl⟩))
    all_goals go_ret
    all_goals refine ⟨ret_b ?_, below_trans (below_self _ _) hb (by simp)⟩
    all_goals (have hf := HE.out; rw [← Bool.not_eq_true, rEmpty_iff] at hf)
    all_goals go_light
    all_goals (try simp only [rIn, decide_eq_true_eq] at *)
    all_goals (refine bool_of_iff ?_; rw [rValid_iff]; simp; try omega)

set_option maxHeartbeats 400000 in
theorem rcoord_any (v : Int) (w : World) :
    Calls Try.prog 96 #[.int .i64 v] w fun e w' => e = .returned (.bool (rIn v)) ∧ w = w' := by
  go_enter Try.func96, Try.ntmps96
  go_wp2
  all_goals go_ret
  all_goals refine ⟨ret_b ?_, rfl⟩
  all_goals go_light
  all_goals (unfold rIn; simp; try omega)

set_option maxHeartbeats 400000 in
theorem qempty_any (x0 y0 x1 y1 : Int) (w : World) :
    Calls Try.prog 89 #[.agg #[.int .i64 x0, .int .i64 y0, .int .i64 x1, .int .i64 y1]] w fun e w' => e = .returned (.bool (rEmpty x0 y0 x1 y1)) ∧ Below w.heap.size w w' := by
  go_enter Try.func89, Try.ntmps89
  go_wp2
  all_goals go_ret
  all_goals refine ⟨ret_b ?_, below_self _ _⟩
  all_goals go_light
  all_goals (unfold rEmpty; simp [*])

set_option maxHeartbeats 800000 in
theorem qvalid_any (x0 y0 x1 y1 : Int) (w : World) :
    Calls Try.prog 90 #[.agg #[.int .i64 x0, .int .i64 y0, .int .i64 x1, .int .i64 y1]] w fun e w' => e = .returned (.bool (rValid x0 y0 x1 y1)) ∧ Below w.heap.size w w' := by
  go_enter Try.func90, Try.ntmps90
  go_wp2_with (first
      | (go_at_call 96; refine (rcoord_any _ _).mono ?_; rintro e w' ⟨rfl, rfl⟩))
  all_goals go_ret
  all_goals refine ⟨ret_b ?_, below_self _ _⟩
  all_goals go_light
  all_goals (try simp only [rIn, decide_eq_true_eq] at *)
  all_goals (refine bool_of_iff ?_; rw [rValid_iff]; simp; try omega)
end Go.Proofs.Ytoojiabdgaflgaa
