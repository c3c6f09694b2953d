/-
  Contracts of package rect and of its reference.
-/
import Derived.Test.YtekpekhdkghnmaaProg
import Derived.Test.YtekpekhdkghnmaaRectPlain
import Derived.Test.YtekpekhdkghnmaaHeap
import Derived.WalkLawsBesides
import Derived.WalkSpells
import Derived.Deep.Light
namespace Go.Proofs.Ytekpekhdkghnmaa
open Go.RowKit

set_option maxHeartbeats 400000 in
theorem rin_any (v : Int) (w : World) :
    Calls Try.prog 50 #[.int .i64 v] w fun e w' => e = .returned (.bool (rIn v)) ∧ w = w' := by
  go_enter Try.func50, Try.ntmps50
  go_wp2
  all_goals go_ret
  all_goals refine ⟨ret_b ?_, rfl⟩
  all_goals go_light
  all_goals (unfold rIn; simp; try omega)

set_option maxHeartbeats 400000 in
theorem rempty_any (x0 y0 x1 y1 : Int) (w : World) :
    Calls Try.prog 45 #[.agg #[.int .i64 x0, .int .i64 y0, .int .i64 x1, .int .i64 y1]] w fun e w' => e = .returned (.bool (rEmpty x0 y0 x1 y1)) ∧ Below w.heap.size w w' := by
  go_enter Try.func45, Try.ntmps45
  go_wp2
  all_goals go_ret
  all_goals refine ⟨ret_b ?_, below_self _ _⟩
  all_goals go_light
  all_goals (unfold rEmpty; simp [*])

set_option maxHeartbeats 800000 in
theorem rvalid_any (x0 y0 x1 y1 : Int) (w : World) :
    Calls Try.prog 49 #[.agg #[.int .i64 x0, .int .i64 y0, .int .i64 x1, .int .i64 y1]] w fun e w' => e = .returned (.bool (rValid x0 y0 x1 y1)) ∧ Below w.heap.size w w' := by
  cases he : rEmpty x0 y0 x1 y1 with
  | true =>
    have HE := hid he
    go_enter Try.func49, Try.ntmps49
    go_wp2_with (first | (go_at_call 45; refine (rempty_any _ _ _ _ _).mono ?_; rintro e w' ⟨rfl, hb⟩))
    go_ret
    exact ⟨ret_b (by rw [eq_comm, rValid_iff]; exact .inl (rEmpty_iff.1 HE.out)), below_trans (below_self _ _) hb (by simp)⟩
  | false =>
    have HE := hid he
    go_enter Try.func49, Try.ntmps49
    go_wp2_with (first
      | (go_at_call 45; refine (rempty_any _ _ _ _ _).mono ?_; rintro e w' ⟨rfl, hb⟩; obtain ⟨_, k0, k1, k2, k3⟩ := kept4 hb (alloc_at _ rfl))
      | (go_at_call 50; refine (rin_any _ _).mono ?_; rintro e w' ⟨rfl, rfl⟩))
    all_goals go_ret
    all_goals refine ⟨ret_b ?_, below_trans (below_self _ _) hb (by simp)⟩
    all_goals (have hf := HE.out; rw [← Bool.not_eq_true, rEmpty_iff] at hf)
    all_goals go_light
    all_goals (try simp only [rIn, decide_eq_true_eq] at *)
    all_goals (refine bool_of_iff ?_; rw [rValid_iff]; simp; try omega)

set_option maxHeartbeats 400000 in
theorem rcoord_any (v : Int) (w : World) :
    Calls Try.prog 48 #[.int .i64 v] w fun e w' => e = .returned (.bool (rIn v)) ∧ w = w' := by
  go_enter Try.func48, Try.ntmps48
  go_wp2
  all_goals go_ret
  all_goals refine ⟨ret_b ?_, rfl⟩
  all_goals go_light
  all_goals (unfold rIn; simp; try omega)

set_option maxHeartbeats 400000 in
theorem qempty_any (x0 y0 x1 y1 : Int) (w : World) :
    Calls Try.prog 33 #[.agg #[.int .i64 x0, .int .i64 y0, .int .i64 x1, .int .i64 y1]] w fun e w' => e = .returned (.bool (rEmpty x0 y0 x1 y1)) ∧ Below w.heap.size w w' := by
  go_enter Try.func33, Try.ntmps33
  go_wp2
  all_goals go_ret
  all_goals refine ⟨ret_b ?_, below_self _ _⟩
  all_goals go_light
  all_goals (unfold rEmpty; simp [*])

set_option maxHeartbeats 800000 in
theorem qvalid_any (x0 y0 x1 y1 : Int) (w : World) :
    Calls Try.prog 43 #[.agg #[.int .i64 x0, .int .i64 y0, .int .i64 x1, .int .i64 y1]] w fun e w' => e = .returned (.bool (rValid x0 y0 x1 y1)) ∧ Below w.heap.size w w' := by
  go_enter Try.func43, Try.ntmps43
  go_wp2_with (first
      | (go_at_call 48; refine (rcoord_any _ _).mono ?_; rintro e w' ⟨rfl, rfl⟩))
  all_goals go_ret
  all_goals refine ⟨ret_b ?_, below_self _ _⟩
  all_goals go_light
  all_goals (try simp only [rIn, decide_eq_true_eq] at *)
  all_goals (refine bool_of_iff ?_; rw [rValid_iff]; simp; try omega)
end Go.Proofs.Ytekpekhdkghnmaa
