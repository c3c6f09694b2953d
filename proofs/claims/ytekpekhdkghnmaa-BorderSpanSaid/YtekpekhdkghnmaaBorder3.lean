/-
  Contracts of border.Valid and its reference, and of the chapter's examples.
-/
import Derived.Test.YtekpekhdkghnmaaBorder2
import Derived.Test.YtekpekhdkghnmaaHeap
namespace Go.Proofs.Ytekpekhdkghnmaa
open Go.RowKit

set_option maxHeartbeats 400000 in
theorem bvalid_any (p f m : Int) (w : World) :
    Calls Try.prog 16 #[.agg #[.int .i64 p, .int .i64 f], .int .i64 m] w fun e w' => e = .returned (.bool (bValid p f m)) ∧ Below w.heap.size w w' := by
  go_enter Try.func16, Try.ntmps16
  go_wp2
  all_goals go_ret
  all_goals refine ⟨ret_b ?_, (Below.refl _ _).alloc (Nat.le_refl _) _⟩
  all_goals simp only [beq_iff_eq, beq_eq_false_iff_ne, ne_eq] at *
  all_goals go_light
  all_goals unfold bValid
  all_goals (repeat' split)
  all_goals (first | rfl | omega | (rw [Bool.eq_iff_iff]; simp; omega) | (simp; omega))

set_option maxHeartbeats 400000 in
theorem rbvalid_any (p f m : Int) (w : World) :
    Calls Try.prog 17 #[.agg #[.int .i64 p, .int .i64 f], .int .i64 m] w fun e w' => e = .returned (.bool (bValid p f m)) ∧ Below w.heap.size w w' := by
  go_enter Try.func17, Try.ntmps17
  go_wp2
  all_goals go_ret
  all_goals refine ⟨ret_b ?_, (Below.refl _ _).alloc (Nat.le_refl _) _⟩
  all_goals simp only [beq_iff_eq, beq_eq_false_iff_ne, ne_eq] at *
  all_goals go_light
  all_goals unfold bValid
  all_goals (repeat' split)
  all_goals (first | rfl | omega | (rw [Bool.eq_iff_iff]; simp; omega) | (simp; omega))

theorem index_at (i n p a : Int) (b : Bool) (w : World) (h : bIdx i n p = a) (h' : bOk i n p = b) :
    Calls Try.prog 13 #[.int .i64 i, .int .i64 n, .int .i64 p] w fun e w' => e = .returned (.tuple #[.int .i64 a, .bool b]) ∧ w = w' := by
  subst h h'; exact index_any i n p w

theorem range_at (a b n p lo hi : Int) (ok : Bool) (w : World) (h : RangeSpec a b n p lo hi ok) :
    Calls Try.prog 21 #[.int .i64 a, .int .i64 b, .int .i64 n, .int .i64 p] w fun e w' => e = .returned (.tuple #[.int .i64 lo, .int .i64 hi, .bool ok]) ∧ w = w' :=
  (range_any a b n p w).mono fun _ _ ⟨_, _, _, he, hs, hw⟩ => by obtain ⟨rfl, rfl, rfl⟩ := hs.unique h; exact ⟨he, hw⟩

theorem spec1 : RangeSpec (-2) 1 4 2 0 3 true := by
  refine spec_in (by unfold inC; omega) ⟨fun _ => ⟨⟨0, by omega, by omega, by decide, by decide⟩, ⟨-1, by omega, by omega, by decide, by decide⟩⟩, fun i h1 h2 _ => ?_, fun h => by simp at h⟩
  have : i = -2 ∨ i = -1 ∨ i = 0 := by omega
  rcases this with rfl | rfl | rfl <;> decide
theorem spec2 : RangeSpec 4 9 4 3 0 0 false :=
  spec_none fun i h1 h2 => by rw [bOk_const (by omega) (by omega)]; simp; omega

set_option maxHeartbeats 400000 in
theorem sane3 (w : World) : Calls Try.prog 14 #[] w fun e w' => e = .returned (.bool true) ∧ Below w.heap.size w w' := by
  have v : Hid (bValid 3 3 3 = true) := (by decide : bValid 3 3 3 = true)
  go_enter Try.func14, Try.ntmps14
  go_wp2_with fail
  refine (index_at _ _ _ 0 true _ (by decide) (by decide)).mono ?_
  rintro e w' ⟨rfl, rfl⟩
  go_wp2_with fail
  refine (index_at _ _ _ 2 true _ (by decide) (by decide)).mono ?_
  rintro e w' ⟨rfl, rfl⟩
  go_wp2_with fail
  refine (range_at _ _ _ _ _ _ _ _ spec1).mono ?_
  rintro e w' ⟨rfl, rfl⟩
  go_wp2_with fail
  refine (range_at _ _ _ _ _ _ _ _ spec2).mono ?_
  rintro e w' ⟨rfl, rfl⟩
  go_wp2_with fail
  refine (bvalid_any _ _ _ _).mono ?_
  rintro e w' ⟨rfl, hb⟩
  rw [v.out]
  go_wp2
  go_ret
  exact ⟨rfl, hb⟩
end Go.Proofs.Ytekpekhdkghnmaa
