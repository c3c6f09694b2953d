/-
  Contracts: one rectangle inside another, and full rectangles.
-/
import Derived.Test.YtoojiabdgaflgaaRect
import Derived.Deep.Light
namespace Go.Proofs.Ytoojiabdgaflgaa
open Go.RowKit
set_option linter.unusedVariables false

set_option maxRecDepth 100000 in
set_option maxHeartbeats 1600000 in
theorem qinside_any (a0 a1 a2 a3 b0 b1 b2 b3 : Int) (w : World) :
    Calls Try.prog 69 #[.agg #[.int .i64 a0, .int .i64 a1, .int .i64 a2, .int .i64 a3], .agg #[.int .i64 b0, .int .i64 b1, .int .i64 b2, .int .i64 b3]] w fun e w' => e = .returned (.bool (rInside a0 a1 a2 a3 b0 b1 b2 b3)) ∧ Below w.heap.size w w' := by
  obtain ⟨B, hB⟩ : ∃ B, w.heap.size = B := ⟨_, rfl⟩
  cases va : rValid a0 a1 a2 a3 with
  | false =>
    have VA := hid va
    clear va
    go_enter Try.func69, Try.ntmps69
    go_wp2_with fail
    refine (qvalid_any _ _ _ _ _).mono ?_
    rintro e w1 ⟨rfl, hb⟩
    rw [VA.out]
    have S1 := hid (Since.call (((Since.self hB).alloc _).alloc _) hb)
    clear hb 
    go_wp2
    go_ret
    exact ⟨ret_b (by simp [rInside, VA.out]), by first | exact S1.out.all hB | exact S1.out.below⟩
  | true =>
    have VA := hid va
    clear va
    cases vb : rValid b0 b1 b2 b3 with
    | false =>
      have VB := hid vb
      clear vb
      go_enter Try.func69, Try.ntmps69
      go_wp2_with fail
      refine (qvalid_any _ _ _ _ _).mono ?_
      rintro e w1 ⟨rfl, hb⟩
      rw [VA.out]
      have KA := kept hb (alloc_past _ (alloc_at _ hB))
      obtain ⟨KP, p1_0, p1_1, p1_2, p1_3⟩ := kept4 hb (alloc_at _ (alloc_size _ hB))
      have S1 := hid (Since.call (((Since.self hB).alloc _).alloc _) hb)
      have HA1 := hid KA
      have HP1 := hid KP
      clear hb KA KP
      go_wp2_with fail
      refine (qvalid_any _ _ _ _ _).mono ?_
      rintro e w2 ⟨rfl, hb⟩
      rw [VB.out]
      have S2 := hid (Since.call S1.out hb)
      clear hb 
      go_wp2
      go_ret
      exact ⟨ret_b (by simp [rInside, VB.out]), by first | exact S2.out.all hB | exact S2.out.below⟩
    | true =>
      have VB := hid vb
      clear vb
      cases he : rEmpty a0 a1 a2 a3 with
      | true =>
        have HE := hid he
        clear he
        go_enter Try.func69, Try.ntmps69
        go_wp2_with fail
        refine (qvalid_any _ _ _ _ _).mono ?_
        rintro e w1 ⟨rfl, hb⟩
        rw [VA.out]
        have KA := kept hb (alloc_past _ (alloc_at _ hB))
        obtain ⟨KP, p1_0, p1_1, p1_2, p1_3⟩ := kept4 hb (alloc_at _ (alloc_size _ hB))
        have S1 := hid (Since.call (((Since.self hB).alloc _).alloc _) hb)
        have HA1 := hid KA
        have HP1 := hid KP
        clear hb KA KP
        go_wp2_with fail
        refine (qvalid_any _ _ _ _ _).mono ?_
        rintro e w2 ⟨rfl, hb⟩
        rw [VB.out]
        clear p1_0 p1_1 p1_2 p1_3
        obtain ⟨KA, a2_0, a2_1, a2_2, a2_3⟩ := kept4 hb HA1.out
        have KP := kept hb HP1.out
        have S2 := hid (Since.call S1.out hb)
        have HA2 := hid KA
        have HP2 := hid KP
        clear hb KA KP
        go_wp2_with fail
        refine (qempty_any _ _ _ _ _).mono ?_
        rintro e w3 ⟨rfl, hb⟩
        rw [HE.out]
        clear a2_0 a2_1 a2_2 a2_3
        have S3 := hid (Since.call S2.out hb)
        clear hb 
        go_wp2
        go_ret
        exact ⟨ret_b (by simp [rInside, VA.out, VB.out, HE.out]), by first | exact S3.out.all hB | exact S3.out.below⟩
      | false =>
        have HE := hid he
        clear he
        go_enter Try.func69, Try.ntmps69
        go_wp2_with fail
        refine (qvalid_any _ _ _ _ _).mono ?_
        rintro e w1 ⟨rfl, hb⟩
        rw [VA.out]
        have KA := kept hb (alloc_past _ (alloc_at _ hB))
        obtain ⟨KP, p1_0, p1_1, p1_2, p1_3⟩ := kept4 hb (alloc_at _ (alloc_size _ hB))
        have S1 := hid (Since.call (((Since.self hB).alloc _).alloc _) hb)
        have HA1 := hid KA
        have HP1 := hid KP
        clear hb KA KP
        go_wp2_with fail
        refine (qvalid_any _ _ _ _ _).mono ?_
        rintro e w2 ⟨rfl, hb⟩
        rw [VB.out]
        clear p1_0 p1_1 p1_2 p1_3
        obtain ⟨KA, a2_0, a2_1, a2_2, a2_3⟩ := kept4 hb HA1.out
        have KP := kept hb HP1.out
        have S2 := hid (Since.call S1.out hb)
        have HA2 := hid KA
        have HP2 := hid KP
        clear hb KA KP
        go_wp2_with fail
        refine (qempty_any _ _ _ _ _).mono ?_
        rintro e w3 ⟨rfl, hb⟩
        rw [HE.out]
        clear a2_0 a2_1 a2_2 a2_3
        obtain ⟨KA, a3_0, a3_1, a3_2, a3_3⟩ := kept4 hb HA2.out
        obtain ⟨KP, p3_0, p3_1, p3_2, p3_3⟩ := kept4 hb HP2.out
        have S3 := hid (Since.call S2.out hb)
        have HA3 := hid KA
        have HP3 := hid KP
        clear hb KA KP
        go_wp2
        all_goals go_ret
        all_goals refine ⟨ret_b ?_, by first | exact S3.out.all hB | exact S3.out.below⟩
        all_goals (simp only [rInside, VA.out, VB.out, HE.out])
        all_goals go_light
        all_goals (refine bool_of_iff ?_; simp; try omega)

set_option maxRecDepth 100000 in
set_option maxHeartbeats 1600000 in
theorem rinside_any (a0 a1 a2 a3 b0 b1 b2 b3 : Int) (w : World) :
    Calls Try.prog 67 #[.agg #[.int .i64 a0, .int .i64 a1, .int .i64 a2, .int .i64 a3], .agg #[.int .i64 b0, .int .i64 b1, .int .i64 b2, .int .i64 b3]] w fun e w' => e = .returned (.bool (rInside a0 a1 a2 a3 b0 b1 b2 b3)) ∧ Below w.heap.size w w' := by
  obtain ⟨B, hB⟩ : ∃ B, w.heap.size = B := ⟨_, rfl⟩
  cases va : rValid a0 a1 a2 a3 with
  | false =>
    have VA := hid va
    clear va
    go_enter Try.func67, Try.ntmps67
    go_wp2_with fail
    refine (rvalid_any _ _ _ _ _).mono ?_
    rintro e w1 ⟨rfl, hb⟩
    rw [VA.out]
    have S1 := hid (Since.call (((Since.self hB).alloc _).alloc _) hb)
    clear hb 
    go_wp2
    go_ret
    exact ⟨ret_b (by simp [rInside, VA.out]), by first | exact S1.out.all hB | exact S1.out.below⟩
  | true =>
    have VA := hid va
    clear va
    cases vb : rValid b0 b1 b2 b3 with
    | false =>
      have VB := hid vb
      clear vb
      go_enter Try.func67, Try.ntmps67
      go_wp2_with fail
      refine (rvalid_any _ _ _ _ _).mono ?_
      rintro e w1 ⟨rfl, hb⟩
      rw [VA.out]
      have KA := kept hb (alloc_past _ (alloc_at _ hB))
      obtain ⟨KP, p1_0, p1_1, p1_2, p1_3⟩ := kept4 hb (alloc_at _ (alloc_size _ hB))
      have S1 := hid (Since.call (((Since.self hB).alloc _).alloc _) hb)
      have HA1 := hid KA
      have HP1 := hid KP
      clear hb KA KP
      go_wp2_with fail
      refine (rvalid_any _ _ _ _ _).mono ?_
      rintro e w2 ⟨rfl, hb⟩
      rw [VB.out]
      have S2 := hid (Since.call S1.out hb)
      clear hb 
      go_wp2
      go_ret
      exact ⟨ret_b (by simp [rInside, VB.out]), by first | exact S2.out.all hB | exact S2.out.below⟩
    | true =>
      have VB := hid vb
      clear vb
      cases he : rEmpty a0 a1 a2 a3 with
      | true =>
        have HE := hid he
        clear he
        go_enter Try.func67, Try.ntmps67
        go_wp2_with fail
        refine (rvalid_any _ _ _ _ _).mono ?_
        rintro e w1 ⟨rfl, hb⟩
        rw [VA.out]
        have KA := kept hb (alloc_past _ (alloc_at _ hB))
        obtain ⟨KP, p1_0, p1_1, p1_2, p1_3⟩ := kept4 hb (alloc_at _ (alloc_size _ hB))
        have S1 := hid (Since.call (((Since.self hB).alloc _).alloc _) hb)
        have HA1 := hid KA
        have HP1 := hid KP
        clear hb KA KP
        go_wp2_with fail
        refine (rvalid_any _ _ _ _ _).mono ?_
        rintro e w2 ⟨rfl, hb⟩
        rw [VB.out]
        clear p1_0 p1_1 p1_2 p1_3
        obtain ⟨KA, a2_0, a2_1, a2_2, a2_3⟩ := kept4 hb HA1.out
        have KP := kept hb HP1.out
        have S2 := hid (Since.call S1.out hb)
        have HA2 := hid KA
        have HP2 := hid KP
        clear hb KA KP
        go_wp2_with fail
        refine (rempty_any _ _ _ _ _).mono ?_
        rintro e w3 ⟨rfl, hb⟩
        rw [HE.out]
        clear a2_0 a2_1 a2_2 a2_3
        have S3 := hid (Since.call S2.out hb)
        clear hb 
        go_wp2
        go_ret
        exact ⟨ret_b (by simp [rInside, VA.out, VB.out, HE.out]), by first | exact S3.out.all hB | exact S3.out.below⟩
      | false =>
        have HE := hid he
        clear he
        go_enter Try.func67, Try.ntmps67
        go_wp2_with fail
        refine (rvalid_any _ _ _ _ _).mono ?_
        rintro e w1 ⟨rfl, hb⟩
        rw [VA.out]
        have KA := kept hb (alloc_past _ (alloc_at _ hB))
        obtain ⟨KP, p1_0, p1_1, p1_2, p1_3⟩ := kept4 hb (alloc_at _ (alloc_size _ hB))
        have S1 := hid (Since.call (((Since.self hB).alloc _).alloc _) hb)
        have HA1 := hid KA
        have HP1 := hid KP
        clear hb KA KP
        go_wp2_with fail
        refine (rvalid_any _ _ _ _ _).mono ?_
        rintro e w2 ⟨rfl, hb⟩
        rw [VB.out]
        clear p1_0 p1_1 p1_2 p1_3
        obtain ⟨KA, a2_0, a2_1, a2_2, a2_3⟩ := kept4 hb HA1.out
        have KP := kept hb HP1.out
        have S2 := hid (Since.call S1.out hb)
        have HA2 := hid KA
        have HP2 := hid KP
        clear hb KA KP
        go_wp2_with fail
        refine (rempty_any _ _ _ _ _).mono ?_
        rintro e w3 ⟨rfl, hb⟩
        rw [HE.out]
        clear a2_0 a2_1 a2_2 a2_3
        obtain ⟨KA, a3_0, a3_1, a3_2, a3_3⟩ := kept4 hb HA2.out
        obtain ⟨KP, p3_0, p3_1, p3_2, p3_3⟩ := kept4 hb HP2.out
        have S3 := hid (Since.call S2.out hb)
        have HA3 := hid KA
        have HP3 := hid KP
        clear hb KA KP
        go_wp2
        all_goals go_ret
        all_goals refine ⟨ret_b ?_, by first | exact S3.out.all hB | exact S3.out.below⟩
        all_goals (simp only [rInside, VA.out, VB.out, HE.out])
        all_goals go_light
        all_goals (refine bool_of_iff ?_; simp; try omega)


def rFull (a0 a1 a2 a3 : Int) : Bool := rValid a0 a1 a2 a3 && !rEmpty a0 a1 a2 a3

set_option maxRecDepth 100000 in
theorem qfull_any (a0 a1 a2 a3 : Int) (w : World) :
    Calls Try.prog 68 #[.agg #[.int .i64 a0, .int .i64 a1, .int .i64 a2, .int .i64 a3]] w fun e w' => e = .returned (.bool (rFull a0 a1 a2 a3)) ∧ Below w.heap.size w w' := by
  obtain ⟨B, hB⟩ : ∃ B, w.heap.size = B := ⟨_, rfl⟩
  go_enter Try.func68, Try.ntmps68
  go_wp2_with fail
  refine (qvalid_any _ _ _ _ _).mono ?_
  rintro e w1 ⟨rfl, hb⟩
  obtain ⟨KA, a1_0, a1_1, a1_2, a1_3⟩ := kept4 hb (alloc_at _ hB)
  have S1 := hid (Since.call ((Since.self hB).alloc _) hb)
  clear hb KA
  cases va : rValid a0 a1 a2 a3 with
  | false =>
    have VA := hid va
    clear va
    go_wp2
    go_ret
    exact ⟨ret_b (by simp [rFull, VA.out]), by first | exact S1.out.all hB | exact S1.out.below⟩
  | true =>
    have VA := hid va
    clear va
    go_wp2_with fail
    refine (qempty_any _ _ _ _ _).mono ?_
    rintro e w2 ⟨rfl, hb⟩
    have S2 := hid (Since.call S1.out hb)
    clear hb
    go_wp2
    go_ret
    exact ⟨ret_b (by simp [rFull, VA.out]), by first | exact S2.out.all hB | exact S2.out.below⟩
end Go.Proofs.Ytoojiabdgaflgaa
