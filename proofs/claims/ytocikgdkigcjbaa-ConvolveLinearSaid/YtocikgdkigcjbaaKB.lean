/-
  Contracts of package rect and of its reference. Contracts: one rectangle inside another, and full rectangles. Contracts: products with a limit, and the areas of planes. Contracts: which planes are valid, in the program and in the reference. Contract: new planes, in the reference. Contracts: which edges are valid, in the program and in the reference. Contracts: products with a limit, for all integers. Contracts: how great the pixels of an integral plane may be, in the program and in the reference. Contracts: the bin of a pixel. Contract: the histogram of a rectangle of a plane, in the program. Contracts: the rectangle that a plane covers. Contracts: numbers beyond a limit; the sum of a rectangle out of an integral plane, in the program and in the reference. Contracts: equal rows and equal planes, in the reference; the tape's Plane and Edge.
-/
import Derived.Test.YtocikgdkigcjbaaProg
import Derived.Test.YtocikgdkigcjbaaKA
import Derived.WalkLawsBesides
import Derived.WalkSpells
import Derived.Deep.Light
import Derived.Deep.QuietTactic
import Derived.BigQuiet
import Derived.Deep.RegionHeld3
namespace Go.Proofs.Ytocikgdkigcjbaa
section
open Go.RowKit

set_option maxHeartbeats 400000 in
theorem rin_any (v : Int) (w : World) :
    Calls Try.prog 63 #[.int .i64 v] w fun e w' => e = .returned (.bool (rIn v)) ∧ w = w' := by
  go_enter Try.func63, Try.ntmps63
  go_wp2
  all_goals go_ret
  all_goals refine ⟨ret_b ?_, rfl⟩
  all_goals go_light
  all_goals (unfold rIn; simp; try omega)

set_option maxHeartbeats 400000 in
theorem rempty_any (x0 y0 x1 y1 : Int) (w : World) :
    Calls Try.prog 36 #[.agg #[.int .i64 x0, .int .i64 y0, .int .i64 x1, .int .i64 y1]] w fun e w' => e = .returned (.bool (rEmpty x0 y0 x1 y1)) ∧ Below w.heap.size w w' := by
  go_enter Try.func36, Try.ntmps36
  go_wp2
  all_goals go_ret
  all_goals refine ⟨ret_b ?_, below_self _ _⟩
  all_goals go_light
  all_goals (unfold rEmpty; simp [*])

set_option maxHeartbeats 800000 in
theorem rvalid_any (x0 y0 x1 y1 : Int) (w : World) :
    Calls Try.prog 57 #[.agg #[.int .i64 x0, .int .i64 y0, .int .i64 x1, .int .i64 y1]] w fun e w' => e = .returned (.bool (rValid x0 y0 x1 y1)) ∧ Below w.heap.size w w' := by
  cases he : rEmpty x0 y0 x1 y1 with
  | true =>
    have HE := hid he
    go_enter Try.func57, Try.ntmps57
    go_wp2_with (first | (go_at_call 36; refine (rempty_any _ _ _ _ _).mono ?_; rintro e w' ⟨rfl, hb⟩))
    go_ret
    exact ⟨ret_b (by rw [eq_comm, rValid_iff]; exact .inl (rEmpty_iff.1 HE.out)), below_trans (below_self _ _) hb (by simp)⟩
  | false =>
    have HE := hid he
    go_enter Try.func57, Try.ntmps57
    go_wp2_with (first
      | (go_at_call 36; refine (rempty_any _ _ _ _ _).mono ?_; rintro e w' ⟨rfl, hb⟩; obtain ⟨_, k0, k1, k2, k3⟩ := kept4 hb (alloc_at _ rfl))
      | (go_at_call 63; refine (rin_any _ _).mono ?_; rintro e w' ⟨rfl, rfl⟩))
    all_goals go_ret
    all_goals refine ⟨ret_b ?_, below_trans (below_self _ _) hb (by simp)⟩
    all_goals (have hf := HE.out; rw [← Bool.not_eq_true, rEmpty_iff] at hf)
    all_goals go_light
    all_goals (try simp only [rIn, decide_eq_true_eq] at *)
    all_goals (refine bool_of_iff ?_; rw [rValid_iff]; simp; try omega)

set_option maxHeartbeats 400000 in
theorem rcoord_any (v : Int) (w : World) :
    Calls Try.prog 65 #[.int .i64 v] w fun e w' => e = .returned (.bool (rIn v)) ∧ w = w' := by
  go_enter Try.func65, Try.ntmps65
  go_wp2
  all_goals go_ret
  all_goals refine ⟨ret_b ?_, rfl⟩
  all_goals go_light
  all_goals (unfold rIn; simp; try omega)

set_option maxHeartbeats 400000 in
theorem qempty_any (x0 y0 x1 y1 : Int) (w : World) :
    Calls Try.prog 51 #[.agg #[.int .i64 x0, .int .i64 y0, .int .i64 x1, .int .i64 y1]] w fun e w' => e = .returned (.bool (rEmpty x0 y0 x1 y1)) ∧ Below w.heap.size w w' := by
  go_enter Try.func51, Try.ntmps51
  go_wp2
  all_goals go_ret
  all_goals refine ⟨ret_b ?_, below_self _ _⟩
  all_goals go_light
  all_goals (unfold rEmpty; simp [*])

set_option maxHeartbeats 800000 in
theorem qvalid_any (x0 y0 x1 y1 : Int) (w : World) :
    Calls Try.prog 60 #[.agg #[.int .i64 x0, .int .i64 y0, .int .i64 x1, .int .i64 y1]] w fun e w' => e = .returned (.bool (rValid x0 y0 x1 y1)) ∧ Below w.heap.size w w' := by
  go_enter Try.func60, Try.ntmps60
  go_wp2_with (first
      | (go_at_call 65; refine (rcoord_any _ _).mono ?_; rintro e w' ⟨rfl, rfl⟩))
  all_goals go_ret
  all_goals refine ⟨ret_b ?_, below_self _ _⟩
  all_goals go_light
  all_goals (try simp only [rIn, decide_eq_true_eq] at *)
  all_goals (refine bool_of_iff ?_; rw [rValid_iff]; simp; try omega)
end

section
open Go.RowKit
set_option linter.unusedVariables false

set_option maxRecDepth 100000 in
set_option maxHeartbeats 1600000 in
theorem qinside_any (a0 a1 a2 a3 b0 b1 b2 b3 : Int) (w : World) :
    Calls Try.prog 44 #[.agg #[.int .i64 a0, .int .i64 a1, .int .i64 a2, .int .i64 a3], .agg #[.int .i64 b0, .int .i64 b1, .int .i64 b2, .int .i64 b3]] w fun e w' => e = .returned (.bool (rInside a0 a1 a2 a3 b0 b1 b2 b3)) ∧ Below w.heap.size w w' := by
  obtain ⟨B, hB⟩ : ∃ B, w.heap.size = B := ⟨_, rfl⟩
  cases va : rValid a0 a1 a2 a3 with
  | false =>
    have VA := hid va
    clear va
    go_enter Try.func44, Try.ntmps44
    go_wp2_with fail
    refine (qvalid_any _ _ _ _ _).mono ?_
    rintro e w1 ⟨rfl, hb⟩
    rw [VA.out]
    have S1 := hid (Since.call (((Since.self hB).alloc _).alloc _) hb)
    clear hb 
    go_wp2
    go_ret
    exact ⟨ret_b (by simp [rInside, VA.out]), by first | exact S1.out.all hB | exact S1.out.below⟩
  | true =>
    have VA := hid va
    clear va
    cases vb : rValid b0 b1 b2 b3 with
    | false =>
      have VB := hid vb
      clear vb
      go_enter Try.func44, Try.ntmps44
      go_wp2_with fail
      refine (qvalid_any _ _ _ _ _).mono ?_
      rintro e w1 ⟨rfl, hb⟩
      rw [VA.out]
      have KA := kept hb (alloc_past _ (alloc_at _ hB))
      obtain ⟨KP, p1_0, p1_1, p1_2, p1_3⟩ := kept4 hb (alloc_at _ (alloc_size _ hB))
      have S1 := hid (Since.call (((Since.self hB).alloc _).alloc _) hb)
      have HA1 := hid KA
      have HP1 := hid KP
      clear hb KA KP
      go_wp2_with fail
      refine (qvalid_any _ _ _ _ _).mono ?_
      rintro e w2 ⟨rfl, hb⟩
      rw [VB.out]
      have S2 := hid (Since.call S1.out hb)
      clear hb 
      go_wp2
      go_ret
      exact ⟨ret_b (by simp [rInside, VB.out]), by first | exact S2.out.all hB | exact S2.out.below⟩
    | true =>
      have VB := hid vb
      clear vb
      cases he : rEmpty a0 a1 a2 a3 with
      | true =>
        have HE := hid he
        clear he
        go_enter Try.func44, Try.ntmps44
        go_wp2_with fail
        refine (qvalid_any _ _ _ _ _).mono ?_
        rintro e w1 ⟨rfl, hb⟩
        rw [VA.out]
        have KA := kept hb (alloc_past _ (alloc_at _ hB))
        obtain ⟨KP, p1_0, p1_1, p1_2, p1_3⟩ := kept4 hb (alloc_at _ (alloc_size _ hB))
        have S1 := hid (Since.call (((Since.self hB).alloc _).alloc _) hb)
        have HA1 := hid KA
        have HP1 := hid KP
        clear hb KA KP
        go_wp2_with fail
        refine (qvalid_any _ _ _ _ _).mono ?_
        rintro e w2 ⟨rfl, hb⟩
        rw [VB.out]
        clear p1_0 p1_1 p1_2 p1_3
        obtain ⟨KA, a2_0, a2_1, a2_2, a2_3⟩ := kept4 hb HA1.out
        have KP := kept hb HP1.out
        have S2 := hid (Since.call S1.out hb)
        have HA2 := hid KA
        have HP2 := hid KP
        clear hb KA KP
        go_wp2_with fail
        refine (qempty_any _ _ _ _ _).mono ?_
        rintro e w3 ⟨rfl, hb⟩
        rw [HE.out]
        clear a2_0 a2_1 a2_2 a2_3
        have S3 := hid (Since.call S2.out hb)
        clear hb 
        go_wp2
        go_ret
        exact ⟨ret_b (by simp [rInside, VA.out, VB.out, HE.out]), by first | exact S3.out.all hB | exact S3.out.below⟩
      | false =>
        have HE := hid he
        clear he
        go_enter Try.func44, Try.ntmps44
        go_wp2_with fail
        refine (qvalid_any _ _ _ _ _).mono ?_
        rintro e w1 ⟨rfl, hb⟩
        rw [VA.out]
        have KA := kept hb (alloc_past _ (alloc_at _ hB))
        obtain ⟨KP, p1_0, p1_1, p1_2, p1_3⟩ := kept4 hb (alloc_at _ (alloc_size _ hB))
        have S1 := hid (Since.call (((Since.self hB).alloc _).alloc _) hb)
        have HA1 := hid KA
        have HP1 := hid KP
        clear hb KA KP
        go_wp2_with fail
        refine (qvalid_any _ _ _ _ _).mono ?_
        rintro e w2 ⟨rfl, hb⟩
        rw [VB.out]
        clear p1_0 p1_1 p1_2 p1_3
        obtain ⟨KA, a2_0, a2_1, a2_2, a2_3⟩ := kept4 hb HA1.out
        have KP := kept hb HP1.out
        have S2 := hid (Since.call S1.out hb)
        have HA2 := hid KA
        have HP2 := hid KP
        clear hb KA KP
        go_wp2_with fail
        refine (qempty_any _ _ _ _ _).mono ?_
        rintro e w3 ⟨rfl, hb⟩
        rw [HE.out]
        clear a2_0 a2_1 a2_2 a2_3
        obtain ⟨KA, a3_0, a3_1, a3_2, a3_3⟩ := kept4 hb HA2.out
        obtain ⟨KP, p3_0, p3_1, p3_2, p3_3⟩ := kept4 hb HP2.out
        have S3 := hid (Since.call S2.out hb)
        have HA3 := hid KA
        have HP3 := hid KP
        clear hb KA KP
        go_wp2
        all_goals go_ret
        all_goals refine ⟨ret_b ?_, by first | exact S3.out.all hB | exact S3.out.below⟩
        all_goals (simp only [rInside, VA.out, VB.out, HE.out])
        all_goals go_light
        all_goals (refine bool_of_iff ?_; simp; try omega)

set_option maxRecDepth 100000 in
set_option maxHeartbeats 1600000 in
theorem rinside_any (a0 a1 a2 a3 b0 b1 b2 b3 : Int) (w : World) :
    Calls Try.prog 37 #[.agg #[.int .i64 a0, .int .i64 a1, .int .i64 a2, .int .i64 a3], .agg #[.int .i64 b0, .int .i64 b1, .int .i64 b2, .int .i64 b3]] w fun e w' => e = .returned (.bool (rInside a0 a1 a2 a3 b0 b1 b2 b3)) ∧ Below w.heap.size w w' := by
  obtain ⟨B, hB⟩ : ∃ B, w.heap.size = B := ⟨_, rfl⟩
  cases va : rValid a0 a1 a2 a3 with
  | false =>
    have VA := hid va
    clear va
    go_enter Try.func37, Try.ntmps37
    go_wp2_with fail
    refine (rvalid_any _ _ _ _ _).mono ?_
    rintro e w1 ⟨rfl, hb⟩
    rw [VA.out]
    have S1 := hid (Since.call (((Since.self hB).alloc _).alloc _) hb)
    clear hb 
    go_wp2
    go_ret
    exact ⟨ret_b (by simp [rInside, VA.out]), by first | exact S1.out.all hB | exact S1.out.below⟩
  | true =>
    have VA := hid va
    clear va
    cases vb : rValid b0 b1 b2 b3 with
    | false =>
      have VB := hid vb
      clear vb
      go_enter Try.func37, Try.ntmps37
      go_wp2_with fail
      refine (rvalid_any _ _ _ _ _).mono ?_
      rintro e w1 ⟨rfl, hb⟩
      rw [VA.out]
      have KA := kept hb (alloc_past _ (alloc_at _ hB))
      obtain ⟨KP, p1_0, p1_1, p1_2, p1_3⟩ := kept4 hb (alloc_at _ (alloc_size _ hB))
      have S1 := hid (Since.call (((Since.self hB).alloc _).alloc _) hb)
      have HA1 := hid KA
      have HP1 := hid KP
      clear hb KA KP
      go_wp2_with fail
      refine (rvalid_any _ _ _ _ _).mono ?_
      rintro e w2 ⟨rfl, hb⟩
      rw [VB.out]
      have S2 := hid (Since.call S1.out hb)
      clear hb 
      go_wp2
      go_ret
      exact ⟨ret_b (by simp [rInside, VB.out]), by first | exact S2.out.all hB | exact S2.out.below⟩
    | true =>
      have VB := hid vb
      clear vb
      cases he : rEmpty a0 a1 a2 a3 with
      | true =>
        have HE := hid he
        clear he
        go_enter Try.func37, Try.ntmps37
        go_wp2_with fail
        refine (rvalid_any _ _ _ _ _).mono ?_
        rintro e w1 ⟨rfl, hb⟩
        rw [VA.out]
        have KA := kept hb (alloc_past _ (alloc_at _ hB))
        obtain ⟨KP, p1_0, p1_1, p1_2, p1_3⟩ := kept4 hb (alloc_at _ (alloc_size _ hB))
        have S1 := hid (Since.call (((Since.self hB).alloc _).alloc _) hb)
        have HA1 := hid KA
        have HP1 := hid KP
        clear hb KA KP
        go_wp2_with fail
        refine (rvalid_any _ _ _ _ _).mono ?_
        rintro e w2 ⟨rfl, hb⟩
        rw [VB.out]
        clear p1_0 p1_1 p1_2 p1_3
        obtain ⟨KA, a2_0, a2_1, a2_2, a2_3⟩ := kept4 hb HA1.out
        have KP := kept hb HP1.out
        have S2 := hid (Since.call S1.out hb)
        have HA2 := hid KA
        have HP2 := hid KP
        clear hb KA KP
        go_wp2_with fail
        refine (rempty_any _ _ _ _ _).mono ?_
        rintro e w3 ⟨rfl, hb⟩
        rw [HE.out]
        clear a2_0 a2_1 a2_2 a2_3
        have S3 := hid (Since.call S2.out hb)
        clear hb 
        go_wp2
        go_ret
        exact ⟨ret_b (by simp [rInside, VA.out, VB.out, HE.out]), by first | exact S3.out.all hB | exact S3.out.below⟩
      | false =>
        have HE := hid he
        clear he
        go_enter Try.func37, Try.ntmps37
        go_wp2_with fail
        refine (rvalid_any _ _ _ _ _).mono ?_
        rintro e w1 ⟨rfl, hb⟩
        rw [VA.out]
        have KA := kept hb (alloc_past _ (alloc_at _ hB))
        obtain ⟨KP, p1_0, p1_1, p1_2, p1_3⟩ := kept4 hb (alloc_at _ (alloc_size _ hB))
        have S1 := hid (Since.call (((Since.self hB).alloc _).alloc _) hb)
        have HA1 := hid KA
        have HP1 := hid KP
        clear hb KA KP
        go_wp2_with fail
        refine (rvalid_any _ _ _ _ _).mono ?_
        rintro e w2 ⟨rfl, hb⟩
        rw [VB.out]
        clear p1_0 p1_1 p1_2 p1_3
        obtain ⟨KA, a2_0, a2_1, a2_2, a2_3⟩ := kept4 hb HA1.out
        have KP := kept hb HP1.out
        have S2 := hid (Since.call S1.out hb)
        have HA2 := hid KA
        have HP2 := hid KP
        clear hb KA KP
        go_wp2_with fail
        refine (rempty_any _ _ _ _ _).mono ?_
        rintro e w3 ⟨rfl, hb⟩
        rw [HE.out]
        clear a2_0 a2_1 a2_2 a2_3
        obtain ⟨KA, a3_0, a3_1, a3_2, a3_3⟩ := kept4 hb HA2.out
        obtain ⟨KP, p3_0, p3_1, p3_2, p3_3⟩ := kept4 hb HP2.out
        have S3 := hid (Since.call S2.out hb)
        have HA3 := hid KA
        have HP3 := hid KP
        clear hb KA KP
        go_wp2
        all_goals go_ret
        all_goals refine ⟨ret_b ?_, by first | exact S3.out.all hB | exact S3.out.below⟩
        all_goals (simp only [rInside, VA.out, VB.out, HE.out])
        all_goals go_light
        all_goals (refine bool_of_iff ?_; simp; try omega)


def rFull (a0 a1 a2 a3 : Int) : Bool := rValid a0 a1 a2 a3 && !rEmpty a0 a1 a2 a3

set_option maxRecDepth 100000 in
theorem qfull_any (a0 a1 a2 a3 : Int) (w : World) :
    Calls Try.prog 43 #[.agg #[.int .i64 a0, .int .i64 a1, .int .i64 a2, .int .i64 a3]] w fun e w' => e = .returned (.bool (rFull a0 a1 a2 a3)) ∧ Below w.heap.size w w' := by
  obtain ⟨B, hB⟩ : ∃ B, w.heap.size = B := ⟨_, rfl⟩
  go_enter Try.func43, Try.ntmps43
  go_wp2_with fail
  refine (qvalid_any _ _ _ _ _).mono ?_
  rintro e w1 ⟨rfl, hb⟩
  obtain ⟨KA, a1_0, a1_1, a1_2, a1_3⟩ := kept4 hb (alloc_at _ hB)
  have S1 := hid (Since.call ((Since.self hB).alloc _) hb)
  clear hb KA
  cases va : rValid a0 a1 a2 a3 with
  | false =>
    have VA := hid va
    clear va
    go_wp2
    go_ret
    exact ⟨ret_b (by simp [rFull, VA.out]), by first | exact S1.out.all hB | exact S1.out.below⟩
  | true =>
    have VA := hid va
    clear va
    go_wp2_with fail
    refine (qempty_any _ _ _ _ _).mono ?_
    rintro e w2 ⟨rfl, hb⟩
    have S2 := hid (Since.call S1.out hb)
    clear hb
    go_wp2
    go_ret
    exact ⟨ret_b (by simp [rFull, VA.out]), by first | exact S2.out.all hB | exact S2.out.below⟩
end

section
open Go.RowKit
set_option linter.unusedVariables false
set_option linter.unusedSimpArgs false

theorem mul_any (a b l : Int) (w : World) (ha : a ≤ 9223372036854775807) (hl : l ≤ 9223372036854775807) :
    Calls Try.prog 62 #[.int .i64 a, .int .i64 b, .int .i64 l] w fun e w' => e = .returned (.tuple #[.int .i64 (mVal a b l), .bool (mOk a b l)]) ∧ w' = w := by
  by_cases h0 : 0 ≤ a ∧ 0 ≤ b ∧ 0 ≤ l
  · obtain ⟨a0, b0, l0⟩ := h0
    by_cases hb : b = 0
    · subst hb
      have hm : mOk a 0 l = true := mOk_iff.2 ⟨a0, b0, l0, by omega⟩
      have hv : mVal a 0 l = 0 := by simp [mVal]
      rw [hm, hv]
      clear hm hv
      go_enter Try.func62, Try.ntmps62
      go_wp2
      all_goals (go_ret2; exact ⟨rfl, rfl⟩)
    · have b1 : 0 < b := by omega
      have d0 : 0 ≤ l / b := Int.ediv_nonneg l0 (by omega)
      have d1 : l / b ≤ l := Int.ediv_le_self b l0
      have m2 : l.tdiv b = l / b := Int.tdiv_eq_ediv_of_nonneg l0
      have m4 : IntKind.i64.wrap (l / b) = l / b := IntWalk.i64_in _ (by omega)
      by_cases hc : l / b < a
      · have hm : mOk a b l = false := by rw [← Bool.not_eq_true, mOk_iff]; have := (mul_div b1).1 hc; omega
        have hv : mVal a b l = 0 := by simp [mVal, hm]
        rw [hm, hv]
        clear hm hv
        go_enter Try.func62, Try.ntmps62
        go_wp2
        all_goals (go_ret2; exact ⟨rfl, rfl⟩)
      · have hle : a * b ≤ l := by have := (not_congr (mul_div (a := a) (l := l) b1)).1 hc; omega
        have hm : mOk a b l = true := mOk_iff.2 ⟨a0, b0, l0, hle⟩
        have hv : mVal a b l = a * b := by simp [mVal, hm]
        have p0 : 0 ≤ a * b := Int.mul_nonneg a0 b0
        have m5 : IntKind.i64.wrap (a * b) = a * b := IntWalk.i64_in _ (by omega)
        rw [hm, hv]
        clear hm hv
        go_enter Try.func62, Try.ntmps62
        go_wp2
        all_goals (go_ret2; exact ⟨rfl, rfl⟩)
  · have hm : mOk a b l = false := by rw [← Bool.not_eq_true, mOk_iff]; omega
    have hv : mVal a b l = 0 := by simp [mVal, hm]
    rw [hm, hv]
    clear hm hv
    go_enter Try.func62, Try.ntmps62
    go_wp2
    all_goals (go_ret2; exact ⟨rfl, rfl⟩)
theorem area_any (a b mx : Int) (w : World) :
    Calls Try.prog 56 #[.int .i64 a, .int .i64 b, .int .i64 mx] w fun e w' => e = .returned (.tuple #[.int .i64 (pArea1 a b mx), .bool (pOk a b mx)]) ∧ w' = w := by
  by_cases h : 1 ≤ a ∧ a ≤ 128 ∧ 1 ≤ b ∧ b ≤ 128 ∧ 1 ≤ mx ∧ mx ≤ 4294967296
  · have e1 : pOk a b mx = mOk a b 4096 := by
      have : pOk a b mx = true ↔ mOk a b 4096 = true := by rw [pOk_iff, mOk_iff]; omega
      exact bool_of_iff this
    have e2 : pArea1 a b mx = mVal a b 4096 := by simp [pArea1, mVal, e1]
    have E := hid e1
    have E' := hid e2
    clear e1 e2
    obtain ⟨a1, a2, b1, b2, m1, m2⟩ := h
    go_enter Try.func56, Try.ntmps56
    go_wp2_with (first | (go_at_call 62; refine (mul_any _ _ _ _ (by omega) (by omega)).mono ?_; rintro e w' ⟨rfl, rfl⟩))
    all_goals (go_ret2; exact ⟨by rw [E.out, E'.out]; rfl, rfl⟩)
  · have e1 : pOk a b mx = false := by rw [← Bool.not_eq_true, pOk_iff]; omega
    have e2 : pArea1 a b mx = 0 := by simp [pArea1, e1]
    rw [e1, e2]
    clear e1 e2
    go_enter Try.func56, Try.ntmps56
    go_wp2_with fail
    all_goals first
      | (go_ret2; exact ⟨rfl, rfl⟩)
      | (exfalso; omega)

theorem qsize_any (a b mx : Int) (w : World) :
    Calls Try.prog 59 #[.int .i64 a, .int .i64 b, .int .i64 mx] w fun e w' => e = .returned (.bool (pOk a b mx)) ∧ w' = w := by
  by_cases h : 1 ≤ a ∧ a ≤ 128 ∧ 1 ≤ b ∧ b ≤ 128
  · obtain ⟨a1, a2, b1, b2⟩ := h
    have p1 : a * b ≤ 128 * 128 := Int.mul_le_mul a2 b2 (by omega) (by omega)
    have p2 : 0 ≤ a * b := Int.mul_nonneg (by omega) (by omega)
    have e : pOk a b mx = decide (a * b ≤ 4096 ∧ 1 ≤ mx ∧ mx ≤ 4294967296) := bool_of_iff (by rw [pOk_iff, decide_eq_true_eq]; omega)
    rw [e]
    clear e
    go_enter Try.func59, Try.ntmps59
    go_wp2
    all_goals (go_ret; refine ⟨ret_b (bool_of_iff ?_), rfl⟩; simp only [decide_eq_true_eq, Bool.false_eq_true, false_iff, true_iff, Bool.and_eq_true, iff_false, iff_true] <;> omega)
  · have e1 : pOk a b mx = false := by rw [← Bool.not_eq_true, pOk_iff]; omega
    rw [e1]
    clear e1
    go_enter Try.func59, Try.ntmps59
    go_wp2
    all_goals first
      | (go_ret; exact ⟨rfl, rfl⟩)
      | (exfalso; omega)
end

section
open Go.RowKit
set_option linter.unusedVariables false

/-- A box with a plane at B, and a row of integers. -/
structure PBox (B : Nat) (w h mx : Int) (a : Option Addr) (n c : Nat) (zs : List Int) (W w' : World) : Prop where
  box : w'.heap[B]? = some (.cells #[.int .i64 w, .int .i64 h, .int .i64 mx, .slice a n c] 35 (0, 0))
  row : Row w' .i64 a n zs
  since : Since B W w'
theorem PBox.cells {B : Nat} {w h mx : Int} {a : Option Addr} {n c : Nat} {zs : List Int} {W w' : World} (p : PBox B w h mx a n c zs W w') : w'.cell? ⟨B, 0, none⟩ = some (.int .i64 w) ∧ w'.cell? ⟨B, 1, none⟩ = some (.int .i64 h) ∧ w'.cell? ⟨B, 2, none⟩ = some (.int .i64 mx) ∧ w'.cell? ⟨B, 3, none⟩ = some (.slice a n c) :=
  ⟨cell_of p.box rfl, cell_of p.box rfl, cell_of p.box rfl, cell_of p.box rfl⟩
theorem PBox.call {B : Nat} {w h mx : Int} {a : Option Addr} {n c : Nat} {zs : List Int} {W w1 w' : World} (p : PBox B w h mx a n c zs W w1) (hb : Below w1.heap.size w1 w') : PBox B w h mx a n c zs W w' := ⟨kept hb p.box, p.row.below hb, p.since.call hb⟩
theorem PBox.drewN {B : Nat} {w h mx : Int} {a : Option Addr} {n c : Nat} {zs : List Int} {W w1 : World} (p : PBox B w h mx a n c zs W w1) (m : Nat) : PBox B w h mx a n c zs W (w1.drewN m) := p.call (below_drewN (Below.refl _ _) _)

set_option maxRecDepth 100000 in
set_option maxHeartbeats 1600000 in
theorem pvalid_any (w h mx : Int) (a : Option Addr) (n c : Nat) (zs : List Int) (W : World) (hn : n ≤ 9223372036854775807) (hr : Row W .i64 a n zs) :
    Calls Try.prog 34 #[.agg #[.int .i64 w, .int .i64 h, .int .i64 mx, .slice a n c]] W fun e w' => e = .returned (.bool (pValid w h mx zs)) ∧ Below W.heap.size W w' := by
  obtain ⟨B, hB⟩ : ∃ B, W.heap.size = B := ⟨_, rfl⟩
  have P0 := hid (PBox.mk (w := w) (h := h) (mx := mx) (c := c) (alloc_at (.cells #[.int .i64 w, .int .i64 h, .int .i64 mx, .slice a n c] 35) hB) (hr.alloc _) ((Since.self hB).alloc _))
  have HL := hid hr.len
  clear hr
  go_enter Try.func34, Try.ntmps34
  go_wp2_with fail
  refine (area_any _ _ _ _).mono ?_
  rintro e w' ⟨rfl, rfl⟩
  cases hp : pOk w h mx with
  | false =>
    have HV := hid (pValid_no (w := w) (h := h) (mx := mx) (zs := zs) (.inl hp))
    clear hp
    go_wp2_with fail
    go_ret
    exact ⟨by rw [HV.out]; rfl, by first | exact P0.out.since.all hB | exact P0.out.since.below⟩
  | true =>
    have e2 : pArea1 w h mx = w * h := by simp [pArea1, hp]
    rw [e2]
    clear e2
    obtain ⟨s, hs⟩ : ∃ s, w * h = s := ⟨_, rfl⟩
    rw [hs]
    have HS := hid hs
    have HP := hid hp
    clear hs hp
    by_cases hns : (n : Int) = s
    · subst hns
      have HV := hid (show allIn mx zs = true → pValid w h mx zs = true from fun ha => pValid_iff.2 ⟨HP.out, by rw [HL.out, HS.out], allIn_iff.1 ha⟩)
      have p0 := P0.out
      clear HS HP
      go_wp2_with fail
      go_loopw [29] (fun j wr => ∃ k : Nat, k ≤ n ∧ j = .int .i64 k ∧ (∀ i, i < k → 0 ≤ zs.getD i 0 ∧ zs.getD i 0 ≤ mx) ∧ PBox B w h mx a n c zs W wr) (fun j _ => n - (intOf j).toNat)
      case atStart => exact ⟨0, by omega, rfl, fun i hi => by omega, p0⟩
      case round =>
        obtain ⟨k, hk, rfl, ha, hh⟩ := hrel
        obtain ⟨w1, rfl⟩ : ∃ w1 : World, w1 = wr := ⟨_, rfl⟩
        have HA := hid ha
        have HH := hid hh
        obtain ⟨x0, x1, x2, x3⟩ := hh.cells
        clear ha hh p0 P0
        by_cases hkn : k < n
        · obtain ⟨b, o, rfl⟩ := row_at HH.out.row (by omega)
          have cz := row_cell HH.out.row hkn
          have hlt : k < zs.length := by rw [HL.out]; exact hkn
          have HB := hid (fun hbad : zs.getD k 0 < 0 ∨ mx < zs.getD k 0 => pValid_no (w := w) (h := h) (mx := mx) (zs := zs) (.inr (.inr (allIn_bad hlt hbad))))
          have HI := hid (show 0 ≤ zs.getD k 0 ∧ zs.getD k 0 ≤ mx → ∀ i, i < k + 1 → 0 ≤ zs.getD i 0 ∧ zs.getD i 0 ≤ mx from fun hg i hi => by
            rcases Nat.lt_or_ge i k with h' | h'
            · exact HA.out i h'
            · obtain rfl : i = k := by omega
              exact hg)
          generalize zs.getD k 0 = z at *
          have hk1 : (k : Int) < n := by omega
          go_wp2_with fail
          all_goals first
            | (go_ret; exact ⟨by rw [HB.out (by omega)]; rfl, by first | exact HH.out.since.all hB | exact HH.out.since.below⟩)
            | (go_roundw; (case rel => exact ⟨k + 1, by omega, by go_num, HI.out (by omega), HH.out⟩); (case measure => simp [intOf]; omega))
        · have e : k = n := by omega
          subst e
          have e1 : allIn mx zs = true := allIn_of fun i hi => HA.out i (by rw [HL.out] at hi; exact hi)
          have HV' := hid (HV.out e1)
          clear e1
          go_wp2_with fail
          go_ret
          exact ⟨by rw [HV'.out]; rfl, by first | exact HH.out.since.all hB | exact HH.out.since.below⟩
    · have HV := hid (pValid_no (w := w) (h := h) (mx := mx) (zs := zs) (.inr (.inl (by rw [HL.out, HS.out]; exact hns))))
      go_wp2_with fail
      go_ret
      exact ⟨by rw [HV.out]; rfl, by first | exact P0.out.since.all hB | exact P0.out.since.below⟩
set_option maxRecDepth 100000 in
set_option maxHeartbeats 1600000 in
theorem qpvalid_any (w h mx : Int) (a : Option Addr) (n c : Nat) (zs : List Int) (W : World) (hn : n ≤ 9223372036854775807) (hr : Row W .i64 a n zs) :
    Calls Try.prog 41 #[.agg #[.int .i64 w, .int .i64 h, .int .i64 mx, .slice a n c]] W fun e w' => e = .returned (.bool (pValid w h mx zs)) ∧ Below W.heap.size W w' := by
  obtain ⟨B, hB⟩ : ∃ B, W.heap.size = B := ⟨_, rfl⟩
  have P0 := hid (PBox.mk (w := w) (h := h) (mx := mx) (c := c) (alloc_at (.cells #[.int .i64 w, .int .i64 h, .int .i64 mx, .slice a n c] 35) hB) (hr.alloc _) ((Since.self hB).alloc _))
  have HL := hid hr.len
  clear hr
  go_enter Try.func41, Try.ntmps41
  go_wp2_with fail
  refine (qsize_any _ _ _ _).mono ?_
  rintro e w' ⟨rfl, rfl⟩
  cases hp : pOk w h mx with
  | false =>
    have HV := hid (pValid_no (w := w) (h := h) (mx := mx) (zs := zs) (.inl hp))
    clear hp
    go_wp2_with fail
    go_ret
    exact ⟨by rw [HV.out]; rfl, by first | exact P0.out.since.all hB | exact P0.out.since.below⟩
  | true =>
    obtain ⟨p1, p2, p3, p4, p5, _, _⟩ := pOk_iff.1 hp
    have p0' : 0 ≤ w * h := Int.mul_nonneg (by omega) (by omega)
    obtain ⟨s, hs, wr⟩ : ∃ s, w * h = s ∧ IntKind.i64.wrap (w * h) = s := ⟨_, rfl, IntWalk.i64_in _ (by omega)⟩
    rw [hs] at p0' p5
    have HS := hid hs
    have HP := hid hp
    clear hs hp
    by_cases hns : (n : Int) = s
    · subst hns
      have HV := hid (show allIn mx zs = true → pValid w h mx zs = true from fun ha => pValid_iff.2 ⟨HP.out, by rw [HL.out, HS.out], allIn_iff.1 ha⟩)
      have p0 := P0.out
      clear HS HP
      go_wp2_with fail
      go_loopw [3] (fun j wr => ∃ k : Nat, k ≤ n ∧ j = .int .i64 k ∧ (∀ i, i < k → 0 ≤ zs.getD i 0 ∧ zs.getD i 0 ≤ mx) ∧ PBox B w h mx a n c zs W wr) (fun j _ => n - (intOf j).toNat)
      case atStart => exact ⟨0, by omega, rfl, fun i hi => by omega, p0⟩
      case round =>
        obtain ⟨k, hk, rfl, ha, hh⟩ := hrel
        obtain ⟨w1, rfl⟩ : ∃ w1 : World, w1 = wr := ⟨_, rfl⟩
        have HA := hid ha
        have HH := hid hh
        obtain ⟨x0, x1, x2, x3⟩ := hh.cells
        clear ha hh p0 P0
        by_cases hkn : k < n
        · obtain ⟨b, o, rfl⟩ := row_at HH.out.row (by omega)
          have cz := row_cell HH.out.row hkn
          have hlt : k < zs.length := by rw [HL.out]; exact hkn
          have HB := hid (fun hbad : zs.getD k 0 < 0 ∨ mx < zs.getD k 0 => pValid_no (w := w) (h := h) (mx := mx) (zs := zs) (.inr (.inr (allIn_bad hlt hbad))))
          have HI := hid (show 0 ≤ zs.getD k 0 ∧ zs.getD k 0 ≤ mx → ∀ i, i < k + 1 → 0 ≤ zs.getD i 0 ∧ zs.getD i 0 ≤ mx from fun hg i hi => by
            rcases Nat.lt_or_ge i k with h' | h'
            · exact HA.out i h'
            · obtain rfl : i = k := by omega
              exact hg)
          generalize zs.getD k 0 = z at *
          have hk1 : (k : Int) < n := by omega
          by_cases hz : z < 0
          · go_wp2_with fail
            go_quiet (fail)
            go_wp2_with fail
            go_ret
            exact ⟨by rw [HB.out (by omega)]; rfl, by first | exact (HH.out.since.drewN _).all hB | exact (HH.out.since.drewN _).below⟩
          · by_cases hz2 : mx < z
            · go_wp2_with fail
              go_quiet (fail)
              go_wp2_with fail
              go_ret
              exact ⟨by rw [HB.out (by omega)]; rfl, by first | exact (HH.out.since.drewN _).all hB | exact (HH.out.since.drewN _).below⟩
            · go_wp2_with fail
              go_quiet (fail)
              go_wp2_with fail
              go_roundw
              case rel => exact ⟨k + 1, by omega, by go_num, HI.out (by omega), HH.out.drewN _⟩
              case measure => simp [intOf]; omega
        · have e : k = n := by omega
          subst e
          have e1 : allIn mx zs = true := allIn_of fun i hi => HA.out i (by rw [HL.out] at hi; exact hi)
          have HV' := hid (HV.out e1)
          clear e1
          go_wp2_with fail
          go_ret
          exact ⟨by rw [HV'.out]; rfl, by first | exact HH.out.since.all hB | exact HH.out.since.below⟩
    · have HV := hid (pValid_no (w := w) (h := h) (mx := mx) (zs := zs) (.inr (.inl (by rw [HL.out, HS.out]; exact hns))))
      go_wp2_with fail
      go_ret
      exact ⟨by rw [HV.out]; rfl, by first | exact P0.out.since.all hB | exact P0.out.since.below⟩
end

section
open Go.RowKit
set_option linter.unusedVariables false
set_option linter.unusedSimpArgs false

def nIf (w h mx x : Int) : Int := if pOk w h mx = true then x else 0
def nList (w h mx : Int) : List Int := if pOk w h mx = true then List.replicate (w * h).toNat 0 else []
def NewPost (w h mx : Int) (W : World) (e : Ending) (w' : World) : Prop :=
  ∃ v, e = .returned (.tuple #[.agg #[.int .i64 (nIf w h mx w), .int .i64 (nIf w h mx h), .int .i64 (nIf w h mx mx), v], .bool (pOk w h mx)]) ∧ Own W.heap.size w' v (nList w h mx) ∧ Below W.heap.size W w'

set_option maxRecDepth 100000 in
set_option maxHeartbeats 1600000 in
theorem qnew_any (w h mx : Int) (W : World) : Calls Try.prog 46 #[.int .i64 w, .int .i64 h, .int .i64 mx] W (NewPost w h mx W) := by
  obtain ⟨B, hB⟩ : ∃ B, W.heap.size = B := ⟨_, rfl⟩
  have H0 := hid ((St.init hB).alloc #[.int .i64 0, .int .i64 0, .int .i64 0, .slice none 0 0] 35 hB)
  go_enter Try.func46, Try.ntmps46
  go_wp2_with fail
  refine (qsize_any _ _ _ _).mono ?_
  rintro e w1 ⟨rfl, rfl⟩
  cases hp : pOk w h mx with
  | false =>
    have HI := hid (show ∀ x, nIf w h mx x = 0 from fun x => by unfold nIf; rw [if_neg (by rw [hp]; simp)])
    have HL := hid (show nList w h mx = [] by unfold nList; rw [if_neg (by rw [hp]; simp)])
    have HP := hid hp
    clear hp
    go_wp2_with fail
    refine bodyPost_ret (v := .tuple #[.agg #[.int .i64 0, .int .i64 0, .int .i64 0, .slice none 0 0], .bool false]) ?_ rfl ⟨_, by rw [HI.out, HI.out, HI.out, HP.out], by rw [HL.out]; exact Own.nil _ _, by first | exact H0.out.below | exact H0.out.below'⟩
    simp [results, Try.results46, go_sem, hB]
  | true =>
    have HI := hid (show ∀ x, nIf w h mx x = x from fun x => by unfold nIf; rw [if_pos hp])
    obtain ⟨p1, p2, p3, p4, p5, p6, p7⟩ := pOk_iff.1 hp
    have p0 := Int.mul_nonneg (a := w) (b := h) (by omega) (by omega)
    obtain ⟨N, hN⟩ : ∃ N : Nat, w * h = N := ⟨(w * h).toNat, by omega⟩
    have HL := hid (show nList w h mx = List.replicate N 0 by unfold nList; rw [if_pos hp, hN]; rfl)
    have HP := hid hp
    have N1 : N ≤ 4096 := by omega
    have q1 : IntKind.i64.wrap (N : Int) = N := IntWalk.i64_in _ (by omega)
    clear hp p0
    go_wp2_with (first | (at_make; refine make_int rfl _ _ rfl (B + 1) _ _ N rfl rfl (by first | rfl | exact hN) (by first | rfl | exact hN) (by omega) (by rw [alloc_size _ hB]; omega) ?_; intro w5 ho hb; rw [alloc_size _ hB] at ho ⊢; have H1 := hid (H0.out.made (alloc_size _ hB) ho (by rw [alloc_size _ hB]; rw [alloc_size _ hB] at hb; exact hb)); clear ho hb; have y0 := H1.out.cell 1 rfl 0 rfl; have y1 := H1.out.cell 1 rfl 1 rfl; have y2 := H1.out.cell 1 rfl 2 rfl; have y3 := H1.out.cell 1 rfl 3 rfl; have e0 := H1.out.free 1 rfl 0; have e1 := H1.out.free 1 rfl 1; have e2 := H1.out.free 1 rfl 2; have e3 := H1.out.free 1 rfl 3))
    have HZ := hid (H1.out.set4 1 rfl (.int .i64 w) (.int .i64 h) (.int .i64 mx) (.slice (some ⟨B + 1, 0, none⟩) N N))
    have k0 := HZ.out.cell 1 rfl 0 rfl
    have k1 := HZ.out.cell 1 rfl 1 rfl
    have k2 := HZ.out.cell 1 rfl 2 rfl
    have k3 := HZ.out.cell 1 rfl 3 rfl
    refine bodyPost_ret (v := .tuple #[.agg #[.int .i64 w, .int .i64 h, .int .i64 mx, .slice (some ⟨B + 1, 0, none⟩) N N], .bool true]) ?_ rfl ⟨_, by rw [HI.out, HI.out, HI.out, HP.out], by rw [HL.out, hB]; exact HZ.out.own 0 rfl, by first | exact HZ.out.below | exact HZ.out.below'⟩
    unfold set4 at k0 k1 k2 k3
    simp [results, Try.results46, go_sem, k0, k1, k2, k3]
end

section
open Go.RowKit

set_option maxHeartbeats 400000 in
theorem bvalid_any (p f m : Int) (w : World) :
    Calls Try.prog 35 #[.agg #[.int .i64 p, .int .i64 f], .int .i64 m] w fun e w' => e = .returned (.bool (bValid p f m)) ∧ Below w.heap.size w w' := by
  go_enter Try.func35, Try.ntmps35
  go_wp2
  all_goals go_ret
  all_goals refine ⟨ret_b ?_, (Below.refl _ _).alloc (Nat.le_refl _) _⟩
  all_goals simp only [beq_iff_eq, beq_eq_false_iff_ne, ne_eq] at *
  all_goals go_light
  all_goals unfold bValid
  all_goals (repeat' split)
  all_goals (first | rfl | omega | (rw [Bool.eq_iff_iff]; simp; omega) | (simp; omega))

set_option maxHeartbeats 400000 in
theorem rbvalid_any (p f m : Int) (w : World) :
    Calls Try.prog 42 #[.agg #[.int .i64 p, .int .i64 f], .int .i64 m] w fun e w' => e = .returned (.bool (bValid p f m)) ∧ Below w.heap.size w w' := by
  go_enter Try.func42, Try.ntmps42
  go_wp2
  all_goals go_ret
  all_goals refine ⟨ret_b ?_, (Below.refl _ _).alloc (Nat.le_refl _) _⟩
  all_goals simp only [beq_iff_eq, beq_eq_false_iff_ne, ne_eq] at *
  all_goals go_light
  all_goals unfold bValid
  all_goals (repeat' split)
  all_goals (first | rfl | omega | (rw [Bool.eq_iff_iff]; simp; omega) | (simp; omega))
end

section
open Go.RowKit
set_option linter.unusedVariables false
set_option linter.unusedSimpArgs false

theorem mulAny (a b l : Int) (w : World) (hl : l ≤ 9223372036854775807) :
    Calls Try.prog 62 #[.int .i64 a, .int .i64 b, .int .i64 l] w fun e w' => e = .returned (.tuple #[.int .i64 (mVal a b l), .bool (mOk a b l)]) ∧ w' = w := by
  by_cases h0 : 0 ≤ a ∧ 0 ≤ b ∧ 0 ≤ l
  · obtain ⟨a0, b0, l0⟩ := h0
    by_cases hb : b = 0
    · subst hb
      have hm : mOk a 0 l = true := mOk_iff.2 ⟨a0, b0, l0, by omega⟩
      have hv : mVal a 0 l = 0 := by simp [mVal]
      rw [hm, hv]
      clear hm hv
      go_enter Try.func62, Try.ntmps62
      go_wp2
      all_goals (go_ret2; exact ⟨rfl, rfl⟩)
    · have b1 : 0 < b := by omega
      have d0 : 0 ≤ l / b := Int.ediv_nonneg l0 (by omega)
      have d1 : l / b ≤ l := Int.ediv_le_self b l0
      have m2 : l.tdiv b = l / b := Int.tdiv_eq_ediv_of_nonneg l0
      have m4 : IntKind.i64.wrap (l / b) = l / b := IntWalk.i64_in _ (by omega)
      by_cases hc : l / b < a
      · have hm : mOk a b l = false := by rw [← Bool.not_eq_true, mOk_iff]; have := (mul_div b1).1 hc; omega
        have hv : mVal a b l = 0 := by simp [mVal, hm]
        rw [hm, hv]
        clear hm hv
        go_enter Try.func62, Try.ntmps62
        go_wp2
        all_goals (go_ret2; exact ⟨rfl, rfl⟩)
      · have hle : a * b ≤ l := by have := (not_congr (mul_div (a := a) (l := l) b1)).1 hc; omega
        have hm : mOk a b l = true := mOk_iff.2 ⟨a0, b0, l0, hle⟩
        have hv : mVal a b l = a * b := by simp [mVal, hm]
        have p0 : 0 ≤ a * b := Int.mul_nonneg a0 b0
        have m5 : IntKind.i64.wrap (a * b) = a * b := IntWalk.i64_in _ (by omega)
        rw [hm, hv]
        clear hm hv
        go_enter Try.func62, Try.ntmps62
        go_wp2
        all_goals (go_ret2; exact ⟨rfl, rfl⟩)
  · have hm : mOk a b l = false := by rw [← Bool.not_eq_true, mOk_iff]; omega
    have hv : mVal a b l = 0 := by simp [mVal, hm]
    rw [hm, hv]
    clear hm hv
    go_enter Try.func62, Try.ntmps62
    go_wp2
    all_goals (go_ret2; exact ⟨rfl, rfl⟩)
end

section
open Go.RowKit
set_option linter.unusedVariables false
set_option linter.unusedSimpArgs false

def kVal (w h mx : Int) (zs : List Int) : Int := if pValid w h mx zs = true then iVal w h mx else 0
def kCode (w h mx : Int) (zs : List Int) : Int := if pValid w h mx zs = true then iCode w h mx else 1
theorem iOk_no1 {w h mx : Int} (e : ¬ (1 ≤ w ∧ 1 ≤ h ∧ 1 ≤ mx)) : iOk w h mx = false := by rw [← Bool.not_eq_true, iOk_iff]; omega
theorem iVal_no {w h mx : Int} (e : iOk w h mx = false) : iVal w h mx = 0 := by unfold iVal; rw [e]; simp
theorem iVal_yes {w h mx : Int} (e : iOk w h mx = true) : iVal w h mx = w * h * mx := by unfold iVal; rw [if_pos e]
end

section
open Go.RowKit
set_option linter.unusedVariables false
end

section
open Go.RowKit
set_option linter.unusedVariables false

/-- Boxes with a plane at B and with a rectangle at B + 1, and the plane's pixels. -/
structure HBox (B : Nat) (w h mx : Int) (a : Option Addr) (n c : Nat) (zs : List Int) (r0 r1 r2 r3 : Int) (W w' : World) : Prop where
  pbox : w'.heap[B]? = some (.cells #[.int .i64 w, .int .i64 h, .int .i64 mx, .slice a n c] 35 (0, 0))
  rbox : w'.heap[B + 1]? = some (.cells #[.int .i64 r0, .int .i64 r1, .int .i64 r2, .int .i64 r3] 33 (0, 0))
  slc : Slc w' a n c zs
  since : Since B W w'
section
variable {B : Nat} {w h mx : Int} {a : Option Addr} {n c : Nat} {zs : List Int} {r0 r1 r2 r3 : Int} {W w1 w' : World}
theorem HBox.cells (p : HBox B w h mx a n c zs r0 r1 r2 r3 W w') : w'.cell? ⟨B, 0, none⟩ = some (.int .i64 w) ∧ w'.cell? ⟨B, 1, none⟩ = some (.int .i64 h) ∧ w'.cell? ⟨B, 2, none⟩ = some (.int .i64 mx) ∧ w'.cell? ⟨B, 3, none⟩ = some (.slice a n c) ∧
    w'.cell? ⟨B + 1, 0, none⟩ = some (.int .i64 r0) ∧ w'.cell? ⟨B + 1, 1, none⟩ = some (.int .i64 r1) ∧ w'.cell? ⟨B + 1, 2, none⟩ = some (.int .i64 r2) ∧ w'.cell? ⟨B + 1, 3, none⟩ = some (.int .i64 r3) :=
  ⟨cell_of p.pbox rfl, cell_of p.pbox rfl, cell_of p.pbox rfl, cell_of p.pbox rfl, cell_of p.rbox rfl, cell_of p.rbox rfl, cell_of p.rbox rfl, cell_of p.rbox rfl⟩
theorem HBox.call (p : HBox B w h mx a n c zs r0 r1 r2 r3 W w1) (hb : Below w1.heap.size w1 w') : HBox B w h mx a n c zs r0 r1 r2 r3 W w' := ⟨kept hb p.pbox, kept hb p.rbox, p.slc.call hb, p.since.call hb⟩
theorem HBox.drewN (p : HBox B w h mx a n c zs r0 r1 r2 r3 W w1) (m : Nat) : HBox B w h mx a n c zs r0 r1 r2 r3 W (w1.drewN m) := p.call (below_drewN (Below.refl _ _) _)
theorem HBox.grown {g : Nat} (p : HBox B w h mx a n c zs r0 r1 r2 r3 W w1) (hg : w1.grownBy w' (some g)) (hB : B + 2 ≤ g) (hf : Far a n g) : HBox B w h mx a n c zs r0 r1 r2 r3 W w' :=
  ⟨kept_grown hg p.pbox (by omega), kept_grown hg p.rbox (by omega), p.slc.grown hg hf, p.since.grown hg (by omega)⟩
theorem HBox.below (p : HBox B w h mx a n c zs r0 r1 r2 r3 W w') (hB : W.heap.size = B) : Below W.heap.size W w' := p.since.all hB
end

def PartialPost (w h mx : Int) (zs : List Int) (bins r0 r1 r2 r3 : Int) (W : World) (e : Ending) (w' : World) : Prop :=
  ∃ v, e = .returned (.tuple #[v, .int .i64 (hOk w h mx zs bins r0 r1 r2 r3)]) ∧ Own W.heap.size w' v (hList w h mx zs bins r0 r1 r2 r3) ∧ Below W.heap.size W w'
theorem partial_no {w h mx : Int} {zs : List Int} {bins r0 r1 r2 r3 : Int} {W w' : World} {k : Int} (hk : hOk w h mx zs bins r0 r1 r2 r3 = k) (h0 : k ≠ 0) (hb : Below W.heap.size W w') :
    PartialPost w h mx zs bins r0 r1 r2 r3 W (.returned (.tuple #[.slice none 0 0, .int .i64 k])) w' := by
  refine ⟨_, by rw [hk], ?_, hb⟩
  have : hList w h mx zs bins r0 r1 r2 r3 = [] := by unfold hList; rw [hk, if_neg h0]
  rw [this]; exact Own.nil _ _
end

section
open Go.RowKit
set_option linter.unusedVariables false

theorem qcover_any (w h mx : Int) (a : Option Addr) (n c : Nat) (W : World) :
    Calls Try.prog 45 #[.agg #[.int .i64 w, .int .i64 h, .int .i64 mx, .slice a n c]] W fun e w' => e = .returned (.agg #[.int .i64 0, .int .i64 0, .int .i64 w, .int .i64 h]) ∧ Below W.heap.size W w' := by
  obtain ⟨B, hB⟩ : ∃ B, W.heap.size = B := ⟨_, rfl⟩
  go_enter Try.func45, Try.ntmps45
  go_wp2_with fail
  have b := alloc_at (.cells #[.int .i64 0, .int .i64 0, .int .i64 w, .int .i64 h] 33) (alloc_size (.cells #[.int .i64 w, .int .i64 h, .int .i64 mx, .slice a n c] 35) hB)
  have q0 := cell_of (i := 0) b rfl
  have q1 := cell_of (i := 1) b rfl
  have q2 := cell_of (i := 2) b rfl
  have q3 := cell_of (i := 3) b rfl
  refine bodyPost_ret (v := .agg #[.int .i64 0, .int .i64 0, .int .i64 w, .int .i64 h]) ?_ rfl ⟨rfl, ?_⟩
  · simp [results, Try.results45, go_sem, q0, q1, q2, q3]
  · first | exact (((Since.self hB).alloc _).alloc _).below | exact (((Since.self hB).alloc _).alloc _).all hB
end

section
open Go.RowKit
set_option linter.unusedVariables false
set_option linter.unusedSimpArgs false

def qAt (w : Int) (zs : List Int) (x y : Int) : Int := if x < 0 ∨ y < 0 then 0 else zs.getD (y * w + x).toNat 0
theorem qAt_no {w : Int} {zs : List Int} {x y : Int} (h : x < 0 ∨ y < 0) : qAt w zs x y = 0 := by unfold qAt; rw [if_pos h]
theorem qAt_yes {w : Int} {zs : List Int} {x y : Int} (h : ¬ (x < 0 ∨ y < 0)) : qAt w zs x y = zs.getD (y * w + x).toNat 0 := by unfold qAt; rw [if_neg h]
theorem qAt_bd {w h mx : Int} {zs : List Int} (hv : pValid w h mx zs = true) (x y : Int) : 0 ≤ qAt w zs x y ∧ qAt w zs x y ≤ mx := by
  have hm := (pOk_iff.1 (pValid_iff.1 hv).1).2.2.2.2.2.1
  unfold qAt
  split
  · omega
  · rcases Nat.lt_or_ge (y * w + x).toNat zs.length with h' | h'
    · rw [List.getD_eq_getElem?_getD, List.getElem?_eq_getElem h']
      exact (pValid_iff.1 hv).2.2 _ (List.getElem_mem h')
    · rw [List.getD_eq_getElem?_getD, List.getElem?_eq_none h']
      show (0 : Int) ≤ 0 ∧ (0 : Int) ≤ mx
      omega
/-- The place of a pixel. -/
theorem pix_at {w h x y : Int} (h1 : 1 ≤ w) (h2 : w ≤ 128) (h3 : h ≤ 128) (x0 : 0 ≤ x) (x1 : x < w) (y0 : 0 ≤ y) (y1 : y < h) : 0 ≤ y * w ∧ y * w ≤ 128 * 128 ∧ 0 ≤ y * w + x ∧ y * w + x < w * h := by
  have p0 : 0 ≤ y * w := Int.mul_nonneg y0 (by omega)
  have p1 : y * w ≤ 128 * 128 := Int.mul_le_mul (by omega) h2 (by omega) (by omega)
  have p2 : y * w ≤ (h - 1) * w := Int.mul_le_mul_of_nonneg_right (by omega) (by omega)
  rw [Int.sub_mul, Int.one_mul, Int.mul_comm h w] at p2
  omega
end

section
open Go.RowKit
set_option linter.unusedVariables false
set_option linter.unusedSimpArgs false

theorem ne_of_getD {xs ys : List Int} {j : Nat} (hx : j < xs.length) (hy : j < ys.length) (h : xs.getD j 0 ≠ ys.getD j 0) : xs ≠ ys := fun e => h (by rw [e])
theorem eq_of_getD {xs ys : List Int} (hl : xs.length = ys.length) (h : ∀ i, i < xs.length → xs.getD i 0 = ys.getD i 0) : xs = ys := by
  refine List.ext_getElem hl fun i h1 h2 => ?_
  have := h i h1
  rwa [List.getD_eq_getElem?_getD, List.getD_eq_getElem?_getD, List.getElem?_eq_getElem h1, List.getElem?_eq_getElem h2] at this

def lEq (xs ys : List Int) : Bool := decide (xs = ys)
set_option maxRecDepth 100000 in
set_option maxHeartbeats 1600000 in
theorem qsame_any (a : Option Addr) (n c : Nat) (xs : List Int) (a' : Option Addr) (n' c' : Nat) (ys : List Int) (W : World) (hx : Slc W a n c xs) (hy : Slc W a' n' c' ys) :
    Calls Try.prog 50 #[.slice a n c, .slice a' n' c'] W fun e w' => e = .returned (.bool (lEq xs ys)) ∧ ∃ m, w' = W.drewN m := by
  have HX := hid hx
  have HY := hid hy
  have LX := hid hx.len
  have LY := hid hy.len
  obtain ⟨nc1, nc2⟩ := And.intro hx.nc hx.cap
  have nm : (n : Int) ≤ 9223372036854775807 := by omega
  clear hx hy nc1 nc2
  by_cases hn : n = n'
  · subst hn
    go_enter Try.func50, Try.ntmps50
    go_wp2_with fail
    go_loopw [5] (fun i wr => ∃ j : Nat, j ≤ n ∧ i = .int .i64 j ∧ (∀ i, i < j → xs.getD i 0 = ys.getD i 0) ∧ ∃ m, wr = W.drewN m) (fun i _ => n - (intOf i).toNat)
    case atStart => exact ⟨0, by omega, rfl, fun i hi => by omega, 0, rfl⟩
    case round =>
      obtain ⟨j, hj, rfl, ha, m, hm⟩ := hrel
      obtain ⟨w1, rfl⟩ : ∃ w1 : World, w1 = wr := ⟨_, rfl⟩
      have HA := hid ha
      have HM := hid hm
      have HX1 := hid (show Slc w1 a n c xs by rw [hm]; exact HX.out.drewN m)
      have HY1 := hid (show Slc w1 a' n c' ys by rw [hm]; exact HY.out.drewN m)
      clear ha hm
      by_cases hjn : j < n
      · obtain ⟨b, o, rfl⟩ := row_at HX1.out.row (by omega)
        obtain ⟨b', o', rfl⟩ := row_at HY1.out.row (by omega)
        have cx := row_cell HX1.out.row hjn
        have cy := row_cell HY1.out.row hjn
        have hjn' : (j : Int) < n := by omega
        have HB := hid (fun h : xs.getD j 0 ≠ ys.getD j 0 => ne_of_getD (by have := LX.out; omega) (by have := LY.out; omega) h)
        have HI := hid (show xs.getD j 0 = ys.getD j 0 → ∀ i, i < j + 1 → xs.getD i 0 = ys.getD i 0 from fun hg i hi => by
          rcases Nat.lt_or_ge i j with h' | h'
          · exact HA.out i h'
          · obtain rfl : i = j := by omega
            exact hg)
        generalize xs.getD j 0 = x at *
        generalize ys.getD j 0 = y at *
        by_cases hxy : x = y
        · have h1 : (x != y) = false := by simp [hxy]
          have HXY := hid hxy
          clear hxy
          go_wp2_with fail
          go_quiet (fail)
          go_wp2_with fail
          go_roundw
          case rel => exact ⟨j + 1, by omega, by go_num, HI.out HXY.out, _, by rw [HM.out, World.drewN_drewN]⟩
          case measure => simp [intOf]; omega
        · have h1 : (x != y) = true := by simp [hxy]
          have h2 : (x == y) = false := by simp [hxy]
          go_wp2_with fail
          go_quiet (fail)
          go_wp2_with fail
          go_ret
          exact ⟨ret_b (by unfold lEq; rw [eq_comm, decide_eq_false_iff_not]; exact HB.out hxy), _, by rw [HM.out, World.drewN_drewN]⟩
      · obtain rfl : n = j := by omega
        go_wp2_with fail
        go_ret
        exact ⟨ret_b (by unfold lEq; rw [eq_comm, decide_eq_true_eq]; exact eq_of_getD (by rw [LX.out, LY.out]) (fun i hi => HA.out i (by rw [LX.out] at hi; exact hi))), m, HM.out⟩
  · have h1 : ((n : Int) != (n' : Int)) = true := by simp; omega
    have h2 : ((n : Int) == (n' : Int)) = false := by simp; omega
    go_enter Try.func50, Try.ntmps50
    go_wp2_with fail
    go_ret
    exact ⟨ret_b (by unfold lEq; rw [eq_comm, decide_eq_false_iff_not]; exact fun e => hn (by rw [← LX.out, ← LY.out, e])), 0, rfl⟩
end
end Go.Proofs.Ytocikgdkigcjbaa
