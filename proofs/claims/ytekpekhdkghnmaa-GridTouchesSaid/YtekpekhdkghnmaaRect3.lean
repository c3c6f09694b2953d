/-
  Contracts of the reference's rectangles: what is common, what lies inside, what is contained, areas.
-/
import Derived.Test.YtekpekhdkghnmaaRect2
namespace Go.Proofs.Ytekpekhdkghnmaa
open Go.RowKit

set_option maxRecDepth 100000 in
set_option maxHeartbeats 1600000 in
theorem qisect_any (a0 a1 a2 a3 b0 b1 b2 b3 : Int) (w : World) :
    Calls Try.prog 34 #[.agg #[.int .i64 a0, .int .i64 a1, .int .i64 a2, .int .i64 a3], .agg #[.int .i64 b0, .int .i64 b1, .int .i64 b2, .int .i64 b3]] w
      (RectPost (rX0 a0 a1 a2 a3 b0 b1 b2 b3) (rY0 a0 a1 a2 a3 b0 b1 b2 b3) (rX1 a0 a1 a2 a3 b0 b1 b2 b3) (rY1 a0 a1 a2 a3 b0 b1 b2 b3) w) := by
  obtain ⟨B, hB⟩ : ∃ B, w.heap.size = B := ⟨_, rfl⟩
  have M := hid (rMeet_iff (a0 := a0) (a1 := a1) (a2 := a2) (a3 := a3) (b0 := b0) (b1 := b1) (b2 := b2) (b3 := b3))
  have emax : ∀ x y : Int, (if x < y then y else x) = max x y := fun x y => by omega
  have emin : ∀ x y : Int, (if y < x then y else x) = min x y := fun x y => by omega
  cases va : rValid a0 a1 a2 a3 with
  | false =>
    have VA := hid va
    clear va
    go_enter Try.func34, Try.ntmps34
    go_wp2_with fail
    refine (qvalid_any _ _ _ _ _).mono ?_
    rintro e w1 ⟨rfl, hb⟩
    rw [VA.out]
    obtain ⟨KR, r1_0, r1_1, r1_2, r1_3⟩ := kept4 hb (alloc_past _ (alloc_at _ (alloc_size _ (alloc_size _ hB))))
    have S1 := hid (Since.call (((((Since.self hB).alloc _).alloc _).alloc _).alloc _) hb)
    have HR1 := hid KR
    clear hb KR
    obtain ⟨f0, f1, f2, f3⟩ := free4 HR1.out
    go_wp2
    obtain ⟨q0, q1, q2, q3⟩ := set4_cells (x := .int .i64 (0)) (y := .int .i64 (0)) (z := .int .i64 (0)) (u := .int .i64 (0)) HR1.out
    have N : rMeet a0 a1 a2 a3 b0 b1 b2 b3 = false := by simp [rMeet, VA.out]
    refine bodyPost_ret (v := .agg #[.int .i64 (0), .int .i64 (0), .int .i64 (0), .int .i64 (0)]) ?_ rfl ⟨by simp [rX0, rY0, rX1, rY1, N], ?_⟩
    · unfold set4 at q0 q1 q2 q3
      simp [results, Try.results34, go_sem, q0, q1, q2, q3]
    · first | exact (Since.set4 (b := B + 1 + 1) S1.out (by omega)).below | exact (Since.set4 (b := B + 1 + 1) S1.out (by omega)).all hB
  | true =>
    have VA := hid va
    clear va
    cases vb : rValid b0 b1 b2 b3 with
    | false =>
      have VB := hid vb
      clear vb
      go_enter Try.func34, Try.ntmps34
      go_wp2_with fail
      refine (qvalid_any _ _ _ _ _).mono ?_
      rintro e w1 ⟨rfl, hb⟩
      rw [VA.out]
      have KR := kept hb (alloc_past _ (alloc_at _ (alloc_size _ (alloc_size _ hB))))
      obtain ⟨KP, p1_0, p1_1, p1_2, p1_3⟩ := kept4 hb (alloc_past _ (alloc_past _ (alloc_at _ (alloc_size _ hB))))
      have KT := kept hb (alloc_at _ (alloc_size _ (alloc_size _ (alloc_size _ hB))))
      have S1 := hid (Since.call (((((Since.self hB).alloc _).alloc _).alloc _).alloc _) hb)
      have HR1 := hid KR
      have HP1 := hid KP
      have HT1 := hid KT
      clear hb KR KP KT
      go_wp2_with fail
      refine (qvalid_any _ _ _ _ _).mono ?_
      rintro e w2 ⟨rfl, hb⟩
      rw [VB.out]
      clear p1_0 p1_1 p1_2 p1_3
      obtain ⟨KR, r2_0, r2_1, r2_2, r2_3⟩ := kept4 hb HR1.out
      obtain ⟨KT, t2_0, t2_1, t2_2, t2_3⟩ := kept4 hb HT1.out
      have S2 := hid (Since.call S1.out hb)
      have HR2 := hid KR
      have HT2 := hid KT
      clear hb KR KT
      obtain ⟨f0, f1, f2, f3⟩ := free4 HR2.out
      go_wp2
      obtain ⟨q0, q1, q2, q3⟩ := set4_cells (x := .int .i64 (0)) (y := .int .i64 (0)) (z := .int .i64 (0)) (u := .int .i64 (0)) HR2.out
      have N : rMeet a0 a1 a2 a3 b0 b1 b2 b3 = false := by simp [rMeet, VB.out]
      refine bodyPost_ret (v := .agg #[.int .i64 (0), .int .i64 (0), .int .i64 (0), .int .i64 (0)]) ?_ rfl ⟨by simp [rX0, rY0, rX1, rY1, N], ?_⟩
      · unfold set4 at q0 q1 q2 q3
        simp [results, Try.results34, go_sem, q0, q1, q2, q3]
      · first | exact (Since.set4 (b := B + 1 + 1) S2.out (by omega)).below | exact (Since.set4 (b := B + 1 + 1) S2.out (by omega)).all hB
    | true =>
      have VB := hid vb
      clear vb
      by_cases hc : max a0 b0 < min a2 b2 ∧ max a1 b1 < min a3 b3
      · obtain ⟨hc1, hc2⟩ := hc
        go_enter Try.func34, Try.ntmps34
        go_wp2_with fail
        refine (qvalid_any _ _ _ _ _).mono ?_
        rintro e w1 ⟨rfl, hb⟩
        rw [VA.out]
        have KR := kept hb (alloc_past _ (alloc_at _ (alloc_size _ (alloc_size _ hB))))
        obtain ⟨KP, p1_0, p1_1, p1_2, p1_3⟩ := kept4 hb (alloc_past _ (alloc_past _ (alloc_at _ (alloc_size _ hB))))
        have KT := kept hb (alloc_at _ (alloc_size _ (alloc_size _ (alloc_size _ hB))))
        have S1 := hid (Since.call (((((Since.self hB).alloc _).alloc _).alloc _).alloc _) hb)
        have HR1 := hid KR
        have HP1 := hid KP
        have HT1 := hid KT
        clear hb KR KP KT
        go_wp2_with fail
        refine (qvalid_any _ _ _ _ _).mono ?_
        rintro e w2 ⟨rfl, hb⟩
        rw [VB.out]
        clear p1_0 p1_1 p1_2 p1_3
        obtain ⟨KR, r2_0, r2_1, r2_2, r2_3⟩ := kept4 hb HR1.out
        obtain ⟨KT, t2_0, t2_1, t2_2, t2_3⟩ := kept4 hb HT1.out
        have S2 := hid (Since.call S1.out hb)
        have HR2 := hid KR
        have HT2 := hid KT
        clear hb KR KT
        obtain ⟨f0, f1, f2, f3⟩ := free4 HR2.out
        go_wp2
        obtain ⟨q0, q1, q2, q3⟩ := set4_cells (x := .int .i64 (max a0 b0)) (y := .int .i64 (max a1 b1)) (z := .int .i64 (min a2 b2)) (u := .int .i64 (min a3 b3)) HR2.out
        have N : rMeet a0 a1 a2 a3 b0 b1 b2 b3 = true := M.out.2 ⟨VA.out, VB.out, hc1, hc2⟩
        refine bodyPost_ret (v := .agg #[.int .i64 (max a0 b0), .int .i64 (max a1 b1), .int .i64 (min a2 b2), .int .i64 (min a3 b3)]) ?_ rfl ⟨by simp [rX0, rY0, rX1, rY1, N], ?_⟩
        · unfold set4 at q0 q1 q2 q3
          simp [results, Try.results34, go_sem, q0, q1, q2, q3]
        · first | exact (Since.set4 (b := B + 1 + 1) S2.out (by omega)).below | exact (Since.set4 (b := B + 1 + 1) S2.out (by omega)).all hB
      · have NC := hid hc
        have hn : min a2 b2 ≤ max a0 b0 ∨ (max a0 b0 < min a2 b2 ∧ min a3 b3 ≤ max a1 b1) := by omega
        clear hc
        rcases hn with hn | ⟨hn, hn'⟩
        all_goals
          go_enter Try.func34, Try.ntmps34
          go_wp2_with fail
          refine (qvalid_any _ _ _ _ _).mono ?_
          rintro e w1 ⟨rfl, hb⟩
          rw [VA.out]
          have KR := kept hb (alloc_past _ (alloc_at _ (alloc_size _ (alloc_size _ hB))))
          obtain ⟨KP, p1_0, p1_1, p1_2, p1_3⟩ := kept4 hb (alloc_past _ (alloc_past _ (alloc_at _ (alloc_size _ hB))))
          have KT := kept hb (alloc_at _ (alloc_size _ (alloc_size _ (alloc_size _ hB))))
          have S1 := hid (Since.call (((((Since.self hB).alloc _).alloc _).alloc _).alloc _) hb)
          have HR1 := hid KR
          have HP1 := hid KP
          have HT1 := hid KT
          clear hb KR KP KT
          go_wp2_with fail
          refine (qvalid_any _ _ _ _ _).mono ?_
          rintro e w2 ⟨rfl, hb⟩
          rw [VB.out]
          clear p1_0 p1_1 p1_2 p1_3
          obtain ⟨KR, r2_0, r2_1, r2_2, r2_3⟩ := kept4 hb HR1.out
          obtain ⟨KT, t2_0, t2_1, t2_2, t2_3⟩ := kept4 hb HT1.out
          have S2 := hid (Since.call S1.out hb)
          have HR2 := hid KR
          have HT2 := hid KT
          clear hb KR KT
          obtain ⟨f0, f1, f2, f3⟩ := free4 HR2.out
          go_wp2
          obtain ⟨q0, q1, q2, q3⟩ := set4_cells (x := .int .i64 (0)) (y := .int .i64 (0)) (z := .int .i64 (0)) (u := .int .i64 (0)) HR2.out
          have N : rMeet a0 a1 a2 a3 b0 b1 b2 b3 = false := by rw [← Bool.not_eq_true, M.out]; exact fun h => NC.out h.2.2
          refine bodyPost_ret (v := .agg #[.int .i64 (0), .int .i64 (0), .int .i64 (0), .int .i64 (0)]) ?_ rfl ⟨by simp [rX0, rY0, rX1, rY1, N], ?_⟩
          · unfold set4 at q0 q1 q2 q3
            simp [results, Try.results34, go_sem, q0, q1, q2, q3]
          · first | exact (Since.set4 (b := B + 1 + 1) S2.out (by omega)).below | exact (Since.set4 (b := B + 1 + 1) S2.out (by omega)).all hB

set_option maxRecDepth 100000 in
set_option maxHeartbeats 1600000 in
theorem qinside_any (a0 a1 a2 a3 b0 b1 b2 b3 : Int) (w : World) :
    Calls Try.prog 29 #[.agg #[.int .i64 a0, .int .i64 a1, .int .i64 a2, .int .i64 a3], .agg #[.int .i64 b0, .int .i64 b1, .int .i64 b2, .int .i64 b3]] w fun e w' => e = .returned (.bool (rInside a0 a1 a2 a3 b0 b1 b2 b3)) ∧ Below w.heap.size w w' := by
  obtain ⟨B, hB⟩ : ∃ B, w.heap.size = B := ⟨_, rfl⟩
  cases va : rValid a0 a1 a2 a3 with
  | false =>
    have VA := hid va
    clear va
    go_enter Try.func29, Try.ntmps29
    go_wp2_with fail
    refine (qvalid_any _ _ _ _ _).mono ?_
    rintro e w1 ⟨rfl, hb⟩
    rw [VA.out]
    have S1 := hid (Since.call (((Since.self hB).alloc _).alloc _) hb)
    clear hb 
    go_wp2
    go_ret
    exact ⟨ret_b (by simp [rInside, VA.out]), by first | exact S1.out.all hB | exact S1.out.below⟩
  | true =>
    have VA := hid va
    clear va
    cases vb : rValid b0 b1 b2 b3 with
    | false =>
      have VB := hid vb
      clear vb
      go_enter Try.func29, Try.ntmps29
      go_wp2_with fail
      refine (qvalid_any _ _ _ _ _).mono ?_
      rintro e w1 ⟨rfl, hb⟩
      rw [VA.out]
      have KA := kept hb (alloc_past _ (alloc_at _ hB))
      obtain ⟨KP, p1_0, p1_1, p1_2, p1_3⟩ := kept4 hb (alloc_at _ (alloc_size _ hB))
      have S1 := hid (Since.call (((Since.self hB).alloc _).alloc _) hb)
      have HA1 := hid KA
      have HP1 := hid KP
      clear hb KA KP
      go_wp2_with fail
      refine (qvalid_any _ _ _ _ _).mono ?_
      rintro e w2 ⟨rfl, hb⟩
      rw [VB.out]
      have S2 := hid (Since.call S1.out hb)
      clear hb 
      go_wp2
      go_ret
      exact ⟨ret_b (by simp [rInside, VB.out]), by first | exact S2.out.all hB | exact S2.out.below⟩
    | true =>
      have VB := hid vb
      clear vb
      cases he : rEmpty a0 a1 a2 a3 with
      | true =>
        have HE := hid he
        clear he
        go_enter Try.func29, Try.ntmps29
        go_wp2_with fail
        refine (qvalid_any _ _ _ _ _).mono ?_
        rintro e w1 ⟨rfl, hb⟩
        rw [VA.out]
        have KA := kept hb (alloc_past _ (alloc_at _ hB))
        obtain ⟨KP, p1_0, p1_1, p1_2, p1_3⟩ := kept4 hb (alloc_at _ (alloc_size _ hB))
        have S1 := hid (Since.call (((Since.self hB).alloc _).alloc _) hb)
        have HA1 := hid KA
        have HP1 := hid KP
        clear hb KA KP
        go_wp2_with fail
        refine (qvalid_any _ _ _ _ _).mono ?_
        rintro e w2 ⟨rfl, hb⟩
        rw [VB.out]
        clear p1_0 p1_1 p1_2 p1_3
        obtain ⟨KA, a2_0, a2_1, a2_2, a2_3⟩ := kept4 hb HA1.out
        have KP := kept hb HP1.out
        have S2 := hid (Since.call S1.out hb)
        have HA2 := hid KA
        have HP2 := hid KP
        clear hb KA KP
        go_wp2_with fail
        refine (qempty_any _ _ _ _ _).mono ?_
        rintro e w3 ⟨rfl, hb⟩
        rw [HE.out]
        clear a2_0 a2_1 a2_2 a2_3
        have S3 := hid (Since.call S2.out hb)
        clear hb 
        go_wp2
        go_ret
        exact ⟨ret_b (by simp [rInside, VA.out, VB.out, HE.out]), by first | exact S3.out.all hB | exact S3.out.below⟩
      | false =>
        have HE := hid he
        clear he
        go_enter Try.func29, Try.ntmps29
        go_wp2_with fail
        refine (qvalid_any _ _ _ _ _).mono ?_
        rintro e w1 ⟨rfl, hb⟩
        rw [VA.out]
        have KA := kept hb (alloc_past _ (alloc_at _ hB))
        obtain ⟨KP, p1_0, p1_1, p1_2, p1_3⟩ := kept4 hb (alloc_at _ (alloc_size _ hB))
        have S1 := hid (Since.call (((Since.self hB).alloc _).alloc _) hb)
        have HA1 := hid KA
        have HP1 := hid KP
        clear hb KA KP
        go_wp2_with fail
        refine (qvalid_any _ _ _ _ _).mono ?_
        rintro e w2 ⟨rfl, hb⟩
        rw [VB.out]
        clear p1_0 p1_1 p1_2 p1_3
        obtain ⟨KA, a2_0, a2_1, a2_2, a2_3⟩ := kept4 hb HA1.out
        have KP := kept hb HP1.out
        have S2 := hid (Since.call S1.out hb)
        have HA2 := hid KA
        have HP2 := hid KP
        clear hb KA KP
        go_wp2_with fail
        refine (qempty_any _ _ _ _ _).mono ?_
        rintro e w3 ⟨rfl, hb⟩
        rw [HE.out]
        clear a2_0 a2_1 a2_2 a2_3
        obtain ⟨KA, a3_0, a3_1, a3_2, a3_3⟩ := kept4 hb HA2.out
        obtain ⟨KP, p3_0, p3_1, p3_2, p3_3⟩ := kept4 hb HP2.out
        have S3 := hid (Since.call S2.out hb)
        have HA3 := hid KA
        have HP3 := hid KP
        clear hb KA KP
        go_wp2
        all_goals go_ret
        all_goals refine ⟨ret_b ?_, by first | exact S3.out.all hB | exact S3.out.below⟩
        all_goals (simp only [rInside, VA.out, VB.out, HE.out])
        all_goals go_light
        all_goals (refine bool_of_iff ?_; simp; try omega)

set_option maxRecDepth 100000 in
set_option maxHeartbeats 1600000 in
theorem qcontains_any (a0 a1 a2 a3 x y : Int) (w : World) :
    Calls Try.prog 31 #[.agg #[.int .i64 a0, .int .i64 a1, .int .i64 a2, .int .i64 a3], .int .i64 x, .int .i64 y] w fun e w' => e = .returned (.bool (rContains a0 a1 a2 a3 x y)) ∧ Below w.heap.size w w' := by
  obtain ⟨B, hB⟩ : ∃ B, w.heap.size = B := ⟨_, rfl⟩
  cases va : rValid a0 a1 a2 a3 with
  | false =>
    have VA := hid va
    clear va
    go_enter Try.func31, Try.ntmps31
    go_wp2_with fail
    refine (qvalid_any _ _ _ _ _).mono ?_
    rintro e w1 ⟨rfl, hb⟩
    rw [VA.out]
    have S1 := hid (Since.call ((Since.self hB).alloc _) hb)
    clear hb 
    go_wp2
    go_ret
    exact ⟨ret_b (by simp [rContains, VA.out]), by first | exact S1.out.all hB | exact S1.out.below⟩
  | true =>
    have VA := hid va
    clear va
    go_enter Try.func31, Try.ntmps31
    go_wp2_with fail
    refine (qvalid_any _ _ _ _ _).mono ?_
    rintro e w1 ⟨rfl, hb⟩
    rw [VA.out]
    obtain ⟨KA, a1_0, a1_1, a1_2, a1_3⟩ := kept4 hb (alloc_at _ hB)
    have S1 := hid (Since.call ((Since.self hB).alloc _) hb)
    have HA1 := hid KA
    clear hb KA
    go_wp2
    all_goals go_ret
    all_goals refine ⟨ret_b ?_, by first | exact S1.out.all hB | exact S1.out.below⟩
    all_goals (simp only [rContains, VA.out])
    all_goals go_light
    all_goals (refine bool_of_iff ?_; simp; try omega)

set_option maxRecDepth 100000 in
set_option maxHeartbeats 1600000 in
theorem qarea_any (a0 a1 a2 a3 : Int) (w : World) (hs : rValid a0 a1 a2 a3 = true → 0 ≤ a2 - a0 ∧ a2 - a0 ≤ 1048576 ∧ 0 ≤ a3 - a1 ∧ a3 - a1 ≤ 1048576) :
    Calls Try.prog 30 #[.agg #[.int .i64 a0, .int .i64 a1, .int .i64 a2, .int .i64 a3]] w fun e w' => e = .returned (.int .i64 (rArea a0 a1 a2 a3)) ∧ Below w.heap.size w w' := by
  obtain ⟨B, hB⟩ : ∃ B, w.heap.size = B := ⟨_, rfl⟩
  cases va : rValid a0 a1 a2 a3 with
  | false =>
    have VA := hid va
    clear va hs
    go_enter Try.func30, Try.ntmps30
    go_wp2_with fail
    refine (qvalid_any _ _ _ _ _).mono ?_
    rintro e w1 ⟨rfl, hb⟩
    rw [VA.out]
    have S1 := hid (Since.call ((Since.self hB).alloc _) hb)
    clear hb 
    go_wp2
    go_ret
    exact ⟨ret_i (by simp [rArea, VA.out]), by first | exact S1.out.all hB | exact S1.out.below⟩
  | true =>
    obtain ⟨h0, h1, h2, h3⟩ := hs va
    have VA := hid va
    have V := hid (rValid_iff.1 va)
    clear va hs
    have m1 : 0 ≤ (a2 - a0) * (a3 - a1) := Int.mul_nonneg h0 h2
    have m2 : (a2 - a0) * (a3 - a1) ≤ 1048576 * 1048576 := Int.mul_le_mul h1 h3 h2 (by omega)
    have v1 : -1048576 ≤ a0 ∧ a0 ≤ 1048576 ∧ -1048576 ≤ a1 ∧ a1 ≤ 1048576 ∧ -1048576 ≤ a2 ∧ a2 ≤ 1048576 ∧ -1048576 ≤ a3 ∧ a3 ≤ 1048576 := by have := V.out; omega
    obtain ⟨v1, v2, v3, v4, v5, v6, v7, v8⟩ := v1
    go_enter Try.func30, Try.ntmps30
    go_wp2_with fail
    refine (qvalid_any _ _ _ _ _).mono ?_
    rintro e w1 ⟨rfl, hb⟩
    rw [VA.out]
    obtain ⟨KA, a1_0, a1_1, a1_2, a1_3⟩ := kept4 hb (alloc_at _ hB)
    have S1 := hid (Since.call ((Since.self hB).alloc _) hb)
    have HA1 := hid KA
    clear hb KA
    go_wp2
    go_ret
    exact ⟨ret_i (by simp [rArea, VA.out]), by first | exact S1.out.all hB | exact S1.out.below⟩
end Go.Proofs.Ytekpekhdkghnmaa
