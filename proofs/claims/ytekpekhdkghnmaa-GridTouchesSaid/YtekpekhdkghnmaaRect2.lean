/-
  Contracts of the rectangles' functions of two arguments: what is common, what lies inside, what is contained, areas.
-/
import Derived.Test.YtekpekhdkghnmaaRect
namespace Go.Proofs.Ytekpekhdkghnmaa
open Go.RowKit

theorem set4_below {B : Nat} {w0 w : World} {b : Nat} {x y z u : Value} (h : Below B w0 w) (hb : B ≤ b) : Below B w0 (set4 w b x y z u) :=
  (((h.setCell (p := ⟨b, 0, none⟩) hb x).setCell (p := ⟨b, 1, none⟩) hb y).setCell (p := ⟨b, 2, none⟩) hb z).setCell (p := ⟨b, 3, none⟩) hb u

def RectPost (x0 y0 x1 y1 : Int) (w : World) (e : Ending) (w' : World) : Prop := e = .returned (.agg #[.int .i64 x0, .int .i64 y0, .int .i64 x1, .int .i64 y1]) ∧ Below w.heap.size w w'

set_option maxRecDepth 100000 in
set_option maxHeartbeats 1600000 in
theorem risect_any (a0 a1 a2 a3 b0 b1 b2 b3 : Int) (w : World) :
    Calls Try.prog 44 #[.agg #[.int .i64 a0, .int .i64 a1, .int .i64 a2, .int .i64 a3], .agg #[.int .i64 b0, .int .i64 b1, .int .i64 b2, .int .i64 b3]] w
      (RectPost (rX0 a0 a1 a2 a3 b0 b1 b2 b3) (rY0 a0 a1 a2 a3 b0 b1 b2 b3) (rX1 a0 a1 a2 a3 b0 b1 b2 b3) (rY1 a0 a1 a2 a3 b0 b1 b2 b3) w) := by
  obtain ⟨B, hB⟩ : ∃ B, w.heap.size = B := ⟨_, rfl⟩
  have M := hid (rMeet_iff (a0 := a0) (a1 := a1) (a2 := a2) (a3 := a3) (b0 := b0) (b1 := b1) (b2 := b2) (b3 := b3))
  cases va : rValid a0 a1 a2 a3 with
  | false =>
    have VA := hid va
    clear va
    go_enter Try.func44, Try.ntmps44
    go_wp2_with fail
    refine (rvalid_any _ _ _ _ _).mono ?_
    rintro e w1 ⟨rfl, hb⟩
    rw [VA.out]
    obtain ⟨K2, k0, k1, k2, k3⟩ := kept4 hb (alloc_at _ (alloc_size _ (alloc_size _ hB)))
    obtain ⟨f0, f1, f2, f3⟩ := free4 K2
    have HB := hid hb
    clear hb
    have HK := hid K2
    clear K2
    go_wp2
    obtain ⟨q0, q1, q2, q3⟩ := set4_cells (x := .int .i64 0) (y := .int .i64 0) (z := .int .i64 0) (u := .int .i64 0) HK.out
    have N : rMeet a0 a1 a2 a3 b0 b1 b2 b3 = false := by simp [rMeet, VA.out]
    refine bodyPost_ret (v := .agg #[.int .i64 0, .int .i64 0, .int .i64 0, .int .i64 0]) ?_ rfl ⟨by simp [rX0, rY0, rX1, rY1, N], ?_⟩
    · unfold set4 at q0 q1 q2 q3
      simp [results, Try.results44, go_sem, q0, q1, q2, q3]
    · exact set4_below (below_trans (((below_self _ _).alloc (by simp) _).alloc (by simp; omega) _) HB.out (by simp; omega)) (by omega)
  | true =>
    have VA := hid va
    clear va
    cases vb : rValid b0 b1 b2 b3 with
    | false =>
      have VB := hid vb
      clear vb
      go_enter Try.func44, Try.ntmps44
      go_wp2_with fail
      refine (rvalid_any _ _ _ _ _).mono ?_
      rintro e w1 ⟨rfl, hb⟩
      rw [VA.out]
      have KR := kept hb (alloc_at _ (alloc_size _ (alloc_size _ hB)))
      obtain ⟨KB, i0, i1, i2, i3⟩ := kept4 hb (alloc_past _ (alloc_at _ (alloc_size _ hB)))
      have HB1 := hid hb
      have HKR := hid KR
      have HKB := hid KB
      clear hb KR KB
      go_wp2_with fail
      refine (rvalid_any _ _ _ _ _).mono ?_
      rintro e w2 ⟨rfl, hb⟩
      rw [VB.out]
      clear i0 i1 i2 i3
      obtain ⟨KR, k0, k1, k2, k3⟩ := kept4 hb HKR.out
      obtain ⟨f0, f1, f2, f3⟩ := free4 KR
      have HB2 := hid hb
      have HK := hid KR
      clear hb KR
      go_wp2
      obtain ⟨q0, q1, q2, q3⟩ := set4_cells (x := .int .i64 (0)) (y := .int .i64 (0)) (z := .int .i64 (0)) (u := .int .i64 (0)) HK.out
      have N : rMeet a0 a1 a2 a3 b0 b1 b2 b3 = false := by simp [rMeet, VB.out]
      refine bodyPost_ret (v := .agg #[.int .i64 (0), .int .i64 (0), .int .i64 (0), .int .i64 (0)]) ?_ rfl ⟨by simp [rX0, rY0, rX1, rY1, N], ?_⟩
      · unfold set4 at q0 q1 q2 q3
        simp [results, Try.results44, go_sem, q0, q1, q2, q3]
      · exact set4_below (below_trans (below_trans (((below_self _ _).alloc (by simp) _).alloc (by simp; omega) _) HB1.out (by simp; omega)) HB2.out (by have := HB1.out.size; simp at this; omega)) (by omega)
    | true =>
      have VB := hid vb
      clear vb
      by_cases hc : max a0 b0 < min a2 b2 ∧ max a1 b1 < min a3 b3
      · obtain ⟨hc1, hc2⟩ := hc
        go_enter Try.func44, Try.ntmps44
        go_wp2_with fail
        refine (rvalid_any _ _ _ _ _).mono ?_
        rintro e w1 ⟨rfl, hb⟩
        rw [VA.out]
        have KR := kept hb (alloc_at _ (alloc_size _ (alloc_size _ hB)))
        have KA := kept hb (alloc_past _ (alloc_past _ (alloc_at _ hB)))
        obtain ⟨KB, i0, i1, i2, i3⟩ := kept4 hb (alloc_past _ (alloc_at _ (alloc_size _ hB)))
        have HB1 := hid hb
        have HKR := hid KR
        have HKA := hid KA
        have HKB := hid KB
        clear hb KR KA KB
        go_wp2_with fail
        refine (rvalid_any _ _ _ _ _).mono ?_
        rintro e w2 ⟨rfl, hb⟩
        rw [VB.out]
        clear i0 i1 i2 i3
        obtain ⟨KR, k0, k1, k2, k3⟩ := kept4 hb HKR.out
        obtain ⟨KA, j0, j1, j2, j3⟩ := kept4 hb HKA.out
        obtain ⟨KB, l0, l1, l2, l3⟩ := kept4 hb HKB.out
        obtain ⟨f0, f1, f2, f3⟩ := free4 KR
        have HB2 := hid hb
        have HK := hid KR
        clear hb KR KA KB
        have emax : ∀ x y : Int, (if x < y then y else x) = max x y := fun x y => by omega
        have emin : ∀ x y : Int, (if y < x then y else x) = min x y := fun x y => by omega
        have g0 : ∀ o, (w2.alloc o).cell? ⟨B + 1 + 1, 0, none⟩ = some (.int .i64 0) := fun o => cell_of (alloc_past o HK.out) rfl
        have g1 : ∀ o, (w2.alloc o).cell? ⟨B + 1 + 1, 1, none⟩ = some (.int .i64 0) := fun o => cell_of (alloc_past o HK.out) rfl
        have g2 : ∀ o, (w2.alloc o).cell? ⟨B + 1 + 1, 2, none⟩ = some (.int .i64 0) := fun o => cell_of (alloc_past o HK.out) rfl
        have g3 : ∀ o, (w2.alloc o).cell? ⟨B + 1 + 1, 3, none⟩ = some (.int .i64 0) := fun o => cell_of (alloc_past o HK.out) rfl
        have e0 : ∀ o, (w2.alloc o).frozen? ⟨B + 1 + 1, 0, none⟩ = false := fun o => free_of (alloc_past o HK.out)
        have e1 : ∀ o, (w2.alloc o).frozen? ⟨B + 1 + 1, 1, none⟩ = false := fun o => free_of (alloc_past o HK.out)
        have e2 : ∀ o, (w2.alloc o).frozen? ⟨B + 1 + 1, 2, none⟩ = false := fun o => free_of (alloc_past o HK.out)
        have e3 : ∀ o, (w2.alloc o).frozen? ⟨B + 1 + 1, 3, none⟩ = false := fun o => free_of (alloc_past o HK.out)
        go_wp2
        obtain ⟨q0, q1, q2, q3⟩ := set4_cells (x := .int .i64 (max a0 b0)) (y := .int .i64 (max a1 b1)) (z := .int .i64 (min a2 b2)) (u := .int .i64 (min a3 b3)) (alloc_past (.cells #[.int .i64 (max a0 b0), .int .i64 (max a1 b1), .int .i64 (min a2 b2), .int .i64 (min a3 b3)] 45) HK.out)
        have N : rMeet a0 a1 a2 a3 b0 b1 b2 b3 = true := M.out.2 ⟨VA.out, VB.out, hc1, hc2⟩
        refine bodyPost_ret (v := .agg #[.int .i64 (max a0 b0), .int .i64 (max a1 b1), .int .i64 (min a2 b2), .int .i64 (min a3 b3)]) ?_ rfl ⟨by simp [rX0, rY0, rX1, rY1, N], ?_⟩
        · unfold set4 at q0 q1 q2 q3
          simp [results, Try.results44, go_sem, q0, q1, q2, q3]
        · exact set4_below ((below_trans (below_trans (((below_self _ _).alloc (by simp) _).alloc (by simp; omega) _) HB1.out (by simp; omega)) HB2.out (by have := HB1.out.size; simp at this; omega)).alloc (by have := HB1.out.size; have := HB2.out.size; simp at *; omega) _) (by omega)
      · have NC := hid hc
        have hn : min a2 b2 ≤ max a0 b0 ∨ (max a0 b0 < min a2 b2 ∧ min a3 b3 ≤ max a1 b1) := by omega
        clear hc
        rcases hn with hn | ⟨hn, hn'⟩
        all_goals
          go_enter Try.func44, Try.ntmps44
          go_wp2_with fail
          refine (rvalid_any _ _ _ _ _).mono ?_
          rintro e w1 ⟨rfl, hb⟩
          rw [VA.out]
          have KR := kept hb (alloc_at _ (alloc_size _ (alloc_size _ hB)))
          have KA := kept hb (alloc_past _ (alloc_past _ (alloc_at _ hB)))
          obtain ⟨KB, i0, i1, i2, i3⟩ := kept4 hb (alloc_past _ (alloc_at _ (alloc_size _ hB)))
          have HB1 := hid hb
          have HKR := hid KR
          have HKA := hid KA
          have HKB := hid KB
          clear hb KR KA KB
          go_wp2_with fail
          refine (rvalid_any _ _ _ _ _).mono ?_
          rintro e w2 ⟨rfl, hb⟩
          rw [VB.out]
          clear i0 i1 i2 i3
          obtain ⟨KR, k0, k1, k2, k3⟩ := kept4 hb HKR.out
          obtain ⟨KA, j0, j1, j2, j3⟩ := kept4 hb HKA.out
          obtain ⟨KB, l0, l1, l2, l3⟩ := kept4 hb HKB.out
          obtain ⟨f0, f1, f2, f3⟩ := free4 KR
          have HB2 := hid hb
          have HK := hid KR
          clear hb KR KA KB
          have emax : ∀ x y : Int, (if x < y then y else x) = max x y := fun x y => by omega
          have emin : ∀ x y : Int, (if y < x then y else x) = min x y := fun x y => by omega
          have g0 : ∀ o, (w2.alloc o).cell? ⟨B + 1 + 1, 0, none⟩ = some (.int .i64 0) := fun o => cell_of (alloc_past o HK.out) rfl
          have g1 : ∀ o, (w2.alloc o).cell? ⟨B + 1 + 1, 1, none⟩ = some (.int .i64 0) := fun o => cell_of (alloc_past o HK.out) rfl
          have g2 : ∀ o, (w2.alloc o).cell? ⟨B + 1 + 1, 2, none⟩ = some (.int .i64 0) := fun o => cell_of (alloc_past o HK.out) rfl
          have g3 : ∀ o, (w2.alloc o).cell? ⟨B + 1 + 1, 3, none⟩ = some (.int .i64 0) := fun o => cell_of (alloc_past o HK.out) rfl
          have e0 : ∀ o, (w2.alloc o).frozen? ⟨B + 1 + 1, 0, none⟩ = false := fun o => free_of (alloc_past o HK.out)
          have e1 : ∀ o, (w2.alloc o).frozen? ⟨B + 1 + 1, 1, none⟩ = false := fun o => free_of (alloc_past o HK.out)
          have e2 : ∀ o, (w2.alloc o).frozen? ⟨B + 1 + 1, 2, none⟩ = false := fun o => free_of (alloc_past o HK.out)
          have e3 : ∀ o, (w2.alloc o).frozen? ⟨B + 1 + 1, 3, none⟩ = false := fun o => free_of (alloc_past o HK.out)
          go_wp2
          obtain ⟨q0, q1, q2, q3⟩ := set4_cells (x := .int .i64 (0)) (y := .int .i64 (0)) (z := .int .i64 (0)) (u := .int .i64 (0)) (alloc_past (.cells #[.int .i64 (max a0 b0), .int .i64 (max a1 b1), .int .i64 (min a2 b2), .int .i64 (min a3 b3)] 45) HK.out)
          have N : rMeet a0 a1 a2 a3 b0 b1 b2 b3 = false := by rw [← Bool.not_eq_true, M.out]; exact fun h => NC.out h.2.2
          refine bodyPost_ret (v := .agg #[.int .i64 (0), .int .i64 (0), .int .i64 (0), .int .i64 (0)]) ?_ rfl ⟨by simp [rX0, rY0, rX1, rY1, N], ?_⟩
          · unfold set4 at q0 q1 q2 q3
            simp [results, Try.results44, go_sem, q0, q1, q2, q3]
          · exact set4_below ((below_trans (below_trans (((below_self _ _).alloc (by simp) _).alloc (by simp; omega) _) HB1.out (by simp; omega)) HB2.out (by have := HB1.out.size; simp at this; omega)).alloc (by have := HB1.out.size; have := HB2.out.size; simp at *; omega) _) (by omega)
end Go.Proofs.Ytekpekhdkghnmaa
