/-
  The law's helper agrees: the functions of a grid are those of the reference; and the chapter's examples.
-/
import Derived.Test.YtekpekhdkghnmaaTouch2
import Derived.Deep.RegionHeld3
import Derived.Deep.DrawnRows
namespace Go.Proofs.Ytekpekhdkghnmaa
open Go.RowKit
attribute [local go_sem ↓] Go.wp_at_zero Go.wp_at_succ

theorem three_mk {B b0 b1 b2 : Nat} {x00 x01 x02 x03 x10 x11 x12 x13 x20 x21 x22 x23 : Int} {w0 w : World} (h0 : w.heap[b0]? = some (.cells #[.int .i64 x00, .int .i64 x01, .int .i64 x02, .int .i64 x03] 45 (0, 0))) (h1 : w.heap[b1]? = some (.cells #[.int .i64 x10, .int .i64 x11, .int .i64 x12, .int .i64 x13] 45 (0, 0))) (h2 : w.heap[b2]? = some (.cells #[.int .i64 x20, .int .i64 x21, .int .i64 x22, .int .i64 x23] 45 (0, 0))) (hs : Since B w0 w) :
    w.heap[b0]? = some (.cells #[.int .i64 x00, .int .i64 x01, .int .i64 x02, .int .i64 x03] 45 (0, 0)) ∧ w.heap[b1]? = some (.cells #[.int .i64 x10, .int .i64 x11, .int .i64 x12, .int .i64 x13] 45 (0, 0)) ∧ w.heap[b2]? = some (.cells #[.int .i64 x20, .int .i64 x21, .int .i64 x22, .int .i64 x23] 45 (0, 0)) ∧ w.cell? ⟨b0, 0, none⟩ = some (.int .i64 x00) ∧ w.cell? ⟨b0, 1, none⟩ = some (.int .i64 x01) ∧ w.cell? ⟨b0, 2, none⟩ = some (.int .i64 x02) ∧ w.cell? ⟨b0, 3, none⟩ = some (.int .i64 x03) ∧ w.cell? ⟨b1, 0, none⟩ = some (.int .i64 x10) ∧ w.cell? ⟨b1, 1, none⟩ = some (.int .i64 x11) ∧ w.cell? ⟨b1, 2, none⟩ = some (.int .i64 x12) ∧ w.cell? ⟨b1, 3, none⟩ = some (.int .i64 x13) ∧ w.cell? ⟨b2, 0, none⟩ = some (.int .i64 x20) ∧ w.cell? ⟨b2, 1, none⟩ = some (.int .i64 x21) ∧ w.cell? ⟨b2, 2, none⟩ = some (.int .i64 x22) ∧ w.cell? ⟨b2, 3, none⟩ = some (.int .i64 x23) ∧ Below B w0 w ∧ B ≤ w.heap.size :=
  ⟨h0, h1, h2, cell_of h0 rfl, cell_of h0 rfl, cell_of h0 rfl, cell_of h0 rfl, cell_of h1 rfl, cell_of h1 rfl, cell_of h1 rfl, cell_of h1 rfl, cell_of h2 rfl, cell_of h2 rfl, cell_of h2 rfl, cell_of h2 rfl, hs.below, hs.size⟩
theorem three_keep {B b0 b1 b2 : Nat} {x00 x01 x02 x03 x10 x11 x12 x13 x20 x21 x22 x23 : Int} {w0 w : World} {w' : World} (hb : Below w.heap.size w w') (h : w.heap[b0]? = some (.cells #[.int .i64 x00, .int .i64 x01, .int .i64 x02, .int .i64 x03] 45 (0, 0)) ∧ w.heap[b1]? = some (.cells #[.int .i64 x10, .int .i64 x11, .int .i64 x12, .int .i64 x13] 45 (0, 0)) ∧ w.heap[b2]? = some (.cells #[.int .i64 x20, .int .i64 x21, .int .i64 x22, .int .i64 x23] 45 (0, 0)) ∧ w.cell? ⟨b0, 0, none⟩ = some (.int .i64 x00) ∧ w.cell? ⟨b0, 1, none⟩ = some (.int .i64 x01) ∧ w.cell? ⟨b0, 2, none⟩ = some (.int .i64 x02) ∧ w.cell? ⟨b0, 3, none⟩ = some (.int .i64 x03) ∧ w.cell? ⟨b1, 0, none⟩ = some (.int .i64 x10) ∧ w.cell? ⟨b1, 1, none⟩ = some (.int .i64 x11) ∧ w.cell? ⟨b1, 2, none⟩ = some (.int .i64 x12) ∧ w.cell? ⟨b1, 3, none⟩ = some (.int .i64 x13) ∧ w.cell? ⟨b2, 0, none⟩ = some (.int .i64 x20) ∧ w.cell? ⟨b2, 1, none⟩ = some (.int .i64 x21) ∧ w.cell? ⟨b2, 2, none⟩ = some (.int .i64 x22) ∧ w.cell? ⟨b2, 3, none⟩ = some (.int .i64 x23) ∧ Below B w0 w ∧ B ≤ w.heap.size) :
    w'.heap[b0]? = some (.cells #[.int .i64 x00, .int .i64 x01, .int .i64 x02, .int .i64 x03] 45 (0, 0)) ∧ w'.heap[b1]? = some (.cells #[.int .i64 x10, .int .i64 x11, .int .i64 x12, .int .i64 x13] 45 (0, 0)) ∧ w'.heap[b2]? = some (.cells #[.int .i64 x20, .int .i64 x21, .int .i64 x22, .int .i64 x23] 45 (0, 0)) ∧ w'.cell? ⟨b0, 0, none⟩ = some (.int .i64 x00) ∧ w'.cell? ⟨b0, 1, none⟩ = some (.int .i64 x01) ∧ w'.cell? ⟨b0, 2, none⟩ = some (.int .i64 x02) ∧ w'.cell? ⟨b0, 3, none⟩ = some (.int .i64 x03) ∧ w'.cell? ⟨b1, 0, none⟩ = some (.int .i64 x10) ∧ w'.cell? ⟨b1, 1, none⟩ = some (.int .i64 x11) ∧ w'.cell? ⟨b1, 2, none⟩ = some (.int .i64 x12) ∧ w'.cell? ⟨b1, 3, none⟩ = some (.int .i64 x13) ∧ w'.cell? ⟨b2, 0, none⟩ = some (.int .i64 x20) ∧ w'.cell? ⟨b2, 1, none⟩ = some (.int .i64 x21) ∧ w'.cell? ⟨b2, 2, none⟩ = some (.int .i64 x22) ∧ w'.cell? ⟨b2, 3, none⟩ = some (.int .i64 x23) ∧ Below B w0 w' ∧ B ≤ w'.heap.size := by
  obtain ⟨h0, h1, h2, _, _, _, _, _, _, _, _, _, _, _, _, hs, hB⟩ := h
  exact three_mk (kept hb h0) (kept hb h1) (kept hb h2) (Since.call ⟨hs, hB⟩ hb)

set_option maxRecDepth 100000 in
set_option maxHeartbeats 1600000 in
theorem agrees_any (w h tw th i x y r0 r1 r2 r3 : Int) (W : World) (hi : -9223372036854775808 ≤ i ∧ i ≤ 9223372036854775807) :
    Calls Try.prog 26 #[.int .i64 w, .int .i64 h, .int .i64 tw, .int .i64 th, .int .i64 i, .int .i64 x, .int .i64 y, .agg #[.int .i64 r0, .int .i64 r1, .int .i64 r2, .int .i64 r3]] W fun e w' => e = .returned (.bool true) ∧ Below W.heap.size W w' := by
  obtain ⟨B, hB⟩ : ∃ B, W.heap.size = B := ⟨_, rfl⟩
  have HI := hid hi
  clear hi
  go_enter Try.func26, Try.ntmps26
  go_wp2_with (first | (go_at_call 24; refine (count_any _ _ _ _ _).mono ?_; rintro e w' ⟨rfl, rfl⟩) | (go_at_call 38; refine (qcount_any _ _ _ _ _).mono ?_; rintro e w' ⟨rfl, rfl⟩))
  refine (tile_any _ _ _ _ _ _ HI.out).mono ?_
  rintro e w1 ⟨rfl, hb⟩
  have S1 := hid (Since.call ((Since.self hB).alloc _) hb)
  have K1 := hid (kept hb (alloc_at _ hB))
  clear hb
  obtain ⟨C1, hC1⟩ : ∃ C, w1.heap.size = C := ⟨_, rfl⟩
  go_wp2_with fail
  refine (qtile_any _ _ _ _ _ _ HI.out).mono ?_
  rintro e w2 ⟨rfl, hb⟩
  have S2 := hid ((S1.out.alloc _).call hb)
  have K2 := hid (kept hb (alloc_past _ K1.out))
  have L2 := hid (kept hb (alloc_at _ hC1))
  clear hb
  obtain ⟨C2, hC2⟩ : ∃ C, w2.heap.size = C := ⟨_, rfl⟩
  generalize gT0 w h tw th i = t0 at *
  generalize gT1 w h tw th i = t1 at *
  generalize gT2 w h tw th i = t2 at *
  generalize gT3 w h tw th i = t3 at *
  generalize gTok w h tw th i = tk at *
  go_wp2_with fail
  refine (of_any _ _ _ _ _ _ _).mono ?_
  rintro e w3 ⟨rfl, m3, rfl⟩
  go_wp2_with fail
  refine (qof_any _ _ _ _ _ _ _).mono ?_
  rintro e w4 ⟨rfl, m4, rfl⟩
  generalize gOf w h tw th x y = o at *
  generalize gOfOk w h tw th x y = ok at *
  generalize gNx w h tw th = nx at *
  generalize gNy w h tw th = ny at *
  have S0 := three_mk (w := ((w2.alloc (.cells #[.int .i64 t0, .int .i64 t1, .int .i64 t2, .int .i64 t3] 45)).drewN (m3 + m4)).drew) (alloc_past (.cells #[.int .i64 t0, .int .i64 t1, .int .i64 t2, .int .i64 t3] 45) K2.out) (alloc_past _ L2.out) (alloc_at _ hC2) (((S2.out.alloc _).drewN _).drew)
  have HS0 := hid S0
  clear S0
  go_wp2_with fail
  go_region_held3 (fun w' => w'.heap[B]? = some (.cells #[.int .i64 r0, .int .i64 r1, .int .i64 r2, .int .i64 r3] 45 (0, 0)) ∧ w'.heap[C1]? = some (.cells #[.int .i64 t0, .int .i64 t1, .int .i64 t2, .int .i64 t3] 45 (0, 0)) ∧ w'.heap[C2]? = some (.cells #[.int .i64 t0, .int .i64 t1, .int .i64 t2, .int .i64 t3] 45 (0, 0)) ∧ w'.cell? ⟨B, 0, none⟩ = some (.int .i64 r0) ∧ w'.cell? ⟨B, 1, none⟩ = some (.int .i64 r1) ∧ w'.cell? ⟨B, 2, none⟩ = some (.int .i64 r2) ∧ w'.cell? ⟨B, 3, none⟩ = some (.int .i64 r3) ∧ w'.cell? ⟨C1, 0, none⟩ = some (.int .i64 t0) ∧ w'.cell? ⟨C1, 1, none⟩ = some (.int .i64 t1) ∧ w'.cell? ⟨C1, 2, none⟩ = some (.int .i64 t2) ∧ w'.cell? ⟨C1, 3, none⟩ = some (.int .i64 t3) ∧ w'.cell? ⟨C2, 0, none⟩ = some (.int .i64 t0) ∧ w'.cell? ⟨C2, 1, none⟩ = some (.int .i64 t1) ∧ w'.cell? ⟨C2, 2, none⟩ = some (.int .i64 t2) ∧ w'.cell? ⟨C2, 3, none⟩ = some (.int .i64 t3) ∧ Below B W w' ∧ B ≤ w'.heap.size) (first | exact HS0.out | (refine three_keep hb ?_; assumption) | (refine three_keep hb2 ?_; assumption) | (refine three_keep (below_drewN (Below.refl _ _) _) ?_; assumption)) (first | (go_at_call 32; refine (touching_any _ _ _ _ _ _ _ _ _).mono ?_; rintro e wa ⟨a1, n1, c1, zs1, rfl, hr1, ht1, hb, hn1⟩) | (go_at_call 42; refine (qtouching_any _ _ _ _ _ _ _ _ _).mono ?_; rintro e wb ⟨a2, n2, c2, zs2, rfl, hr2, ht2, hb2, hn2⟩; obtain rfl := ht1.unique ht2) | (go_at_call 41; refine (same_any a1 a2 n1 n2 c1 c2 zs1 zs1 _ (hr1.below hb2) hr2 (by omega) (by omega)).mono ?_; rintro e wc ⟨rfl, md, rfl⟩))
  rename_i hz
  have HZ := hid hz
  clear hz
  go_wp2_with fail
  go_ret
  exact ⟨rfl, by first | exact (Since.mk HZ.out.2.2.2.2.2.2.2.2.2.2.2.2.2.2.2.1 HZ.out.2.2.2.2.2.2.2.2.2.2.2.2.2.2.2.2).all hB | exact HZ.out.2.2.2.2.2.2.2.2.2.2.2.2.2.2.2.1⟩

theorem touch_sane : ∀ zs, TouchSpec 5 3 2 2 1 1 3 2 zs → zs = [0, 1] := by
  intro zs h
  refine h.unique ⟨by decide, fun n => ?_⟩
  have hg : gOk 5 3 2 2 = true := by decide
  have e1 : gNx 5 3 2 2 = 3 := by decide
  have e2 : gNy 5 3 2 2 = 2 := by decide
  constructor
  · intro hn
    have : n = 0 ∨ n = 1 := by simpa using hn
    rcases this with rfl | rfl <;> exact ⟨by decide, by decide⟩
  · rintro ⟨h1, h2⟩
    obtain ⟨_, h3, h4⟩ := gTok_iff.1 h1
    rw [e1, e2] at h4
    have : n = 0 ∨ n = 1 ∨ n = 2 ∨ n = 3 ∨ n = 4 ∨ n = 5 := by omega
    rcases this with rfl | rfl | rfl | rfl | rfl | rfl
    · simp
    · simp
    all_goals exact absurd h2 (by decide)

set_option maxRecDepth 100000 in
set_option maxHeartbeats 1600000 in
theorem sane5 (W : World) : Calls Try.prog 25 #[] W fun e w' => e = .returned (.bool true) ∧ Below W.heap.size W w' := by
  obtain ⟨B, hB⟩ : ∃ B, W.heap.size = B := ⟨_, rfl⟩
  have v1 : gNx 5 3 2 2 = 3 ∧ gNy 5 3 2 2 = 2 ∧ gT0 5 3 2 2 5 = 4 ∧ gT1 5 3 2 2 5 = 2 ∧ gT2 5 3 2 2 5 = 5 ∧ gT3 5 3 2 2 5 = 3 ∧ gTok 5 3 2 2 5 = true ∧ gOf 5 3 2 2 4 2 = 5 ∧ gOfOk 5 3 2 2 4 2 = true := by decide
  have V := hid v1
  clear v1
  go_enter Try.func25, Try.ntmps25
  go_wp2_with fail
  refine (count_any _ _ _ _ _).mono ?_
  rintro e w' ⟨rfl, rfl⟩
  rw [V.out.1, V.out.2.1]
  go_wp2_with fail
  refine (tile_any _ _ _ _ _ _ (by omega)).mono ?_
  rintro e w1 ⟨rfl, hb⟩
  rw [V.out.2.2.1, V.out.2.2.2.1, V.out.2.2.2.2.1, V.out.2.2.2.2.2.1, V.out.2.2.2.2.2.2.1]
  have S1 := hid (Since.call (Since.self hB) hb)
  clear hb
  obtain ⟨C1, hC1⟩ : ∃ C, w1.heap.size = C := ⟨_, rfl⟩
  go_wp2_with fail
  refine (touching_any _ _ _ _ _ _ _ _ _).mono ?_
  rintro e w2 ⟨a, n, c, zs, rfl, hr, ht, hb, hn⟩
  obtain rfl := touch_sane _ ht
  have S2 := hid ((S1.out.alloc _).call hb)
  obtain ⟨K, k0, k1, k2, k3⟩ := kept4 hb (alloc_at _ hC1)
  obtain rfl : n = 2 := hr.1
  obtain ⟨g, o, rfl, hc⟩ : ∃ b o, a = some ⟨b, o, none⟩ ∧ ∀ i, i < 2 → w2.cell? ⟨b, o + i, none⟩ = some (.int .i64 ([0, 1].getD i 0)) := by
    rcases hr.2 with h | h
    · omega
    · exact h
  have c1 : w2.cell? ⟨g, o + 1, none⟩ = some (.int .i64 1) := hc 1 (by omega)
  clear hc hr ht hb K hn
  go_wp2_with fail
  refine (of_any _ _ _ _ _ _ _).mono ?_
  rintro e w3 ⟨rfl, m3, rfl⟩
  rw [V.out.2.2.2.2.2.2.2.1, V.out.2.2.2.2.2.2.2.2]
  go_wp2_with fail
  go_ret
  exact ⟨rfl, by first | exact (S2.out.drewN _).all hB | exact (S2.out.drewN _).below⟩

end Go.Proofs.Ytekpekhdkghnmaa
