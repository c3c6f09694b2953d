/-
  The walk of BorderIndex: the coordinates and the valid edges of the program are those of the reference.
-/
import Derived.Test.YtekpekhdkghnmaaBorder3
import Derived.Test.YtekpekhdkghnmaaFrame
import Derived.Deep.RegionHeld3
import Derived.Deep.DrawnRows
import Derived.Deep.Light
namespace Go.Proofs.Ytekpekhdkghnmaa
open Go.RowKit
set_option linter.unusedVariables false
attribute [local go_sem ↓] Go.wp_at_zero Go.wp_at_succ

set_option maxRecDepth 100000 in
set_option maxHeartbeats 1600000 in
theorem walk_BorderIndex (ep ef m i n p : Int) (W : World) (_ : I64 ep) (_ : I64 ef) (_ : I64 m) (_ : I64 i) (_ : I64 n) (_ : I64 p) :
    Calls Try.prog 4 #[.agg #[.int .i64 ep, .int .i64 ef], .int .i64 m, .int .i64 i, .int .i64 n, .int .i64 p] W fun e w' => e = .returned (.bool true) ∧ Below W.heap.size W w' := by
  have b1 := Int.emod_nonneg n (b := 128) (by omega)
  have b2 := Int.emod_lt_of_pos n (b := 128) (by omega)
  have b3 := Int.emod_nonneg n (b := 5) (by omega)
  have b4 := Int.emod_lt_of_pos n (b := 5) (by omega)
  have b5 := Int.emod_nonneg i (b := 40) (by omega)
  have b6 := Int.emod_lt_of_pos i (b := 40) (by omega)
  have b7 := Int.emod_nonneg p (b := 6) (by omega)
  have b8 := Int.emod_lt_of_pos p (b := 6) (by omega)
  have b9 := Int.emod_nonneg p (b := 4) (by omega)
  have b10 := Int.emod_lt_of_pos p (b := 4) (by omega)
  obtain ⟨B, hB⟩ : ∃ B, W.heap.size = B := ⟨_, rfl⟩
  go_enter Try.func4, Try.ntmps4
  go_wp2_with (first
    | (go_at_call 12; refine (mod_any _ _ _ (by omega) (by omega)).mono ?_; rintro e w' ⟨rfl, rfl⟩))
  go_loopw [30] (fun j wr => ∃ k : Nat, k ≤ 3 ∧ j = .int .i64 k ∧ wr.heap[B]? = some (.cells #[.int .i64 ep, .int .i64 ef] 28 (0, 0)) ∧ wr.heap[B + 1]? = some (.cells #[.int .i64 p, .int .i64 (p % 6 - 1), .int .i64 (p % 4)] 3 (0, 0)) ∧ Below B W wr) (fun j _ => 3 - (intOf j).toNat)
  case atStart => exact ⟨0, by omega, rfl, alloc_past _ (alloc_at _ hB), alloc_at _ (alloc_size _ hB), by rw [← hB]; exact ((Below.refl _ _).alloc (Nat.le_refl _) _).alloc (by simp) _⟩
  case round =>
    obtain ⟨k, hk, rfl, h1, h2, h3⟩ := hrel
    have H1 : Hid (wr.heap[B]? = some (.cells #[.int .i64 ep, .int .i64 ef] 28 (0, 0))) := h1
    have H2 : Hid (wr.heap[B + 1]? = some (.cells #[.int .i64 p, .int .i64 (p % 6 - 1), .int .i64 (p % 4)] 3 (0, 0))) := h2
    obtain ⟨w0, rfl⟩ : ∃ w0 : World, w0 = wr := ⟨_, rfl⟩
    by_cases hlt : k < 3
    · obtain ⟨q, hq⟩ := three_ints h2 hlt
      clear h1 h2
      obtain ⟨B1, hB1⟩ : ∃ B1, w0.heap.size = B1 := ⟨_, rfl⟩
      have hBB : B + 2 ≤ B1 := by have := lt_of_block H2.out; omega
      have hlt' : (k : Int) < 3 := by omega
      go_wp2_with (first | (go_at_call 12; refine (mod_any _ _ _ (by omega) (by omega)).mono ?_; rintro e w' ⟨rfl, rfl⟩))
      go_loopw [43] (fun j wr => ∃ l : Nat, l ≤ 3 ∧ j = .int .i64 l ∧ wr.heap[B1]? = some (.cells #[.int .i64 n, .int .i64 (1 + n % 128), .int .i64 (1 + n % 5)] 3 (0, 0)) ∧ Below B1 w0 wr) (fun j _ => 3 - (intOf j).toNat)
      case atStart => exact ⟨0, by omega, rfl, alloc_at _ hB1, by rw [← hB1]; exact (Below.refl _ _).alloc (Nat.le_refl _) _⟩
      case round =>
        obtain ⟨l, hl, rfl, g1, g2⟩ := hrel
        have G1 : Hid (wr.heap[B1]? = some (.cells #[.int .i64 n, .int .i64 (1 + n % 128), .int .i64 (1 + n % 5)] 3 (0, 0))) := g1
        obtain ⟨w1, rfl⟩ : ∃ w1 : World, w1 = wr := ⟨_, rfl⟩
        by_cases hlt2 : l < 3
        · obtain ⟨u, hu⟩ := three_ints g1 hlt2
          clear g1
          obtain ⟨B2, hB2⟩ : ∃ B2, w1.heap.size = B2 := ⟨_, rfl⟩
          have hBB2 : B1 < B2 := by have := lt_of_block G1.out; omega
          have hlt2' : (l : Int) < 3 := by omega
          go_wp2_with (first | (go_at_call 12; refine (mod_any _ _ _ (by omega) (by omega)).mono ?_; rintro e w' ⟨rfl, rfl⟩))
          go_loopw [53] (fun j wr => ∃ r : Nat, r ≤ 2 ∧ j = .int .i64 r ∧ wr.heap[B2]? = some (.cells #[.int .i64 i, .int .i64 (i % 40 - 15)] 3 (0, 0)) ∧ Below B2 w1 wr) (fun j _ => 2 - (intOf j).toNat)
          case atStart => exact ⟨0, by omega, rfl, alloc_at _ hB2, by rw [← hB2]; exact (Below.refl _ _).alloc (Nat.le_refl _) _⟩
          case round =>
            obtain ⟨r, hr, rfl, f1, f2⟩ := hrel
            have F1 : Hid (wr.heap[B2]? = some (.cells #[.int .i64 i, .int .i64 (i % 40 - 15)] 3 (0, 0))) := f1
            obtain ⟨w2, rfl⟩ : ∃ w2 : World, w2 = wr := ⟨_, rfl⟩
            by_cases hlt3 : r < 2
            · obtain ⟨v, hv⟩ := two_ints f1 hlt3
              clear f1
              have hlt3' : (r : Int) < 2 := by omega
              go_wp2_with (first | (go_at_call 13; refine (index_any _ _ _ _).mono ?_; rintro e w' ⟨rfl, rfl⟩) | (go_at_call 15; refine (rindex_any _ _ _ _).mono ?_; rintro e w' ⟨rfl, rfl⟩))
              go_roundw
              case rel => exact ⟨r + 1, by omega, by go_num, F1.out, f2⟩
              case measure => simp [intOf]; omega
            · obtain rfl : r = 2 := by omega
              clear f1
              go_wp2
              go_roundw
              case rel => exact ⟨l + 1, by omega, by go_num, by rw [f2.block _ hBB2]; exact G1.out, g2.trans (f2.mono (by omega))⟩
              case measure => simp [intOf]; omega
        · obtain rfl : l = 3 := by omega
          clear g1
          have E1 : w1.heap[B]? = some (.cells #[.int .i64 ep, .int .i64 ef] 28 (0, 0)) := by rw [g2.block _ (by omega)]; exact H1.out
          have e1 : w1.cell? ⟨B, 1, none⟩ = some (.int .i64 ef) := cell_of E1 rfl
          have HE1 : Hid (w1.heap[B]? = some (.cells #[.int .i64 ep, .int .i64 ef] 28 (0, 0))) := E1
          clear E1
          obtain ⟨B2, hB2⟩ : ∃ B2, w1.heap.size = B2 := ⟨_, rfl⟩
          have hBB2 : B1 ≤ B2 := by have := g2.size; omega
          go_wp2
          have S0 : Box2 B2 B2 (.int .i64 q) (.int .i64 ef) 28 w1 (w1.alloc (.cells #[.int .i64 q, .int .i64 ef] 28)) := .mk' (alloc_at _ hB2) (by rw [← hB2]; exact below_self _ _) (by simp; omega)
          go_region_held3 (fun w' => w'.heap[B2]? = some (.cells #[.int .i64 q, .int .i64 ef] 28 (0, 0)) ∧ w'.cell? ⟨B2, 0, none⟩ = some (.int .i64 q) ∧ w'.cell? ⟨B2, 1, none⟩ = some (.int .i64 ef) ∧ Below B2 w1 w' ∧ B2 ≤ w'.heap.size) (first | exact S0.drew | (refine Box2.keep hb ?_; assumption)) (first | (go_at_call 16; refine (bvalid_any _ _ _ _).mono ?_; rintro e w' ⟨rfl, hb⟩) | (go_at_call 17; refine (rbvalid_any _ _ _ _).mono ?_; rintro e w' ⟨rfl, hb⟩))
          rename_i hz
          have HZ : Hid (Below B2 w1 _) := hz.2.2.2.1
          clear hz
          go_wp2
          go_roundw
          case rel => exact ⟨k + 1, by omega, by go_num, by rw [HZ.out.block _ (by omega)]; exact HE1.out, by rw [HZ.out.block _ (by omega), g2.block _ (by omega)]; exact H2.out, h3.trans ((g2.mono (by omega)).trans (HZ.out.mono (by omega)))⟩
          case measure => simp [intOf]; omega
    · obtain rfl : k = 3 := by omega
      have S0 : Box2 B B (.int .i64 ep) (.int .i64 ef) 28 W w0 := .mk' h1 h3 (by have := lt_of_block h1; omega)
      clear h1 h2
      go_wp2
      go_region_held3 (fun w' => w'.heap[B]? = some (.cells #[.int .i64 ep, .int .i64 ef] 28 (0, 0)) ∧ w'.cell? ⟨B, 0, none⟩ = some (.int .i64 ep) ∧ w'.cell? ⟨B, 1, none⟩ = some (.int .i64 ef) ∧ Below B W w' ∧ B ≤ w'.heap.size) (first | exact S0.drew | (refine Box2.keep hb ?_; assumption)) (first | (go_at_call 16; refine (bvalid_any _ _ _ _).mono ?_; rintro e w' ⟨rfl, hb⟩) | (go_at_call 17; refine (rbvalid_any _ _ _ _).mono ?_; rintro e w' ⟨rfl, hb⟩) | (go_at_call 14; refine (sane3 _).mono ?_; rintro e w' ⟨rfl, hb⟩))
      rename_i hz
      have HZ : Hid (Below B W _) := hz.2.2.2.1
      clear hz
      go_wp2
      go_ret
      exact ⟨rfl, by rw [hB]; exact HZ.out⟩
end Go.Proofs.Ytekpekhdkghnmaa
