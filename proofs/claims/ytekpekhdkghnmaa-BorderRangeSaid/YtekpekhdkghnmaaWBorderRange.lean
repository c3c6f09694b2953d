/-
  The walk of BorderRange: the least and the greatest coordinates of the program are those of the reference.
-/
import Derived.Test.YtekpekhdkghnmaaBorder3
import Derived.Test.YtekpekhdkghnmaaTape
import Derived.Test.YtekpekhdkghnmaaFrame
import Derived.Deep.Light
namespace Go.Proofs.Ytekpekhdkghnmaa
open Go.RowKit
set_option linter.unusedVariables false

set_option maxRecDepth 100000 in
set_option maxHeartbeats 1600000 in
theorem walk_BorderRange (a : Option Addr) (n c : Nat) (zs : List Int) (fr to' m pol : Int) (W : World) (hr : RowIn .i64 W a n c zs) (_ : I64 fr) (_ : I64 to') (_ : I64 m) (_ : I64 pol) :
    Calls Try.prog 5 #[.slice a n c, .int .i64 fr, .int .i64 to', .int .i64 m, .int .i64 pol] W fun e w' => e = .returned (.bool true) ∧ Below W.heap.size W w' := by
  have HR : Hid (RowIn .i64 W a n c zs) := hr
  clear hr
  obtain ⟨B, hB⟩ : ∃ B, W.heap.size = B := ⟨_, rfl⟩
  go_enter Try.func5, Try.ntmps5
  go_wp2_with fail
  refine (new_any a n c zs W HR.out.len HR.out.row).mono ?_
  rintro e w0 ⟨rfl, ht, hb, hs⟩
  rw [hB] at ht hb hs ⊢
  have HT : Hid (TapeAt w0 B) := ht
  clear ht
  go_wp2_with fail
  go_loopw [12] (fun j wr => ∃ k : Nat, k ≤ 6 ∧ j = .int .i64 k ∧ TapeAt wr B ∧ Below B W wr) (fun j _ => 6 - (intOf j).toNat)
  case atStart => exact ⟨0, by omega, rfl, HT.out, hb⟩
  case round =>
    obtain ⟨k, hk, rfl, ht, hbl⟩ := hrel
    obtain ⟨w1, rfl⟩ : ∃ w1 : World, w1 = wr := ⟨_, rfl⟩
    have HT1 := hid ht
    clear ht
    by_cases hk6 : k < 6
    · have hk6' : (k : Int) < 6 := by omega
      go_wp2_with fail
      refine (next_any B _ _ (by omega) HT1.out).mono ?_
      rintro e w2 ⟨r2, rfl, g1, g2, ht2, hg2, hs2⟩
      have HT2 := hid ht2
      have HG2 := hid hg2
      clear ht2 hg2 hs2
      go_wp2_with fail
      refine (next_any B _ _ (by omega) HT2.out).mono ?_
      rintro e w3 ⟨r3, rfl, g3, g4, ht3, hg3, hs3⟩
      have HT3 := hid ht3
      have HG3 := hid (grown_trans HG2.out hg3)
      clear ht3 hg3 hs3
      go_wp2_with fail
      refine (next_any B _ _ (by omega) HT3.out).mono ?_
      rintro e w4 ⟨r4, rfl, g5, g6, ht4, hg4, hs4⟩
      have HT4 := hid ht4
      have HG4 := hid (grown_trans HG3.out hg4)
      clear ht4 hg4 hs4
      go_wp2_with fail
      refine (next_any B _ _ (by omega) HT4.out).mono ?_
      rintro e w5 ⟨r5, rfl, g7, g8, ht5, hg5, hs5⟩
      have HT5 := hid ht5
      have HG5 := hid (grown_trans HG4.out hg5)
      clear ht5 hg5 hs5
      go_wp2_with fail
      have hB5 : B < w5.heap.size := HT5.out.lt
      refine (pick_any B _ 5 5 [r5, 0, -1, 700, 100000] _ (by omega) (by omega) (HT5.out.below (below_self _ _)) (row_lit [r5, 0, -1, 700, 100000] (alloc_at _ rfl)) (.inr ⟨_, rfl, by simp; omega⟩)).mono ?_
      rintro e w6 ⟨r6, rfl, hmem, ht6, hg6, hs6⟩
      have b6 : -1 ≤ r6 ∧ r6 ≤ 100000 := by
        simp at hmem; omega
      obtain ⟨b6l, b6u⟩ := b6
      have HT6 := hid ht6
      have HG6 : Hid (w1.grownBy w6 (some B)) := hid (grown_trans (grown_trans HG5.out (grown_of_below (below_self _ _))) hg6)
      clear ht6 hg6 hs6 hmem hB5
      by_cases h5 : k = 5
      · subst h5
        go_wp2_with (first | (go_at_call 21; refine (range_any _ _ _ _ _).mono ?_; rintro e w' ⟨lo, hi, ok, rfl, hR, rfl⟩; have HR1 := hid hR; clear hR) | (go_at_call 22; refine (rrange_any _ _ _ _ _).mono ?_; rintro e w' ⟨lo', hi', ok', rfl, hR, rfl⟩; obtain ⟨rfl, rfl, rfl⟩ := hR.unique HR1.out; clear hR) | (go_at_call 12; refine (mod_any _ _ _ (by omega) (by omega)).mono ?_; rintro e w' ⟨rfl, rfl⟩))
        go_roundw
        case rel => exact ⟨6, by omega, rfl, HT6.out, hbl.trans (below_of_grown HG6.out (by have := hbl.size; omega) (Nat.le_refl _))⟩
        case measure => simp [intOf]
      · have h5' : ((k : Int) == 5) = false := by simp; omega
        go_wp2_with (first | (go_at_call 21; refine (range_any _ _ _ _ _).mono ?_; rintro e w' ⟨lo, hi, ok, rfl, hR, rfl⟩; have HR1 := hid hR; clear hR) | (go_at_call 22; refine (rrange_any _ _ _ _ _).mono ?_; rintro e w' ⟨lo', hi', ok', rfl, hR, rfl⟩; obtain ⟨rfl, rfl, rfl⟩ := hR.unique HR1.out; clear hR) | (go_at_call 12; refine (mod_any _ _ _ (by omega) (by omega)).mono ?_; rintro e w' ⟨rfl, rfl⟩))
        go_roundw
        case rel => exact ⟨k + 1, by omega, by go_num, HT6.out, hbl.trans (below_of_grown HG6.out (by have := hbl.size; omega) (Nat.le_refl _))⟩
        case measure => simp [intOf]; omega
    · obtain rfl : k = 6 := by omega
      go_wp2_with (first | (go_at_call 14; refine (sane3 _).mono ?_; rintro e w' ⟨rfl, hb⟩))
      go_ret
      exact ⟨rfl, by rw [hB]; exact below_trans hbl hb (by have := hbl.size; omega)⟩
end Go.Proofs.Ytekpekhdkghnmaa
