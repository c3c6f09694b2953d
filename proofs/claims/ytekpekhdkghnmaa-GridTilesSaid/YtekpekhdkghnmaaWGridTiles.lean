/-
  The walk of GridTiles: the functions of a grid are those of the reference, for made and for arbitrary numbers.
-/
import Derived.Test.YtekpekhdkghnmaaAgrees
import Derived.Test.YtekpekhdkghnmaaTapeRect
import Derived.Test.YtekpekhdkghnmaaFrame
import Derived.Deep.RegionHeld3
import Derived.Deep.DrawnRows
namespace Go.Proofs.Ytekpekhdkghnmaa
open Go.RowKit
set_option linter.unusedVariables false
attribute [local go_sem ↓] Go.wp_at_zero Go.wp_at_succ

/-- What the loop carries: the box of the rectangle that came in, and the tape. -/
structure Held (B : Nat) (r0 r1 r2 r3 : Int) (W w : World) : Prop where
  box : w.heap[B]? = some (.cells #[.int .i64 r0, .int .i64 r1, .int .i64 r2, .int .i64 r3] 45 (0, 0))
  tape : TapeAt w (B + 1)
  since : Since B W w
theorem Held.next {B : Nat} {r0 r1 r2 r3 : Int} {W w w' : World} (h : Held B r0 r1 r2 r3 W w) (ht : TapeAt w' (B + 1)) (hg : w.grownBy w' (some (B + 1))) : Held B r0 r1 r2 r3 W w' :=
  ⟨kept_grown hg h.box (by omega), ht, h.since.grown hg (by omega)⟩
theorem Held.call {B : Nat} {r0 r1 r2 r3 : Int} {W w w' : World} (h : Held B r0 r1 r2 r3 W w) (hb : Below w.heap.size w w') : Held B r0 r1 r2 r3 W w' :=
  ⟨kept hb h.box, h.tape.below hb, h.since.call hb⟩

theorem box4_keep {B b : Nat} {x y z u : Value} {t : TypeId} {w0 w w' : World} (hb : Below w.heap.size w w')
    (h : w.heap[b]? = some (.cells #[x, y, z, u] t (0, 0)) ∧ w.cell? ⟨b, 0, none⟩ = some x ∧ w.cell? ⟨b, 1, none⟩ = some y ∧ w.cell? ⟨b, 2, none⟩ = some z ∧ w.cell? ⟨b, 3, none⟩ = some u ∧ Below B w0 w ∧ B ≤ w.heap.size) :
    w'.heap[b]? = some (.cells #[x, y, z, u] t (0, 0)) ∧ w'.cell? ⟨b, 0, none⟩ = some x ∧ w'.cell? ⟨b, 1, none⟩ = some y ∧ w'.cell? ⟨b, 2, none⟩ = some z ∧ w'.cell? ⟨b, 3, none⟩ = some u ∧ Below B w0 w' ∧ B ≤ w'.heap.size :=
  ⟨kept hb h.1, cell_of (kept hb h.1) rfl, cell_of (kept hb h.1) rfl, cell_of (kept hb h.1) rfl, cell_of (kept hb h.1) rfl, (Since.call ⟨h.2.2.2.2.2.1, h.2.2.2.2.2.2⟩ hb).below, (Since.call ⟨h.2.2.2.2.2.1, h.2.2.2.2.2.2⟩ hb).size⟩

set_option maxRecDepth 100000 in
set_option maxHeartbeats 1600000 in
theorem walk_GridTiles (a : Option Addr) (n c : Nat) (zs : List Int) (w h tw th i x y r0 r1 r2 r3 : Int) (W : World) (hr : RowIn .i64 W a n c zs) (_ : I64 w) (_ : I64 h) (_ : I64 tw) (_ : I64 th) (hi : I64 i) (_ : I64 x) (_ : I64 y) (_ : I64 r0) (_ : I64 r1) (_ : I64 r2) (_ : I64 r3) :
    Calls Try.prog 9 #[.slice a n c, .int .i64 w, .int .i64 h, .int .i64 tw, .int .i64 th, .int .i64 i, .int .i64 x, .int .i64 y, .agg #[.int .i64 r0, .int .i64 r1, .int .i64 r2, .int .i64 r3]] W fun e w' => e = .returned (.bool true) ∧ Below W.heap.size W w' := by
  have HR : Hid (RowIn .i64 W a n c zs) := hr
  have HI : Hid (I64 i) := hi
  clear hr hi
  obtain ⟨B, hB⟩ : ∃ B, W.heap.size = B := ⟨_, rfl⟩
  go_enter Try.func9, Try.ntmps9
  go_wp2_with fail
  refine (new_any a n c zs _ HR.out.len (HR.out.row.below (below_self _ _))).mono ?_
  rintro e w0 ⟨rfl, ht, hb, hs⟩
  rw [show (W.alloc (.cells #[.int .i64 r0, .int .i64 r1, .int .i64 r2, .int .i64 r3] 45)).heap.size = B + 1 from alloc_size _ hB] at *
  have H0 : Hid (Held B r0 r1 r2 r3 W w0) := ⟨by rw [hb.block B (by omega)]; exact alloc_at _ hB, ht, ⟨((Since.self hB).alloc _).below.trans (hb.mono (by omega)), by omega⟩⟩
  clear ht hb hs
  go_wp2_with fail
  go_loopw [20] (fun j wr => ∃ k : Nat, k ≤ 5 ∧ j = .int .i64 k ∧ Held B r0 r1 r2 r3 W wr) (fun j _ => 5 - (intOf j).toNat)
  case atStart => exact ⟨0, by omega, rfl, H0.out⟩
  case round =>
    obtain ⟨k, hk, rfl, hh⟩ := hrel
    obtain ⟨w1, rfl⟩ : ∃ w1 : World, w1 = wr := ⟨_, rfl⟩
    by_cases hk5 : k < 5
    · have hk5' : (k : Int) < 5 := by omega
      go_wp2_with fail
      refine (next_any _ _ _ (by omega) hh.tape).mono ?_
      rintro e w2 ⟨z1, rfl, g1, g2, ht, hg, hs⟩
      have h2 := hh.next ht hg
      clear hh ht hg hs
      go_wp2_with fail
      refine (next_any _ _ _ (by omega) h2.tape).mono ?_
      rintro e w3 ⟨z2, rfl, g3, g4, ht, hg, hs⟩
      have h3 := h2.next ht hg
      clear h2 ht hg hs
      go_wp2_with fail
      refine (next_any _ _ _ (by omega) h3.tape).mono ?_
      rintro e w4 ⟨z3, rfl, g5, g6, ht, hg, hs⟩
      have h4 := h3.next ht hg
      clear h3 ht hg hs
      go_wp2_with fail
      refine (next_any _ _ _ (by omega) h4.tape).mono ?_
      rintro e w5 ⟨z4, rfl, g7, g8, ht, hg, hs⟩
      have h5 := h4.next ht hg
      clear h4 ht hg hs
      go_wp2_with fail
      refine (next_any _ _ _ (by omega) h5.tape).mono ?_
      rintro e w6 ⟨z5, rfl, g9, g10, ht, hg, hs⟩
      have h6 := h5.next ht hg
      clear h5 ht hg hs
      go_wp2_with fail
      refine (next_any _ _ _ (by omega) h6.tape).mono ?_
      rintro e w7 ⟨z6, rfl, g11, g12, ht, hg, hs⟩
      have h7 := h6.next ht hg
      clear h6 ht hg hs
      go_wp2_with fail
      refine (next_any _ _ _ (by omega) h7.tape).mono ?_
      rintro e w8 ⟨z7, rfl, g13, g14, ht, hg, hs⟩
      have h8 := h7.next ht hg
      clear h7 ht hg hs
      go_wp2_with fail
      refine (tapeRect_any _ _ h8.tape).mono ?_
      rintro e w9 ⟨s0, s1, s2, s3, rfl, hrun⟩
      have h9 := h8.next hrun.tape hrun.grown
      clear h8 hrun
      go_wp2_with fail
      refine (agrees_any _ _ _ _ _ _ _ _ _ _ _ _ (by omega)).mono ?_
      rintro e w10 ⟨rfl, hb⟩
      have h10 := h9.call hb
      clear h9 hb
      go_wp2_with fail
      go_roundw
      case rel => exact ⟨k + 1, by omega, by go_num, h10⟩
      case measure => simp [intOf]; omega
    · obtain rfl : k = 5 := by omega
      have HH := hid hh
      clear hh
      have S0 := box4_keep (w' := w1.drew) (below_drewN (Below.refl _ _) 1) ⟨HH.out.box, cell_of HH.out.box rfl, cell_of HH.out.box rfl, cell_of HH.out.box rfl, cell_of HH.out.box rfl, HH.out.since.below, HH.out.since.size⟩
      have HS := hid S0
      clear S0
      go_wp2_with fail
      go_region_held3 (fun w' => w'.heap[B]? = some (.cells #[.int .i64 r0, .int .i64 r1, .int .i64 r2, .int .i64 r3] 45 (0, 0)) ∧ w'.cell? ⟨B, 0, none⟩ = some (.int .i64 r0) ∧ w'.cell? ⟨B, 1, none⟩ = some (.int .i64 r1) ∧ w'.cell? ⟨B, 2, none⟩ = some (.int .i64 r2) ∧ w'.cell? ⟨B, 3, none⟩ = some (.int .i64 r3) ∧ Below B W w' ∧ B ≤ w'.heap.size)
        (first | exact HS.out | (refine box4_keep hbs ?_; assumption) | assumption)
        (first
          | (go_at_call 12; refine (mod_any _ _ _ (by omega) (by omega)).mono ?_; rintro e w' ⟨rfl, rfl⟩)
          | (go_at_call 26; refine (agrees_any _ _ _ _ _ _ _ _ _ _ _ _ HI.out).mono ?_; rintro e w' ⟨rfl, hbs⟩)
          | (go_at_call 25; refine (sane5 _).mono ?_; rintro e w' ⟨rfl, hbs⟩))
      rename_i hz
      have HZ := hid hz
      clear hz
      go_wp2_with fail
      go_ret
      exact ⟨rfl, by rw [hB]; exact HZ.out.2.2.2.2.2.1⟩
end Go.Proofs.Ytekpekhdkghnmaa
