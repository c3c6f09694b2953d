/-
  Contract of the tape's Rect: some rectangle; the tape alone has changed.
-/
import Derived.Test.YtekpekhdkghnmaaTape
import Derived.Test.YtekpekhdkghnmaaRectPlain
import Derived.Deep.RegionWith
import Derived.Deep.DrawnRows
import Derived.Deep.DeepCutAuto
namespace Go.Proofs.Ytekpekhdkghnmaa
open Go.RowKit
attribute [local go_sem ↓] Go.wp_at_zero Go.wp_at_succ

/-- A tape, and that beside it nothing that was there has changed since the world w0. -/
structure Run (k : Nat) (w0 w : World) : Prop where
  tape : TapeAt w k
  grown : w0.grownBy w (some k)

theorem Run.next {k : Nat} {w0 w w' : World} (h : Run k w0 w) (ht : TapeAt w' k) (hg : w.grownBy w' (some k)) : Run k w0 w' := ⟨ht, grown_trans h.grown hg⟩
theorem Run.alloc {k : Nat} {w0 w : World} (h : Run k w0 w) (o : Obj) : Run k w0 (w.alloc o) := ⟨h.tape.below (below_self _ _), grown_trans h.grown (grown_of_below (below_self _ _))⟩
theorem Run.drewN {k : Nat} {w0 w : World} (h : Run k w0 w) (n : Nat) : Run k w0 (w.drewN n) := ⟨h.tape.below (below_drewN (Below.refl _ _) _), grown_trans h.grown (grown_drewN _ _ _)⟩
theorem Run.drew {k : Nat} {w0 w : World} (h : Run k w0 w) : Run k w0 w.drew := h.drewN 1
theorem Run.call {k : Nat} {w0 w w' : World} (h : Run k w0 w) (hb : Below w.heap.size w w') : Run k w0 w' := ⟨h.tape.below hb, grown_trans h.grown (grown_of_below hb)⟩
/-- A store into a block that was not there at first, and is not the tape. -/
theorem Run.set {k : Nat} {w0 w : World} (h : Run k w0 w) {b o : Nat} (u : Value) (hb : w0.heap.size ≤ b) (hk : k < b) : Run k w0 (w.setCell ⟨b, o, none⟩ u) :=
  ⟨h.tape.grown (grown_setCell _ _ _ _) hk, ⟨h.grown.os, h.grown.tape, h.grown.output, by have := h.grown.size; simpa [World.setCell] using this, fun j hj hr => by
    rw [Below.heap_setCell _ _ _ _ (by simp; omega)]; exact h.grown.block j hj hr⟩⟩

theorem Run.set4 {k : Nat} {w0 w : World} (h : Run k w0 w) {b : Nat} {x y z u : Value} (hb : w0.heap.size ≤ b) (hk : k < b) : Run k w0 (set4 w b x y z u) := (((h.set x hb hk).set y hb hk).set z hb hk).set u hb hk

def TapeRectPost (k : Nat) (w : World) (e : Ending) (w' : World) : Prop :=
  ∃ r0 r1 r2 r3 : Int, e = .returned (.agg #[.int .i64 r0, .int .i64 r1, .int .i64 r2, .int .i64 r3]) ∧ Run k w w'

set_option maxRecDepth 100000 in
set_option maxHeartbeats 1600000 in
theorem tapeRect_any (k : Nat) (w : World) (ht : TapeAt w k) :
    Calls Try.prog 27 #[.pointer (some ⟨k, 0, none⟩)] w (TapeRectPost k w) := by
  obtain ⟨B, hB⟩ : ∃ B, w.heap.size = B := ⟨_, rfl⟩
  have kB : k < B := by have := ht.lt; omega
  have R0 : Run k w w := ⟨ht, ⟨rfl, rfl, rfl, Nat.le_refl _, fun _ _ _ => rfl⟩⟩
  have H0 := hid R0
  clear R0 ht
  go_enter Try.func27, Try.ntmps27
  go_wp2_with fail
  refine (next_any k _ _ (by omega) (H0.out.alloc _).tape).mono ?_
  rintro e w1 ⟨x0, rfl, g1, g2, ht1, hg1, hs1⟩
  have H1 := hid ((H0.out.alloc _).next ht1 hg1)
  have Z1 := hid (kept_grown hg1 (alloc_at _ hB) (by omega))
  clear ht1 hg1 hs1
  go_wp2_with fail
  refine (next_any k _ _ (by omega) H1.out.tape).mono ?_
  rintro e w2 ⟨y0, rfl, g3, g4, ht2, hg2, hs2⟩
  have H2 := hid (H1.out.next ht2 hg2)
  have Z2 := hid (kept_grown hg2 Z1.out (by omega))
  clear ht2 hg2 hs2
  obtain ⟨R, hR⟩ : ∃ R, w2.heap.size = R := ⟨_, rfl⟩
  have BR : B < R := by have := lt_of_block Z2.out; omega
  go_upto_region 2 with fail
  have HR := hid hR
  clear hR
  go_cut [2] (fun s wx => ∃ z u : Int, s = .pointer (some ⟨B, 0, none⟩) ∧ Run k w wx ∧ wx.heap[R]? = some (.cells #[.int .i64 (x0 - 2), .int .i64 (y0 - 2), .int .i64 z, .int .i64 u] 45 (0, 0)) ∧ wx.heap[B]? = some (.cells #[.int .i64 0, .int .i64 0, .int .i64 0, .int .i64 0] 45 (0, 0)))
  case first =>
    have K := hid (alloc_at (.cells #[.int .i64 (x0 - 2), .int .i64 (y0 - 2), .int .i64 0, .int .i64 0] 45) HR.out)
    have KB := hid (alloc_past (.cells #[.int .i64 (x0 - 2), .int .i64 (y0 - 2), .int .i64 0, .int .i64 0] 45) Z2.out)
    have RK := hid (H2.out.alloc (.cells #[.int .i64 (x0 - 2), .int .i64 (y0 - 2), .int .i64 0, .int .i64 0] 45))
    obtain ⟨w3, hw3⟩ : ∃ w3, w3 = w2.alloc (.cells #[.int .i64 (x0 - 2), .int .i64 (y0 - 2), .int .i64 0, .int .i64 0] 45) := ⟨_, rfl⟩
    rw [← hw3] at K KB RK ⊢
    clear hw3
    have c0 := cell_of (i := 0) K.out rfl
    have c1 := cell_of (i := 1) K.out rfl
    have T3 := RK.out.tape
    have KK := K.out
    have BB := KB.out
    have RR := RK.out
    have bR : w.heap.size ≤ R := by omega
    go_region_with (go_at_call 19; refine (next_any k _ _ (by omega) ?_).mono ?_; (first | exact T3 | assumption); rintro e wn ⟨z, rfl, g5, g6, htn, hgn, hsn⟩; have Kn := kept_grown (b := R) hgn (by first | exact KK | assumption) (by omega); have cn0 := cell_of (i := 0) Kn rfl; have cn1 := cell_of (i := 1) Kn rfl; have cn2 := cell_of (i := 2) Kn rfl; have cn3 := cell_of (i := 3) Kn rfl; have fn2 := free_of (i := 2) Kn; have fn3 := free_of (i := 3) Kn; have Bn := kept_grown (b := B) hgn (by first | exact BB | assumption) (by omega); have Rn := Run.next (by first | exact RR.drew | assumption) htn hgn)
    all_goals (go_wp2_with fail; go_meet; exact ⟨_, _, rfl, (Rn.set _ bR (by omega)).set _ bR (by omega), block_setCell _ (block_setCell _ Kn), by rw [Below.heap_setCell _ _ _ _ (by simp; omega), Below.heap_setCell _ _ _ _ (by simp; omega)]; exact Bn⟩)
  case rest =>
    obtain ⟨z, u, rfl, hr, hk, hz⟩ := hcut
    have HR' := hid hr
    have HK := hid hk
    have HZ := hid hz
    clear hr hk hz H0 H1 H2 Z1 Z2 HR
    go_wp2_with fail
    refine (next_any k _ _ (by omega) HR'.out.tape).mono ?_
    rintro e w3 ⟨c, rfl, g5, g6, ht3, hg3, hs3⟩
    have H3 := hid (HR'.out.next ht3 hg3)
    have K3 := kept_grown hg3 HK.out (by omega)
    have k30 := cell_of (i := 0) K3 rfl
    have k31 := cell_of (i := 1) K3 rfl
    have k32 := cell_of (i := 2) K3 rfl
    have k33 := cell_of (i := 3) K3 rfl
    have f30 := free_of (i := 0) K3
    have f31 := free_of (i := 1) K3
    have f32 := free_of (i := 2) K3
    have f33 := free_of (i := 3) K3
    have Z3 := kept_grown hg3 HZ.out (by omega)
    have z30 := cell_of (i := 0) Z3 rfl
    have z31 := cell_of (i := 1) Z3 rfl
    have z32 := cell_of (i := 2) Z3 rfl
    have z33 := cell_of (i := 3) Z3 rfl
    have e30 := free_of (i := 0) Z3
    have e31 := free_of (i := 1) Z3
    have e32 := free_of (i := 2) Z3
    have e33 := free_of (i := 3) Z3
    have HK3 := hid K3
    have HZ3 := hid Z3
    clear K3 Z3 ht3 hg3 hs3
    by_cases c11 : c = 11
    · subst c11
      go_wp2_with fail
      obtain ⟨q0, q1, q2, q3⟩ := set4_cells (x := .int .i64 (0)) (y := .int .i64 (0)) (z := .int .i64 (0)) (u := .int .i64 (0)) (HZ3.out)
      refine bodyPost_ret (v := .agg #[.int .i64 (0), .int .i64 (0), .int .i64 (0), .int .i64 (0)]) ?_ rfl ⟨_, _, _, _, rfl, (H3.out).set4 (b := B) (by omega) (by omega)⟩
      unfold set4 at q0 q1 q2 q3
      simp [results, Try.results27, go_sem, q0, q1, q2, q3]
    by_cases c12 : c = 12
    · subst c12
      go_wp2_with fail
      obtain ⟨q0, q1, q2, q3⟩ := set4_cells (x := .int .i64 (x0 - 2)) (y := .int .i64 (y0 - 2)) (z := .int .i64 (x0 - 2)) (u := .int .i64 (u)) (w := w3.setCell ⟨R, 2, none⟩ (.int .i64 (x0 - 2))) (b := B) (by rw [Below.heap_setCell _ _ _ _ (by simp; omega)]; exact HZ3.out)
      refine bodyPost_ret (v := .agg #[.int .i64 (x0 - 2), .int .i64 (y0 - 2), .int .i64 (x0 - 2), .int .i64 (u)]) ?_ rfl ⟨_, _, _, _, rfl, (H3.out.set (b := R) _ (by omega) (by omega)).set4 (b := B) (by omega) (by omega)⟩
      unfold set4 at q0 q1 q2 q3
      simp [results, Try.results27, go_sem, q0, q1, q2, q3]
    by_cases c13 : c = 13
    · subst c13
      have k3 : k < w3.heap.size := H3.out.tape.lt
      clear k30 k31 k32 k33 f30 f31 f32 f33 z30 z31 z32 z33 e30 e31 e32 e33
      go_wp2_with fail
      refine (pick_any k _ 2 2 [-1048576, -1048577] _ (by omega) (by omega) (H3.out.alloc _).tape (row_lit [-1048576, -1048577] (alloc_at _ rfl)) (.inr ⟨_, rfl, by simp; omega⟩)).mono ?_
      rintro e w4 ⟨p, rfl, hp, ht4, hg4, hs4⟩
      have H4 := hid ((H3.out.alloc _).next ht4 hg4)
      have HK4 := hid (kept_grown hg4 (alloc_past _ HK3.out) (by omega))
      have HZ4 := hid (kept_grown hg4 (alloc_past _ HZ3.out) (by omega))
      have k4 : k < w4.heap.size := H4.out.tape.lt
      clear hp ht4 hg4 hs4
      go_wp2_with fail
      refine (pick_any k _ 2 2 [1048576, 1048577] _ (by omega) (by omega) (H4.out.alloc _).tape (row_lit [1048576, 1048577] (alloc_at _ rfl)) (.inr ⟨_, rfl, by simp; omega⟩)).mono ?_
      rintro e w5 ⟨q, rfl, hq, ht5, hg5, hs5⟩
      have H5 := hid ((H4.out.alloc _).next ht5 hg5)
      have HK5 := hid (kept_grown hg5 (alloc_past _ HK4.out) (by omega))
      have HZ5 := hid (kept_grown hg5 (alloc_past _ HZ4.out) (by omega))
      clear hq ht5 hg5 hs5
      have K3 := HK5.out
      have k30 := cell_of (i := 0) K3 rfl
      have k31 := cell_of (i := 1) K3 rfl
      have k32 := cell_of (i := 2) K3 rfl
      have k33 := cell_of (i := 3) K3 rfl
      have f30 := free_of (i := 0) K3
      have f32 := free_of (i := 2) K3
      have Z3 := HZ5.out
      have z30 := cell_of (i := 0) Z3 rfl
      have z31 := cell_of (i := 1) Z3 rfl
      have z32 := cell_of (i := 2) Z3 rfl
      have z33 := cell_of (i := 3) Z3 rfl
      have e30 := free_of (i := 0) Z3
      have e31 := free_of (i := 1) Z3
      have e32 := free_of (i := 2) Z3
      have e33 := free_of (i := 3) Z3
      clear K3 Z3
      go_wp2_with fail
      obtain ⟨q0, q1, q2, q3⟩ := set4_cells (x := .int .i64 (p)) (y := .int .i64 (y0 - 2)) (z := .int .i64 (q)) (u := .int .i64 (u)) (w := (w5.setCell ⟨R, 0, none⟩ (.int .i64 p)).setCell ⟨R, 2, none⟩ (.int .i64 q)) (b := B) (by rw [Below.heap_setCell _ _ _ _ (by simp; omega), Below.heap_setCell _ _ _ _ (by simp; omega)]; exact HZ5.out)
      refine bodyPost_ret (v := .agg #[.int .i64 (p), .int .i64 (y0 - 2), .int .i64 (q), .int .i64 (u)]) ?_ rfl ⟨_, _, _, _, rfl, ((H5.out.set (b := R) _ (by omega) (by omega)).set (b := R) _ (by omega) (by omega)).set4 (b := B) (by omega) (by omega)⟩
      unfold set4 at q0 q1 q2 q3
      simp [results, Try.results27, go_sem, q0, q1, q2, q3]
    have n11 : (c == 11) = false := by simp; omega
    have n12 : (c == 12) = false := by simp; omega
    have n13 : (c == 13) = false := by simp; omega
    go_wp2_with fail
    obtain ⟨q0, q1, q2, q3⟩ := set4_cells (x := .int .i64 (x0 - 2)) (y := .int .i64 (y0 - 2)) (z := .int .i64 (z)) (u := .int .i64 (u)) (HZ3.out)
    refine bodyPost_ret (v := .agg #[.int .i64 (x0 - 2), .int .i64 (y0 - 2), .int .i64 (z), .int .i64 (u)]) ?_ rfl ⟨_, _, _, _, rfl, (H3.out).set4 (b := B) (by omega) (by omega)⟩
    unfold set4 at q0 q1 q2 q3
    simp [results, Try.results27, go_sem, q0, q1, q2, q3]
end Go.Proofs.Ytekpekhdkghnmaa
