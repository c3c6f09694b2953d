/-
  Contracts of the tape's Within: a rectangle within a size; the tape alone has changed. Contract of the tape's Sized: a valid plane of a size; the tape alone has changed. Contracts: equal planes, in the reference; the tape's Plane and Edge.
-/
import Derived.Test.YtocikgdkigcjbaaKA
import Derived.Deep.RegionWith
import Derived.Deep.DrawnRows
import Derived.Deep.RegionHeld3
import Derived.Deep.DeepCutAuto
import Derived.Test.YtocikgdkigcjbaaKB
namespace Go.Proofs.Ytocikgdkigcjbaa
section
open Go.RowKit
attribute [local go_sem ↓] Go.wp_at_zero Go.wp_at_succ
set_option linter.unusedVariables false
set_option linter.unusedSimpArgs false

def WithinPost (B0 k : Nat) (W : World) (w h : Int) (e : Ending) (w' : World) : Prop :=
  ∃ r0 r1 r2 r3 : Int, e = .returned (.agg #[.int .i64 r0, .int .i64 r1, .int .i64 r2, .int .i64 r3]) ∧ (0 ≤ r0 ∧ r0 < r2 ∧ r2 ≤ w ∧ 0 ≤ r1 ∧ r1 < r3 ∧ r3 ≤ h) ∧ TapeB B0 w' k ∧ W.grownBy w' (some k)

theorem wi_mk {B0 k B R : Nat} {W wB : World} {x0 y0 z u : Int} (h : Tk B0 k B W [.cells R #[.int .i64 x0, .int .i64 y0, .int .i64 z, .int .i64 u] 33, .cells B #[.int .i64 0, .int .i64 0, .int .i64 0, .int .i64 0] 33] wB) : (∃ z u : Int, Tk B0 k B W [.cells R #[.int .i64 x0, .int .i64 y0, .int .i64 z, .int .i64 u] 33, .cells B #[.int .i64 0, .int .i64 0, .int .i64 0, .int .i64 0] 33] wB) ∧ wB.cell? ⟨R, 0, none⟩ = some (.int .i64 x0) ∧ wB.cell? ⟨R, 1, none⟩ = some (.int .i64 y0) := ⟨⟨z, u, h⟩, h.cell 0 rfl 0 rfl, h.cell 0 rfl 1 rfl⟩
theorem wi_next {B0 k B R : Nat} {W wA wB : World} {x0 y0 : Int} (p : (∃ z u : Int, Tk B0 k B W [.cells R #[.int .i64 x0, .int .i64 y0, .int .i64 z, .int .i64 u] 33, .cells B #[.int .i64 0, .int .i64 0, .int .i64 0, .int .i64 0] 33] wA) ∧ wA.cell? ⟨R, 0, none⟩ = some (.int .i64 x0) ∧ wA.cell? ⟨R, 1, none⟩ = some (.int .i64 y0)) (ht : TapeB B0 wB k) (hg : wA.grownBy wB (some k)) : (∃ z u : Int, Tk B0 k B W [.cells R #[.int .i64 x0, .int .i64 y0, .int .i64 z, .int .i64 u] 33, .cells B #[.int .i64 0, .int .i64 0, .int .i64 0, .int .i64 0] 33] wB) ∧ wB.cell? ⟨R, 0, none⟩ = some (.int .i64 x0) ∧ wB.cell? ⟨R, 1, none⟩ = some (.int .i64 y0) := by
  obtain ⟨⟨z, u, h⟩, _⟩ := p; exact wi_mk (h.next ht hg)
theorem wi_tape {B0 k B R : Nat} {W wA : World} {x0 y0 : Int} (p : (∃ z u : Int, Tk B0 k B W [.cells R #[.int .i64 x0, .int .i64 y0, .int .i64 z, .int .i64 u] 33, .cells B #[.int .i64 0, .int .i64 0, .int .i64 0, .int .i64 0] 33] wA) ∧ wA.cell? ⟨R, 0, none⟩ = some (.int .i64 x0) ∧ wA.cell? ⟨R, 1, none⟩ = some (.int .i64 y0)) : TapeB B0 wA k := by
  obtain ⟨⟨z, u, h⟩, _⟩ := p; exact h.tape

set_option maxRecDepth 100000 in
set_option maxHeartbeats 1600000 in
theorem within_any (B0 k : Nat) (w h : Int) (W : World) (hw : 1 ≤ w) (hw' : w ≤ 1000000) (hh : 1 ≤ h) (hh' : h ≤ 1000000) (ht : TapeB B0 W k) :
    Calls Try.prog 17 #[.pointer (some ⟨k, 0, none⟩), .int .i64 w, .int .i64 h] W (WithinPost B0 k W w h) := by
  obtain ⟨B, hB⟩ : ∃ B, W.heap.size = B := ⟨_, rfl⟩
  have H0 := hid ((Tk.init ht hB).alloc #[.int .i64 0, .int .i64 0, .int .i64 0, .int .i64 0] 33 hB)
  clear ht
  go_enter Try.func17, Try.ntmps17
  go_wp2_with fail
  refine (nextB_any B0 k _ _ (by omega) H0.out.tape).mono ?_
  rintro e w1 ⟨x0, rfl, g1, g2, ht1, hg1, hs1⟩
  have H1 := hid (H0.out.next ht1 hg1)
  clear ht1 hg1 hs1
  go_wp2_with fail
  refine (nextB_any B0 k _ _ (by omega) H1.out.tape).mono ?_
  rintro e w2 ⟨y0, rfl, g3, g4, ht2, hg2, hs2⟩
  have H2 := hid (H1.out.next ht2 hg2)
  clear ht2 hg2 hs2
  obtain ⟨R, hR⟩ : ∃ R, w2.heap.size = R := ⟨_, rfl⟩
  have g2' : x0 < w := by omega
  have g4' : y0 < h := by omega
  clear g2 g4
  go_upto_region 2 with fail
  have H3 := hid (H2.out.alloc #[.int .i64 x0, .int .i64 y0, .int .i64 0, .int .i64 0] 33 hR)
  clear hR
  -- REGION
  have q1 : IntKind.i64.wrap (x0 + 1) = x0 + 1 := IntWalk.i64_in _ (by omega)
  have q2 : IntKind.i64.wrap (w - x0) = w - x0 := IntWalk.i64_in _ (by omega)
  have q3 : IntKind.i64.wrap (y0 + 1) = y0 + 1 := IntWalk.i64_in _ (by omega)
  have q4 : IntKind.i64.wrap (h - y0) = h - y0 := IntWalk.i64_in _ (by omega)
  have HS := hid (wi_mk (H3.out.drewN 1))
  refine wp_region_held_drew (S := (fun w' => (∃ z u : Int, Tk B0 k B W [.cells R #[.int .i64 x0, .int .i64 y0, .int .i64 z, .int .i64 u] 33, .cells B #[.int .i64 0, .int .i64 0, .int .i64 0, .int .i64 0] 33] w') ∧ w'.cell? ⟨R, 0, none⟩ = some (.int .i64 x0) ∧ w'.cell? ⟨R, 1, none⟩ = some (.int .i64 y0))) (by kernel_rfl) HS.out (fun hHeld => ?_)
  refine wpAnyH_take (i := 0) (oi := _) (v := ?_) rfl (by kernel_rfl) (by kernel_rfl) (by kernel_rfl) (fun _ _ _ h => h) (Or.inl ⟨by rfl, ?_⟩) (by assumption) ?_
  rotate_left
  focus (intro wS hSw; (try dsimp only at hSw); go_simp; (try with_reducible rfl))
  try simp only [Act.put, List.getElem_toArray, List.getElem_cons_zero, List.getElem_cons_succ, List.setIfInBounds_toArray, List.set_cons_zero, List.set_cons_succ]
  refine wpAnyH_take (i := 1) (oi := _) (v := ?_) rfl (by kernel_rfl) (by kernel_rfl) (by kernel_rfl) (fun _ _ _ h => h) (Or.inl ⟨by rfl, ?_⟩) (by assumption) ?_
  rotate_left
  focus (intro wS hSw; (try dsimp only at hSw); go_simp; (try with_reducible rfl))
  try simp only [Act.put, List.getElem_toArray, List.getElem_cons_zero, List.getElem_cons_succ, List.setIfInBounds_toArray, List.set_cons_zero, List.set_cons_succ]
  refine wpAnyH_take (i := 2) (oi := _) (v := ?_) rfl (by kernel_rfl) (by kernel_rfl) (by kernel_rfl) (fun _ _ _ h => h) (Or.inl ⟨by rfl, ?_⟩) (by assumption) ?_
  rotate_left
  focus (intro wS hSw; (try dsimp only at hSw); go_simp; (try with_reducible rfl))
  try simp only [Act.put, List.getElem_toArray, List.getElem_cons_zero, List.getElem_cons_succ, List.setIfInBounds_toArray, List.set_cons_zero, List.set_cons_succ]
  refine wpAnyH_take (i := 3) (oi := _) (v := ?_) rfl (by kernel_rfl) (by kernel_rfl) (by kernel_rfl) (fun _ _ _ h => h) (Or.inl ⟨by rfl, ?_⟩) (by assumption) ?_
  rotate_left
  focus (intro wS hSw; (try dsimp only at hSw); go_simp; (try with_reducible rfl))
  try simp only [Act.put, List.getElem_toArray, List.getElem_cons_zero, List.getElem_cons_succ, List.setIfInBounds_toArray, List.set_cons_zero, List.set_cons_succ]
  refine wpAnyH_take (i := 4) (oi := _) (v := ?_) rfl (by kernel_rfl) (by kernel_rfl) (by kernel_rfl) (fun _ _ _ h => h) (Or.inl ⟨by rfl, ?_⟩) (by assumption) ?_
  rotate_left
  focus (intro wS hSw; (try dsimp only at hSw); go_simp; (try with_reducible rfl))
  try simp only [Act.put, List.getElem_toArray, List.getElem_cons_zero, List.getElem_cons_succ, List.setIfInBounds_toArray, List.set_cons_zero, List.set_cons_succ]
  refine wpAnyH_take (i := 5) (oi := _) (v := ?_) rfl (by kernel_rfl) (by kernel_rfl) (by kernel_rfl) (fun _ _ _ h => h) (Or.inl ⟨by rfl, ?_⟩) (by assumption) ?_
  rotate_left
  focus (intro wS hSw; (try dsimp only at hSw); go_simp; (try with_reducible rfl))
  try simp only [Act.put, List.getElem_toArray, List.getElem_cons_zero, List.getElem_cons_succ, List.setIfInBounds_toArray, List.set_cons_zero, List.set_cons_succ]
  refine wpAnyH_take (i := 6) (oi := _) (v := ?_) rfl (by kernel_rfl) (by kernel_rfl) (by kernel_rfl) (fun _ _ _ h => h) (Or.inl ⟨by rfl, ?_⟩) (by assumption) ?_
  rotate_left
  focus (intro wS hSw; (try dsimp only at hSw); go_simp; (try with_reducible rfl))
  try simp only [Act.put, List.getElem_toArray, List.getElem_cons_zero, List.getElem_cons_succ, List.setIfInBounds_toArray, List.set_cons_zero, List.set_cons_succ]
  refine wpAnyH_take (i := 7) (oi := _) (v := ?_) rfl (by kernel_rfl) (by kernel_rfl) (by kernel_rfl) (fun _ _ _ h => h) (Or.inl ⟨by rfl, ?_⟩) (by assumption) ?_
  rotate_left
  focus (intro wS hSw; (try dsimp only at hSw); go_simp; (try with_reducible rfl))
  try simp only [Act.put, List.getElem_toArray, List.getElem_cons_zero, List.getElem_cons_succ, List.setIfInBounds_toArray, List.set_cons_zero, List.set_cons_succ]
  refine wpAnyH_take (i := 10) (oi := _) (v := ?_) rfl (by kernel_rfl) (by kernel_rfl) (by kernel_rfl) (fun _ _ _ h => h) (Or.inl ⟨by rfl, ?_⟩) (by assumption) ?_
  rotate_left
  focus (intro wS hSw; (try dsimp only at hSw); go_simp; (try with_reducible rfl))
  try simp only [Act.put, List.getElem_toArray, List.getElem_cons_zero, List.getElem_cons_succ, List.setIfInBounds_toArray, List.set_cons_zero, List.set_cons_succ]
  refine wpAnyH_take (i := 11) (oi := _) (v := ?_) rfl (by kernel_rfl) (by kernel_rfl) (by kernel_rfl) (fun _ _ _ h => h) (Or.inl ⟨by rfl, ?_⟩) (by assumption) ?_
  rotate_left
  focus (intro wS hSw; (try dsimp only at hSw); go_simp; (try with_reducible rfl))
  try simp only [Act.put, List.getElem_toArray, List.getElem_cons_zero, List.getElem_cons_succ, List.setIfInBounds_toArray, List.set_cons_zero, List.set_cons_succ]
  refine wpAnyH_take (i := 12) (oi := _) (v := ?_) rfl (by kernel_rfl) (by kernel_rfl) (by kernel_rfl) (fun _ _ _ h => h) (Or.inl ⟨by rfl, ?_⟩) (by assumption) ?_
  rotate_left
  focus (intro wS hSw; (try dsimp only at hSw); go_simp; (try with_reducible rfl))
  try simp only [Act.put, List.getElem_toArray, List.getElem_cons_zero, List.getElem_cons_succ, List.setIfInBounds_toArray, List.set_cons_zero, List.set_cons_succ]
  refine wpAnyH_take (i := 13) (oi := _) (v := ?_) rfl (by kernel_rfl) (by kernel_rfl) (by kernel_rfl) (fun _ _ _ h => h) (Or.inl ⟨by rfl, ?_⟩) (by assumption) ?_
  rotate_left
  focus (intro wS hSw; (try dsimp only at hSw); go_simp; (try with_reducible rfl))
  try simp only [Act.put, List.getElem_toArray, List.getElem_cons_zero, List.getElem_cons_succ, List.setIfInBounds_toArray, List.set_cons_zero, List.set_cons_succ]
  refine wpAnyH_take (i := 14) (oi := _) (v := ?_) rfl (by kernel_rfl) (by kernel_rfl) (by kernel_rfl) (fun _ _ _ h => h) (Or.inl ⟨by rfl, ?_⟩) (by assumption) ?_
  rotate_left
  focus (intro wS hSw; (try dsimp only at hSw); go_simp; (try with_reducible rfl))
  try simp only [Act.put, List.getElem_toArray, List.getElem_cons_zero, List.getElem_cons_succ, List.setIfInBounds_toArray, List.set_cons_zero, List.set_cons_succ]
  refine wpAnyH_take (i := 15) (oi := _) (v := ?_) rfl (by kernel_rfl) (by kernel_rfl) (by kernel_rfl) (fun _ _ _ h => h) (Or.inl ⟨by rfl, ?_⟩) (by assumption) ?_
  rotate_left
  focus (intro wS hSw; (try dsimp only at hSw); go_simp; (try with_reducible rfl))
  try simp only [Act.put, List.getElem_toArray, List.getElem_cons_zero, List.getElem_cons_succ, List.setIfInBounds_toArray, List.set_cons_zero, List.set_cons_succ]
  refine wpAnyH_take (i := 16) (oi := _) (v := ?_) rfl (by kernel_rfl) (by kernel_rfl) (by kernel_rfl) (fun _ _ _ h => h) (Or.inl ⟨by rfl, ?_⟩) (by assumption) ?_
  rotate_left
  focus (intro wS hSw; (try dsimp only at hSw); go_simp; (try with_reducible rfl))
  try simp only [Act.put, List.getElem_toArray, List.getElem_cons_zero, List.getElem_cons_succ, List.setIfInBounds_toArray, List.set_cons_zero, List.set_cons_succ]
  refine wpAnyH_take (i := 17) (oi := _) (v := ?_) rfl (by kernel_rfl) (by kernel_rfl) (by kernel_rfl) (fun _ _ _ h => h) (Or.inl ⟨by rfl, ?_⟩) (by assumption) ?_
  rotate_left
  focus (intro wS hSw; (try dsimp only at hSw); go_simp; (try with_reducible rfl))
  try simp only [Act.put, List.getElem_toArray, List.getElem_cons_zero, List.getElem_cons_succ, List.setIfInBounds_toArray, List.set_cons_zero, List.set_cons_succ]
  refine wpAnyH_ready (rs := [8]) (by kernel_rfl) (by simp) (AllReadyH.cons (o := _) rfl (fun K hK => ?_) AllReadyH.nil)
  go_simp
  go_at_call 9; refine (nextB_any B0 k _ _ (by omega) (wi_tape (by assumption))).mono ?_; rintro e w3 ⟨z1, rfl, a0, a1, htn, hgn, hsn⟩
  refine hK.out _ _ ?_ (fun hHeld2 => ?_)
  focus ((try dsimp only); (exact wi_next (by assumption) htn hgn))
  clear hK K htn hgn hsn hHeld
  try simp only [Act.put, List.getElem_toArray, List.getElem_cons_zero, List.getElem_cons_succ, List.setIfInBounds_toArray, List.set_cons_zero, List.set_cons_succ]
  have hHeld := hHeld2
  clear hHeld2
  have a2 : z1 < w - x0 := by omega
  have q5 : IntKind.i64.wrap (x0 + 1 + z1) = x0 + 1 + z1 := IntWalk.i64_in _ (by omega)
  clear a1
  refine wpAnyH_take (i := 9) (oi := _) (v := ?_) rfl (by kernel_rfl) (by kernel_rfl) (by kernel_rfl) (fun _ _ _ h => h) (Or.inl ⟨by rfl, ?_⟩) (by assumption) ?_
  rotate_left
  focus (intro wS hSw; (try dsimp only at hSw); go_simp; (try with_reducible rfl))
  try simp only [Act.put, List.getElem_toArray, List.getElem_cons_zero, List.getElem_cons_succ, List.setIfInBounds_toArray, List.set_cons_zero, List.set_cons_succ]
  refine wpAnyH_take (i := 20) (oi := _) (v := ?_) rfl (by kernel_rfl) (by kernel_rfl) (by kernel_rfl) (fun _ _ _ h => h) (Or.inl ⟨by rfl, ?_⟩) (by assumption) ?_
  rotate_left
  focus (intro wS hSw; (try dsimp only at hSw); go_simp; (try with_reducible rfl))
  try simp only [Act.put, List.getElem_toArray, List.getElem_cons_zero, List.getElem_cons_succ, List.setIfInBounds_toArray, List.set_cons_zero, List.set_cons_succ]
  refine wpAnyH_ready (rs := [18]) (by kernel_rfl) (by simp) (AllReadyH.cons (o := _) rfl (fun K hK => ?_) AllReadyH.nil)
  go_simp
  go_at_call 9; refine (nextB_any B0 k _ _ (by omega) (wi_tape (by assumption))).mono ?_; rintro e w4 ⟨z2, rfl, b0, b1, htn, hgn, hsn⟩
  refine hK.out _ _ ?_ (fun hHeld2 => ?_)
  focus ((try dsimp only); (exact wi_next (by assumption) htn hgn))
  clear hK K htn hgn hsn hHeld
  try simp only [Act.put, List.getElem_toArray, List.getElem_cons_zero, List.getElem_cons_succ, List.setIfInBounds_toArray, List.set_cons_zero, List.set_cons_succ]
  have hHeld := hHeld2
  clear hHeld2
  have b2 : z2 < h - y0 := by omega
  have q6 : IntKind.i64.wrap (y0 + 1 + z2) = y0 + 1 + z2 := IntWalk.i64_in _ (by omega)
  clear b1
  refine wpAnyH_take (i := 19) (oi := _) (v := ?_) rfl (by kernel_rfl) (by kernel_rfl) (by kernel_rfl) (fun _ _ _ h => h) (Or.inl ⟨by rfl, ?_⟩) (by assumption) ?_
  rotate_left
  focus (intro wS hSw; (try dsimp only at hSw); go_simp; (try with_reducible rfl))
  try simp only [Act.put, List.getElem_toArray, List.getElem_cons_zero, List.getElem_cons_succ, List.setIfInBounds_toArray, List.set_cons_zero, List.set_cons_succ]
  obtain ⟨⟨z, u, HK⟩, _⟩ := hid hHeld
  have HK := hid HK
  have c2 := HK.out.cell 0 rfl 2 rfl
  have f2 := HK.out.free 0 rfl 2
  refine wpAnyH_ready (rs := [21]) (by kernel_rfl) (by simp) (AllReadyH.cons (o := _) rfl (fun K hK => ?_) AllReadyH.nil)
  go_simp
  refine hK.out _ _ ?_ (fun hHeld2 => ?_)
  focus ((try dsimp only); (exact wi_mk (HK.out.set 0 rfl 2 _)))
  clear hK K
  try simp only [Act.put, List.getElem_toArray, List.getElem_cons_zero, List.getElem_cons_succ, List.setIfInBounds_toArray, List.set_cons_zero, List.set_cons_succ]
  clear hHeld c2 f2
  have hHeld := hHeld2
  clear hHeld2
  have HK2 := hid (HK.out.set 0 rfl 2 (.int .i64 (x0 + 1 + z1)))
  have c3 := HK2.out.cell 0 rfl 3 rfl
  have f3 := HK2.out.free 0 rfl 3
  refine wpAnyH_take (i := 22) (oi := _) (v := ?_) rfl (by kernel_rfl) (by kernel_rfl) (by kernel_rfl) (fun _ _ _ h => h) (Or.inl ⟨by rfl, ?_⟩) (by assumption) ?_
  rotate_left
  focus (intro wS hSw; (try dsimp only at hSw); go_simp; (try with_reducible rfl))
  try simp only [Act.put, List.getElem_toArray, List.getElem_cons_zero, List.getElem_cons_succ, List.setIfInBounds_toArray, List.set_cons_zero, List.set_cons_succ]
  refine wpAnyH_ready (rs := [23]) (by kernel_rfl) (by simp) (AllReadyH.cons (o := _) rfl (fun K hK => ?_) AllReadyH.nil)
  go_simp
  refine hK.out _ _ ?_ (fun hHeld2 => ?_)
  focus ((try dsimp only); (exact wi_mk (HK2.out.set 0 rfl 3 _)))
  clear hK K
  try simp only [Act.put, List.getElem_toArray, List.getElem_cons_zero, List.getElem_cons_succ, List.setIfInBounds_toArray, List.set_cons_zero, List.set_cons_succ]
  refine wpAnyH_done (by kernel_rfl) ?_ _
  have HK3 := hid (HK2.out.set 0 rfl 3 (.int .i64 (y0 + 1 + z2)))
  clear hHeld hHeld2 c3 f3 q1 q2 q3 q4 q5 q6
  have HK4 := hid (show Tk B0 k B W [.cells R #[.int .i64 x0, .int .i64 y0, .int .i64 (x0 + 1 + z1), .int .i64 (y0 + 1 + z2)] 33, .cells B #[.int .i64 0, .int .i64 0, .int .i64 0, .int .i64 0] 33] _ from HK3.out)
  clear HK HK2 HK3
  obtain ⟨w6, h6⟩ : ∃ w6, w6 = (w4.setCell ⟨R, 2, none⟩ (.int .i64 (x0 + 1 + z1))).setCell ⟨R, 3, none⟩ (.int .i64 (y0 + 1 + z2)) := ⟨_, rfl⟩
  rw [← h6] at HK4 ⊢
  clear h6
  have x0' := HK4.out.cell 0 rfl 0 rfl
  have x1' := HK4.out.cell 0 rfl 1 rfl
  have x2' := HK4.out.cell 0 rfl 2 rfl
  have x3' := HK4.out.cell 0 rfl 3 rfl
  have y0' := HK4.out.cell 1 rfl 0 rfl
  have y1' := HK4.out.cell 1 rfl 1 rfl
  have y2' := HK4.out.cell 1 rfl 2 rfl
  have y3' := HK4.out.cell 1 rfl 3 rfl
  have e0' := HK4.out.free 1 rfl 0
  have e1' := HK4.out.free 1 rfl 1
  have e2' := HK4.out.free 1 rfl 2
  have e3' := HK4.out.free 1 rfl 3
  go_wp2_with fail
  have H5 := hid (HK4.out.set4 1 rfl (.int .i64 x0) (.int .i64 y0) (.int .i64 (x0 + 1 + z1)) (.int .i64 (y0 + 1 + z2)))
  have k0 := H5.out.cell 1 rfl 0 rfl
  have k1 := H5.out.cell 1 rfl 1 rfl
  have k2 := H5.out.cell 1 rfl 2 rfl
  have k3 := H5.out.cell 1 rfl 3 rfl
  refine bodyPost_ret (v := .agg #[.int .i64 x0, .int .i64 y0, .int .i64 (x0 + 1 + z1), .int .i64 (y0 + 1 + z2)]) ?_ rfl ⟨_, _, _, _, rfl, by omega, H5.out.tape, H5.out.grown⟩
  unfold set4 at k0 k1 k2 k3
  simp [results, Try.results17, go_sem, k0, k1, k2, k3]
end

section
open Go.RowKit
attribute [local go_sem ↓] Go.wp_at_zero Go.wp_at_succ
set_option linter.unusedVariables false
set_option linter.unusedSimpArgs false

/-- A valid plane that a call made. -/
def PlanePost (B0 k : Nat) (W : World) (w h : Int) (e : Ending) (w' : World) : Prop :=
  ∃ mx v zs, e = .returned (.agg #[.int .i64 w, .int .i64 h, .int .i64 mx, v]) ∧ pValid w h mx zs = true ∧ mx ≤ 65535 ∧ Own W.heap.size w' v zs ∧ TapeB B0 w' k ∧ W.grownBy w' (some k)

theorem pick_in {r z1 z2 mx : Int} (h : r ∈ [z1, z2, mx, 0]) (hm : 0 ≤ mx) (a : 0 ≤ z1) (b : z1 ≤ mx) (c : 0 ≤ z2) (d : z2 ≤ mx) : 0 ≤ r ∧ r ≤ mx := by
  simp only [List.mem_cons, List.not_mem_nil, or_false] at h
  omega
theorem in_set {zs : List Int} {mx r : Int} {j : Nat} (h : ∀ i, 0 ≤ zs.getD i 0 ∧ zs.getD i 0 ≤ mx) (r0 : 0 ≤ r) (r1 : r ≤ mx) : ∀ i, 0 ≤ (zs.set j r).getD i 0 ∧ (zs.set j r).getD i 0 ≤ mx := fun i => by
  have := h i
  rw [List.getD_eq_getElem?_getD, List.getElem?_set]
  split
  · split
    · exact ⟨r0, r1⟩
    · show (0 : Int) ≤ 0 ∧ (0 : Int) ≤ mx; omega
  · rwa [← List.getD_eq_getElem?_getD]
theorem sized_valid {w h mx : Int} {zs : List Int} (hw : 1 ≤ w) (hw' : w ≤ 12) (hh : 1 ≤ h) (hh' : h ≤ 12) (m0 : 1 ≤ mx) (m1 : mx ≤ 65535) (hl : (zs.length : Int) = w * h) (hin : ∀ i, 0 ≤ zs.getD i 0 ∧ zs.getD i 0 ≤ mx) : pValid w h mx zs = true := by
  have p1 : w * h ≤ 12 * 12 := Int.mul_le_mul hw' hh' (by omega) (by omega)
  exact pValid_iff.2 ⟨pOk_iff.2 (by omega), hl, allIn_iff.1 (allIn_of fun i _ => hin i)⟩

set_option maxRecDepth 100000 in
set_option maxHeartbeats 6400000 in
theorem sized_any (B0 k : Nat) (w h : Int) (W : World) (hw : 1 ≤ w) (hw' : w ≤ 12) (hh : 1 ≤ h) (hh' : h ≤ 12) (ht : TapeB B0 W k) :
    Calls Try.prog 33 #[.pointer (some ⟨k, 0, none⟩), .int .i64 w, .int .i64 h] W (PlanePost B0 k W w h) := by
  obtain ⟨B, hB⟩ : ∃ B, W.heap.size = B := ⟨_, rfl⟩
  have H0 := hid ((Tk.init ht hB).alloc #[.int .i64 0, .int .i64 0, .int .i64 0, .slice none 0 0] 35 hB)
  clear ht
  have p0 : 0 ≤ w * h := Int.mul_nonneg (by omega) (by omega)
  have p1 : w * h ≤ 12 * 12 := Int.mul_le_mul hw' hh' (by omega) (by omega)
  obtain ⟨n, hn⟩ : ∃ n : Nat, w * h = n := ⟨(w * h).toNat, by omega⟩
  have hn2 : n ≤ 144 := by omega
  clear p0 p1
  go_enter Try.func33, Try.ntmps33
  go_upto_region 1 with fail
  go_cut [7] (fun s wx => ∃ (R D : Nat) (mx : Int), s = .pointer (some ⟨R, 0, none⟩) ∧ mx ∈ [255, 255, 65535, 1, 7] ∧ Tk B0 k B W [.cells R #[.int .i64 w, .int .i64 h, .int .i64 mx, .slice (some ⟨D, 0, none⟩) n n] 35, .own (.slice (some ⟨D, 0, none⟩) n n) (List.replicate n 0), .cells B #[.int .i64 0, .int .i64 0, .int .i64 0, .slice none 0 0] 35] wx)
  case first =>
    have H1 := hid (H0.out.drewN 1)
    have q1 : IntKind.i64.wrap (n : Int) = n := IntWalk.i64_in _ (by omega)
    refine wp_region_held_drew (S := (fun w' => True)) (by kernel_rfl) trivial (fun hHeld => ?_)
    obtain ⟨w0, hw0⟩ : ∃ w0, w0 = (W.alloc (.cells #[.int .i64 0, .int .i64 0, .int .i64 0, .slice none 0 0] 35)).drew := ⟨_, rfl⟩
    rw [← hw0]
    have H1 := hid (show Tk B0 k B W [.cells B #[.int .i64 0, .int .i64 0, .int .i64 0, .slice none 0 0] 35] w0 by rw [hw0]; exact H0.out.drew)
    clear hw0 H0
    refine wpAnyH_take (i := 0) (oi := _) (v := ?_) rfl (by kernel_rfl) (by kernel_rfl) (by kernel_rfl) (fun _ _ _ h => h) (Or.inl ⟨by rfl, ?_⟩) (by assumption) ?_
    rotate_left
    focus (intro wS hSw; (try dsimp only at hSw); go_simp; (try with_reducible rfl))
    try simp only [Act.put, List.getElem_toArray, List.getElem_cons_zero, List.getElem_cons_succ, List.setIfInBounds_toArray, List.set_cons_zero, List.set_cons_succ]
    refine wpAnyH_take (i := 1) (oi := _) (v := ?_) rfl (by kernel_rfl) (by kernel_rfl) (by kernel_rfl) (fun _ _ _ h => h) (Or.inl ⟨by rfl, ?_⟩) (by assumption) ?_
    rotate_left
    focus (intro wS hSw; (try dsimp only at hSw); go_simp; (try with_reducible rfl))
    try simp only [Act.put, List.getElem_toArray, List.getElem_cons_zero, List.getElem_cons_succ, List.setIfInBounds_toArray, List.set_cons_zero, List.set_cons_succ]
    refine wpAnyH_take (i := 2) (oi := _) (v := ?_) rfl (by kernel_rfl) (by kernel_rfl) (by kernel_rfl) (fun _ _ _ h => h) (Or.inl ⟨by rfl, ?_⟩) (by assumption) ?_
    rotate_left
    focus (intro wS hSw; (try dsimp only at hSw); go_simp; (try with_reducible rfl))
    try simp only [Act.put, List.getElem_toArray, List.getElem_cons_zero, List.getElem_cons_succ, List.setIfInBounds_toArray, List.set_cons_zero, List.set_cons_succ]
    refine wpAnyH_take (i := 5) (oi := _) (v := ?_) rfl (by kernel_rfl) (by kernel_rfl) (by kernel_rfl) (fun _ _ _ h => h) (Or.inl ⟨by rfl, ?_⟩) (by assumption) ?_
    rotate_left
    focus (intro wS hSw; (try dsimp only at hSw); go_simp; (try with_reducible rfl))
    try simp only [Act.put, List.getElem_toArray, List.getElem_cons_zero, List.getElem_cons_succ, List.setIfInBounds_toArray, List.set_cons_zero, List.set_cons_succ]
    refine wpAnyH_take (i := 6) (oi := _) (v := ?_) rfl (by kernel_rfl) (by kernel_rfl) (by kernel_rfl) (fun _ _ _ h => h) (Or.inl ⟨by rfl, ?_⟩) (by assumption) ?_
    rotate_left
    focus (intro wS hSw; (try dsimp only at hSw); go_simp; (try with_reducible rfl))
    try simp only [Act.put, List.getElem_toArray, List.getElem_cons_zero, List.getElem_cons_succ, List.setIfInBounds_toArray, List.set_cons_zero, List.set_cons_succ]
    refine wpAnyH_take (i := 7) (oi := _) (v := ?_) rfl (by kernel_rfl) (by kernel_rfl) (by kernel_rfl) (fun _ _ _ h => h) (Or.inl ⟨by rfl, ?_⟩) (by assumption) ?_
    rotate_left
    focus (intro wS hSw; (try dsimp only at hSw); go_simp; (try with_reducible rfl))
    try simp only [Act.put, List.getElem_toArray, List.getElem_cons_zero, List.getElem_cons_succ, List.setIfInBounds_toArray, List.set_cons_zero, List.set_cons_succ]
    refine wpAnyH_ready (rs := [3, 8, 10]) (by kernel_rfl) (by simp) (AllReadyH.cons (o := _) rfl (fun K hK => ?_) (AllReadyH.cons (o := _) rfl (fun K hK => ?_) (AllReadyH.cons (o := _) rfl (fun K hK => ?_) AllReadyH.nil)))
    · obtain ⟨L2, hL2⟩ : ∃ L, w0.heap.size = L := ⟨_, rfl⟩
      go_simp
      refine hK.out _ _ ?_ (fun hHeld2 => ?_)
      focus ((try dsimp only); (try trivial))
      clear hK K
      try simp only [Act.put, List.getElem_toArray, List.getElem_cons_zero, List.getElem_cons_succ, List.setIfInBounds_toArray, List.set_cons_zero, List.set_cons_succ]
      have H2 := hid (H1.out.alloc #[.int .i64 255, .int .i64 255, .int .i64 65535, .int .i64 1, .int .i64 7] 3 hL2)
      clear hL2 hHeld2
      generalize World.alloc w0 _ = w2 at *
      refine wpAnyH_ready (rs := [4, 8, 10]) (by kernel_rfl) (by simp) (AllReadyH.cons (o := _) rfl (fun K hK => ?_) (AllReadyH.cons (o := _) rfl (fun K hK => ?_) (AllReadyH.cons (o := _) rfl (fun K hK => ?_) AllReadyH.nil)))
      · go_simp
        go_at_call 11; refine (pickB_any B0 k _ 5 5 [255, 255, 65535, 1, 7] _ (by omega) (by omega) H2.out.tape (H2.out.lit 0 [255, 255, 65535, 1, 7] rfl (by decide)).row (H2.out.far 0 rfl _)).mono ?_; rintro e w3 ⟨mx, rfl, hmx, htn, hgn, hsn⟩; have H3 := hid (H2.out.next htn hgn); have HMX := hid hmx; clear hmx htn hgn hsn
        refine hK.out _ _ ?_ (fun hHeld2 => ?_)
        focus ((try dsimp only); (try trivial))
        clear hK K
        try simp only [Act.put, List.getElem_toArray, List.getElem_cons_zero, List.getElem_cons_succ, List.setIfInBounds_toArray, List.set_cons_zero, List.set_cons_succ]
        clear hHeld2
        refine wpAnyH_ready (rs := [8, 10]) (by kernel_rfl) (by simp) (AllReadyH.cons (o := _) rfl (fun K hK => ?_) (AllReadyH.cons (o := _) rfl (fun K hK => ?_) AllReadyH.nil))
        · obtain ⟨D, hD4⟩ : ∃ L, w3.heap.size = L := ⟨_, rfl⟩
          have hBD : B ≤ D := by have := H3.out.size; omega
          rw [if_pos (by rfl)]
          refine oper_make_int _ _ rfl D _ _ n rfl rfl (by first | rfl | exact hn) (by first | rfl | exact hn) (by omega) (by omega) ?_; intro w4 ho hb; rw [hD4] at ho ⊢; have H4 := hid (H3.out.made hD4 ho hb); clear ho hb hD4
          refine hK.out _ _ ?_ (fun hHeld2 => ?_)
          focus ((try dsimp only); (try trivial))
          clear hK K
          try simp only [Act.put, List.getElem_toArray, List.getElem_cons_zero, List.getElem_cons_succ, List.setIfInBounds_toArray, List.set_cons_zero, List.set_cons_succ]
          clear hHeld2
          refine wpAnyH_take (i := 9) (oi := _) (v := ?_) rfl (by kernel_rfl) (by kernel_rfl) (by kernel_rfl) (fun _ _ _ h => h) (Or.inl ⟨by rfl, ?_⟩) (by assumption) ?_
          rotate_left
          focus (intro wS hSw; (try dsimp only at hSw); go_simp; (try with_reducible rfl))
          try simp only [Act.put, List.getElem_toArray, List.getElem_cons_zero, List.getElem_cons_succ, List.setIfInBounds_toArray, List.set_cons_zero, List.set_cons_succ]
          refine wpAnyH_ready (rs := [10]) (by kernel_rfl) (by simp) (AllReadyH.cons (o := _) rfl (fun K hK => ?_) AllReadyH.nil)
          obtain ⟨R, hR5⟩ : ∃ L, w4.heap.size = L := ⟨_, rfl⟩
          go_simp
          refine hK.out _ _ ?_ (fun hHeld2 => ?_)
          focus ((try dsimp only); (try trivial))
          clear hK K
          try simp only [Act.put, List.getElem_toArray, List.getElem_cons_zero, List.getElem_cons_succ, List.setIfInBounds_toArray, List.set_cons_zero, List.set_cons_succ]
          have H5 := hid (H4.out.alloc #[.int .i64 0, .int .i64 0, .int .i64 0, .slice none 0 0] 35 hR5)
          clear hR5 hHeld2
          generalize World.alloc w4 _ = w5 at *
          refine wpAnyH_ready (rs := [11]) (by kernel_rfl) (by simp) (AllReadyH.cons (o := _) rfl (fun K hK => ?_) AllReadyH.nil)
          have c0 := H5.out.cell 0 rfl 0 rfl
          have c1 := H5.out.cell 0 rfl 1 rfl
          have c2 := H5.out.cell 0 rfl 2 rfl
          have c3 := H5.out.cell 0 rfl 3 rfl
          have f0 := H5.out.free 0 rfl 0
          have f1 := H5.out.free 0 rfl 1
          have f2 := H5.out.free 0 rfl 2
          have f3 := H5.out.free 0 rfl 3
          go_simp
          refine hK.out _ _ ?_ (fun hHeld2 => ?_)
          focus ((try dsimp only); (try trivial))
          clear hK K
          try simp only [Act.put, List.getElem_toArray, List.getElem_cons_zero, List.getElem_cons_succ, List.setIfInBounds_toArray, List.set_cons_zero, List.set_cons_succ]
          have H6 := hid (H5.out.set4 0 rfl (.int .i64 w) (.int .i64 h) (.int .i64 mx) (.slice (some ⟨D, 0, none⟩) n n))
          clear c0 c1 c2 c3 f0 f1 f2 f3 hHeld2
          refine wpAnyH_done (by kernel_rfl) ?_ _
          go_wp2_with fail
          go_meet
          exact ⟨R, D, mx, rfl, HMX.out, H6.out.pick [0, 1, 3] rfl⟩
        · obtain ⟨R, hR4⟩ : ∃ L, w3.heap.size = L := ⟨_, rfl⟩
          go_simp
          refine hK.out _ _ ?_ (fun hHeld2 => ?_)
          focus ((try dsimp only); (try trivial))
          clear hK K
          try simp only [Act.put, List.getElem_toArray, List.getElem_cons_zero, List.getElem_cons_succ, List.setIfInBounds_toArray, List.set_cons_zero, List.set_cons_succ]
          have H4 := hid (H3.out.alloc #[.int .i64 0, .int .i64 0, .int .i64 0, .slice none 0 0] 35 hR4)
          clear hR4 hHeld2
          generalize World.alloc w3 _ = w4 at *
          refine wpAnyH_ready (rs := [8]) (by kernel_rfl) (by simp) (AllReadyH.cons (o := _) rfl (fun K hK => ?_) AllReadyH.nil)
          obtain ⟨D, hD5⟩ : ∃ L, w4.heap.size = L := ⟨_, rfl⟩
          have hBD : B ≤ D := by have := H4.out.size; omega
          rw [if_pos (by rfl)]
          refine oper_make_int _ _ rfl D _ _ n rfl rfl (by first | rfl | exact hn) (by first | rfl | exact hn) (by omega) (by omega) ?_; intro w5 ho hb; rw [hD5] at ho ⊢; have H5 := hid (H4.out.made hD5 ho hb); clear ho hb hD5
          refine hK.out _ _ ?_ (fun hHeld2 => ?_)
          focus ((try dsimp only); (try trivial))
          clear hK K
          try simp only [Act.put, List.getElem_toArray, List.getElem_cons_zero, List.getElem_cons_succ, List.setIfInBounds_toArray, List.set_cons_zero, List.set_cons_succ]
          clear hHeld2
          refine wpAnyH_take (i := 9) (oi := _) (v := ?_) rfl (by kernel_rfl) (by kernel_rfl) (by kernel_rfl) (fun _ _ _ h => h) (Or.inl ⟨by rfl, ?_⟩) (by assumption) ?_
          rotate_left
          focus (intro wS hSw; (try dsimp only at hSw); go_simp; (try with_reducible rfl))
          try simp only [Act.put, List.getElem_toArray, List.getElem_cons_zero, List.getElem_cons_succ, List.setIfInBounds_toArray, List.set_cons_zero, List.set_cons_succ]
          refine wpAnyH_ready (rs := [11]) (by kernel_rfl) (by simp) (AllReadyH.cons (o := _) rfl (fun K hK => ?_) AllReadyH.nil)
          have c0 := H5.out.cell 1 rfl 0 rfl
          have c1 := H5.out.cell 1 rfl 1 rfl
          have c2 := H5.out.cell 1 rfl 2 rfl
          have c3 := H5.out.cell 1 rfl 3 rfl
          have f0 := H5.out.free 1 rfl 0
          have f1 := H5.out.free 1 rfl 1
          have f2 := H5.out.free 1 rfl 2
          have f3 := H5.out.free 1 rfl 3
          go_simp
          refine hK.out _ _ ?_ (fun hHeld2 => ?_)
          focus ((try dsimp only); (try trivial))
          clear hK K
          try simp only [Act.put, List.getElem_toArray, List.getElem_cons_zero, List.getElem_cons_succ, List.setIfInBounds_toArray, List.set_cons_zero, List.set_cons_succ]
          have H6 := hid (H5.out.set4 1 rfl (.int .i64 w) (.int .i64 h) (.int .i64 mx) (.slice (some ⟨D, 0, none⟩) n n))
          clear c0 c1 c2 c3 f0 f1 f2 f3 hHeld2
          refine wpAnyH_done (by kernel_rfl) ?_ _
          go_wp2_with fail
          go_meet
          exact ⟨R, D, mx, rfl, HMX.out, H6.out.pick [1, 0, 3] rfl⟩
      · obtain ⟨D, hD3⟩ : ∃ L, w2.heap.size = L := ⟨_, rfl⟩
        have hBD : B ≤ D := by have := H2.out.size; omega
        rw [if_pos (by rfl)]
        refine oper_make_int _ _ rfl D _ _ n rfl rfl (by first | rfl | exact hn) (by first | rfl | exact hn) (by omega) (by omega) ?_; intro w3 ho hb; rw [hD3] at ho ⊢; have H3 := hid (H2.out.made hD3 ho hb); clear ho hb hD3
        refine hK.out _ _ ?_ (fun hHeld2 => ?_)
        focus ((try dsimp only); (try trivial))
        clear hK K
        try simp only [Act.put, List.getElem_toArray, List.getElem_cons_zero, List.getElem_cons_succ, List.setIfInBounds_toArray, List.set_cons_zero, List.set_cons_succ]
        clear hHeld2
        refine wpAnyH_ready (rs := [4, 10]) (by kernel_rfl) (by simp) (AllReadyH.cons (o := _) rfl (fun K hK => ?_) (AllReadyH.cons (o := _) rfl (fun K hK => ?_) AllReadyH.nil))
        · go_simp
          go_at_call 11; refine (pickB_any B0 k _ 5 5 [255, 255, 65535, 1, 7] _ (by omega) (by omega) H3.out.tape (H3.out.lit 1 [255, 255, 65535, 1, 7] rfl (by decide)).row (H3.out.far 1 rfl _)).mono ?_; rintro e w4 ⟨mx, rfl, hmx, htn, hgn, hsn⟩; have H4 := hid (H3.out.next htn hgn); have HMX := hid hmx; clear hmx htn hgn hsn
          refine hK.out _ _ ?_ (fun hHeld2 => ?_)
          focus ((try dsimp only); (try trivial))
          clear hK K
          try simp only [Act.put, List.getElem_toArray, List.getElem_cons_zero, List.getElem_cons_succ, List.setIfInBounds_toArray, List.set_cons_zero, List.set_cons_succ]
          clear hHeld2
          refine wpAnyH_take (i := 9) (oi := _) (v := ?_) rfl (by kernel_rfl) (by kernel_rfl) (by kernel_rfl) (fun _ _ _ h => h) (Or.inl ⟨by rfl, ?_⟩) (by assumption) ?_
          rotate_left
          focus (intro wS hSw; (try dsimp only at hSw); go_simp; (try with_reducible rfl))
          try simp only [Act.put, List.getElem_toArray, List.getElem_cons_zero, List.getElem_cons_succ, List.setIfInBounds_toArray, List.set_cons_zero, List.set_cons_succ]
          refine wpAnyH_ready (rs := [10]) (by kernel_rfl) (by simp) (AllReadyH.cons (o := _) rfl (fun K hK => ?_) AllReadyH.nil)
          obtain ⟨R, hR5⟩ : ∃ L, w4.heap.size = L := ⟨_, rfl⟩
          go_simp
          refine hK.out _ _ ?_ (fun hHeld2 => ?_)
          focus ((try dsimp only); (try trivial))
          clear hK K
          try simp only [Act.put, List.getElem_toArray, List.getElem_cons_zero, List.getElem_cons_succ, List.setIfInBounds_toArray, List.set_cons_zero, List.set_cons_succ]
          have H5 := hid (H4.out.alloc #[.int .i64 0, .int .i64 0, .int .i64 0, .slice none 0 0] 35 hR5)
          clear hR5 hHeld2
          generalize World.alloc w4 _ = w5 at *
          refine wpAnyH_ready (rs := [11]) (by kernel_rfl) (by simp) (AllReadyH.cons (o := _) rfl (fun K hK => ?_) AllReadyH.nil)
          have c0 := H5.out.cell 0 rfl 0 rfl
          have c1 := H5.out.cell 0 rfl 1 rfl
          have c2 := H5.out.cell 0 rfl 2 rfl
          have c3 := H5.out.cell 0 rfl 3 rfl
          have f0 := H5.out.free 0 rfl 0
          have f1 := H5.out.free 0 rfl 1
          have f2 := H5.out.free 0 rfl 2
          have f3 := H5.out.free 0 rfl 3
          go_simp
          refine hK.out _ _ ?_ (fun hHeld2 => ?_)
          focus ((try dsimp only); (try trivial))
          clear hK K
          try simp only [Act.put, List.getElem_toArray, List.getElem_cons_zero, List.getElem_cons_succ, List.setIfInBounds_toArray, List.set_cons_zero, List.set_cons_succ]
          have H6 := hid (H5.out.set4 0 rfl (.int .i64 w) (.int .i64 h) (.int .i64 mx) (.slice (some ⟨D, 0, none⟩) n n))
          clear c0 c1 c2 c3 f0 f1 f2 f3 hHeld2
          refine wpAnyH_done (by kernel_rfl) ?_ _
          go_wp2_with fail
          go_meet
          exact ⟨R, D, mx, rfl, HMX.out, H6.out.pick [0, 1, 3] rfl⟩
        · obtain ⟨R, hR4⟩ : ∃ L, w3.heap.size = L := ⟨_, rfl⟩
          go_simp
          refine hK.out _ _ ?_ (fun hHeld2 => ?_)
          focus ((try dsimp only); (try trivial))
          clear hK K
          try simp only [Act.put, List.getElem_toArray, List.getElem_cons_zero, List.getElem_cons_succ, List.setIfInBounds_toArray, List.set_cons_zero, List.set_cons_succ]
          have H4 := hid (H3.out.alloc #[.int .i64 0, .int .i64 0, .int .i64 0, .slice none 0 0] 35 hR4)
          clear hR4 hHeld2
          generalize World.alloc w3 _ = w4 at *
          refine wpAnyH_ready (rs := [4]) (by kernel_rfl) (by simp) (AllReadyH.cons (o := _) rfl (fun K hK => ?_) AllReadyH.nil)
          go_simp
          go_at_call 11; refine (pickB_any B0 k _ 5 5 [255, 255, 65535, 1, 7] _ (by omega) (by omega) H4.out.tape (H4.out.lit 2 [255, 255, 65535, 1, 7] rfl (by decide)).row (H4.out.far 2 rfl _)).mono ?_; rintro e w5 ⟨mx, rfl, hmx, htn, hgn, hsn⟩; have H5 := hid (H4.out.next htn hgn); have HMX := hid hmx; clear hmx htn hgn hsn
          refine hK.out _ _ ?_ (fun hHeld2 => ?_)
          focus ((try dsimp only); (try trivial))
          clear hK K
          try simp only [Act.put, List.getElem_toArray, List.getElem_cons_zero, List.getElem_cons_succ, List.setIfInBounds_toArray, List.set_cons_zero, List.set_cons_succ]
          clear hHeld2
          refine wpAnyH_take (i := 9) (oi := _) (v := ?_) rfl (by kernel_rfl) (by kernel_rfl) (by kernel_rfl) (fun _ _ _ h => h) (Or.inl ⟨by rfl, ?_⟩) (by assumption) ?_
          rotate_left
          focus (intro wS hSw; (try dsimp only at hSw); go_simp; (try with_reducible rfl))
          try simp only [Act.put, List.getElem_toArray, List.getElem_cons_zero, List.getElem_cons_succ, List.setIfInBounds_toArray, List.set_cons_zero, List.set_cons_succ]
          refine wpAnyH_ready (rs := [11]) (by kernel_rfl) (by simp) (AllReadyH.cons (o := _) rfl (fun K hK => ?_) AllReadyH.nil)
          have c0 := H5.out.cell 0 rfl 0 rfl
          have c1 := H5.out.cell 0 rfl 1 rfl
          have c2 := H5.out.cell 0 rfl 2 rfl
          have c3 := H5.out.cell 0 rfl 3 rfl
          have f0 := H5.out.free 0 rfl 0
          have f1 := H5.out.free 0 rfl 1
          have f2 := H5.out.free 0 rfl 2
          have f3 := H5.out.free 0 rfl 3
          go_simp
          refine hK.out _ _ ?_ (fun hHeld2 => ?_)
          focus ((try dsimp only); (try trivial))
          clear hK K
          try simp only [Act.put, List.getElem_toArray, List.getElem_cons_zero, List.getElem_cons_succ, List.setIfInBounds_toArray, List.set_cons_zero, List.set_cons_succ]
          have H6 := hid (H5.out.set4 0 rfl (.int .i64 w) (.int .i64 h) (.int .i64 mx) (.slice (some ⟨D, 0, none⟩) n n))
          clear c0 c1 c2 c3 f0 f1 f2 f3 hHeld2
          refine wpAnyH_done (by kernel_rfl) ?_ _
          go_wp2_with fail
          go_meet
          exact ⟨R, D, mx, rfl, HMX.out, H6.out.pick [0, 1, 3] rfl⟩
      · obtain ⟨R, hR3⟩ : ∃ L, w2.heap.size = L := ⟨_, rfl⟩
        go_simp
        refine hK.out _ _ ?_ (fun hHeld2 => ?_)
        focus ((try dsimp only); (try trivial))
        clear hK K
        try simp only [Act.put, List.getElem_toArray, List.getElem_cons_zero, List.getElem_cons_succ, List.setIfInBounds_toArray, List.set_cons_zero, List.set_cons_succ]
        have H3 := hid (H2.out.alloc #[.int .i64 0, .int .i64 0, .int .i64 0, .slice none 0 0] 35 hR3)
        clear hR3 hHeld2
        generalize World.alloc w2 _ = w3 at *
        refine wpAnyH_ready (rs := [4, 8]) (by kernel_rfl) (by simp) (AllReadyH.cons (o := _) rfl (fun K hK => ?_) (AllReadyH.cons (o := _) rfl (fun K hK => ?_) AllReadyH.nil))
        · go_simp
          go_at_call 11; refine (pickB_any B0 k _ 5 5 [255, 255, 65535, 1, 7] _ (by omega) (by omega) H3.out.tape (H3.out.lit 1 [255, 255, 65535, 1, 7] rfl (by decide)).row (H3.out.far 1 rfl _)).mono ?_; rintro e w4 ⟨mx, rfl, hmx, htn, hgn, hsn⟩; have H4 := hid (H3.out.next htn hgn); have HMX := hid hmx; clear hmx htn hgn hsn
          refine hK.out _ _ ?_ (fun hHeld2 => ?_)
          focus ((try dsimp only); (try trivial))
          clear hK K
          try simp only [Act.put, List.getElem_toArray, List.getElem_cons_zero, List.getElem_cons_succ, List.setIfInBounds_toArray, List.set_cons_zero, List.set_cons_succ]
          clear hHeld2
          refine wpAnyH_ready (rs := [8]) (by kernel_rfl) (by simp) (AllReadyH.cons (o := _) rfl (fun K hK => ?_) AllReadyH.nil)
          obtain ⟨D, hD5⟩ : ∃ L, w4.heap.size = L := ⟨_, rfl⟩
          have hBD : B ≤ D := by have := H4.out.size; omega
          rw [if_pos (by rfl)]
          refine oper_make_int _ _ rfl D _ _ n rfl rfl (by first | rfl | exact hn) (by first | rfl | exact hn) (by omega) (by omega) ?_; intro w5 ho hb; rw [hD5] at ho ⊢; have H5 := hid (H4.out.made hD5 ho hb); clear ho hb hD5
          refine hK.out _ _ ?_ (fun hHeld2 => ?_)
          focus ((try dsimp only); (try trivial))
          clear hK K
          try simp only [Act.put, List.getElem_toArray, List.getElem_cons_zero, List.getElem_cons_succ, List.setIfInBounds_toArray, List.set_cons_zero, List.set_cons_succ]
          clear hHeld2
          refine wpAnyH_take (i := 9) (oi := _) (v := ?_) rfl (by kernel_rfl) (by kernel_rfl) (by kernel_rfl) (fun _ _ _ h => h) (Or.inl ⟨by rfl, ?_⟩) (by assumption) ?_
          rotate_left
          focus (intro wS hSw; (try dsimp only at hSw); go_simp; (try with_reducible rfl))
          try simp only [Act.put, List.getElem_toArray, List.getElem_cons_zero, List.getElem_cons_succ, List.setIfInBounds_toArray, List.set_cons_zero, List.set_cons_succ]
          refine wpAnyH_ready (rs := [11]) (by kernel_rfl) (by simp) (AllReadyH.cons (o := _) rfl (fun K hK => ?_) AllReadyH.nil)
          have c0 := H5.out.cell 1 rfl 0 rfl
          have c1 := H5.out.cell 1 rfl 1 rfl
          have c2 := H5.out.cell 1 rfl 2 rfl
          have c3 := H5.out.cell 1 rfl 3 rfl
          have f0 := H5.out.free 1 rfl 0
          have f1 := H5.out.free 1 rfl 1
          have f2 := H5.out.free 1 rfl 2
          have f3 := H5.out.free 1 rfl 3
          go_simp
          refine hK.out _ _ ?_ (fun hHeld2 => ?_)
          focus ((try dsimp only); (try trivial))
          clear hK K
          try simp only [Act.put, List.getElem_toArray, List.getElem_cons_zero, List.getElem_cons_succ, List.setIfInBounds_toArray, List.set_cons_zero, List.set_cons_succ]
          have H6 := hid (H5.out.set4 1 rfl (.int .i64 w) (.int .i64 h) (.int .i64 mx) (.slice (some ⟨D, 0, none⟩) n n))
          clear c0 c1 c2 c3 f0 f1 f2 f3 hHeld2
          refine wpAnyH_done (by kernel_rfl) ?_ _
          go_wp2_with fail
          go_meet
          exact ⟨R, D, mx, rfl, HMX.out, H6.out.pick [1, 0, 3] rfl⟩
        · obtain ⟨D, hD4⟩ : ∃ L, w3.heap.size = L := ⟨_, rfl⟩
          have hBD : B ≤ D := by have := H3.out.size; omega
          rw [if_pos (by rfl)]
          refine oper_make_int _ _ rfl D _ _ n rfl rfl (by first | rfl | exact hn) (by first | rfl | exact hn) (by omega) (by omega) ?_; intro w4 ho hb; rw [hD4] at ho ⊢; have H4 := hid (H3.out.made hD4 ho hb); clear ho hb hD4
          refine hK.out _ _ ?_ (fun hHeld2 => ?_)
          focus ((try dsimp only); (try trivial))
          clear hK K
          try simp only [Act.put, List.getElem_toArray, List.getElem_cons_zero, List.getElem_cons_succ, List.setIfInBounds_toArray, List.set_cons_zero, List.set_cons_succ]
          clear hHeld2
          refine wpAnyH_ready (rs := [4]) (by kernel_rfl) (by simp) (AllReadyH.cons (o := _) rfl (fun K hK => ?_) AllReadyH.nil)
          go_simp
          go_at_call 11; refine (pickB_any B0 k _ 5 5 [255, 255, 65535, 1, 7] _ (by omega) (by omega) H4.out.tape (H4.out.lit 2 [255, 255, 65535, 1, 7] rfl (by decide)).row (H4.out.far 2 rfl _)).mono ?_; rintro e w5 ⟨mx, rfl, hmx, htn, hgn, hsn⟩; have H5 := hid (H4.out.next htn hgn); have HMX := hid hmx; clear hmx htn hgn hsn
          refine hK.out _ _ ?_ (fun hHeld2 => ?_)
          focus ((try dsimp only); (try trivial))
          clear hK K
          try simp only [Act.put, List.getElem_toArray, List.getElem_cons_zero, List.getElem_cons_succ, List.setIfInBounds_toArray, List.set_cons_zero, List.set_cons_succ]
          clear hHeld2
          refine wpAnyH_take (i := 9) (oi := _) (v := ?_) rfl (by kernel_rfl) (by kernel_rfl) (by kernel_rfl) (fun _ _ _ h => h) (Or.inl ⟨by rfl, ?_⟩) (by assumption) ?_
          rotate_left
          focus (intro wS hSw; (try dsimp only at hSw); go_simp; (try with_reducible rfl))
          try simp only [Act.put, List.getElem_toArray, List.getElem_cons_zero, List.getElem_cons_succ, List.setIfInBounds_toArray, List.set_cons_zero, List.set_cons_succ]
          refine wpAnyH_ready (rs := [11]) (by kernel_rfl) (by simp) (AllReadyH.cons (o := _) rfl (fun K hK => ?_) AllReadyH.nil)
          have c0 := H5.out.cell 1 rfl 0 rfl
          have c1 := H5.out.cell 1 rfl 1 rfl
          have c2 := H5.out.cell 1 rfl 2 rfl
          have c3 := H5.out.cell 1 rfl 3 rfl
          have f0 := H5.out.free 1 rfl 0
          have f1 := H5.out.free 1 rfl 1
          have f2 := H5.out.free 1 rfl 2
          have f3 := H5.out.free 1 rfl 3
          go_simp
          refine hK.out _ _ ?_ (fun hHeld2 => ?_)
          focus ((try dsimp only); (try trivial))
          clear hK K
          try simp only [Act.put, List.getElem_toArray, List.getElem_cons_zero, List.getElem_cons_succ, List.setIfInBounds_toArray, List.set_cons_zero, List.set_cons_succ]
          have H6 := hid (H5.out.set4 1 rfl (.int .i64 w) (.int .i64 h) (.int .i64 mx) (.slice (some ⟨D, 0, none⟩) n n))
          clear c0 c1 c2 c3 f0 f1 f2 f3 hHeld2
          refine wpAnyH_done (by kernel_rfl) ?_ _
          go_wp2_with fail
          go_meet
          exact ⟨R, D, mx, rfl, HMX.out, H6.out.pick [1, 0, 3] rfl⟩
    · obtain ⟨D, hD2⟩ : ∃ L, w0.heap.size = L := ⟨_, rfl⟩
      have hBD : B ≤ D := by have := H1.out.size; omega
      rw [if_pos (by rfl)]
      refine oper_make_int _ _ rfl D _ _ n rfl rfl (by first | rfl | exact hn) (by first | rfl | exact hn) (by omega) (by omega) ?_; intro w2 ho hb; rw [hD2] at ho ⊢; have H2 := hid (H1.out.made hD2 ho hb); clear ho hb hD2
      refine hK.out _ _ ?_ (fun hHeld2 => ?_)
      focus ((try dsimp only); (try trivial))
      clear hK K
      try simp only [Act.put, List.getElem_toArray, List.getElem_cons_zero, List.getElem_cons_succ, List.setIfInBounds_toArray, List.set_cons_zero, List.set_cons_succ]
      clear hHeld2
      refine wpAnyH_ready (rs := [3, 10]) (by kernel_rfl) (by simp) (AllReadyH.cons (o := _) rfl (fun K hK => ?_) (AllReadyH.cons (o := _) rfl (fun K hK => ?_) AllReadyH.nil))
      · obtain ⟨L3, hL3⟩ : ∃ L, w2.heap.size = L := ⟨_, rfl⟩
        go_simp
        refine hK.out _ _ ?_ (fun hHeld2 => ?_)
        focus ((try dsimp only); (try trivial))
        clear hK K
        try simp only [Act.put, List.getElem_toArray, List.getElem_cons_zero, List.getElem_cons_succ, List.setIfInBounds_toArray, List.set_cons_zero, List.set_cons_succ]
        have H3 := hid (H2.out.alloc #[.int .i64 255, .int .i64 255, .int .i64 65535, .int .i64 1, .int .i64 7] 3 hL3)
        clear hL3 hHeld2
        generalize World.alloc w2 _ = w3 at *
        refine wpAnyH_ready (rs := [4, 10]) (by kernel_rfl) (by simp) (AllReadyH.cons (o := _) rfl (fun K hK => ?_) (AllReadyH.cons (o := _) rfl (fun K hK => ?_) AllReadyH.nil))
        · go_simp
          go_at_call 11; refine (pickB_any B0 k _ 5 5 [255, 255, 65535, 1, 7] _ (by omega) (by omega) H3.out.tape (H3.out.lit 0 [255, 255, 65535, 1, 7] rfl (by decide)).row (H3.out.far 0 rfl _)).mono ?_; rintro e w4 ⟨mx, rfl, hmx, htn, hgn, hsn⟩; have H4 := hid (H3.out.next htn hgn); have HMX := hid hmx; clear hmx htn hgn hsn
          refine hK.out _ _ ?_ (fun hHeld2 => ?_)
          focus ((try dsimp only); (try trivial))
          clear hK K
          try simp only [Act.put, List.getElem_toArray, List.getElem_cons_zero, List.getElem_cons_succ, List.setIfInBounds_toArray, List.set_cons_zero, List.set_cons_succ]
          clear hHeld2
          refine wpAnyH_take (i := 9) (oi := _) (v := ?_) rfl (by kernel_rfl) (by kernel_rfl) (by kernel_rfl) (fun _ _ _ h => h) (Or.inl ⟨by rfl, ?_⟩) (by assumption) ?_
          rotate_left
          focus (intro wS hSw; (try dsimp only at hSw); go_simp; (try with_reducible rfl))
          try simp only [Act.put, List.getElem_toArray, List.getElem_cons_zero, List.getElem_cons_succ, List.setIfInBounds_toArray, List.set_cons_zero, List.set_cons_succ]
          refine wpAnyH_ready (rs := [10]) (by kernel_rfl) (by simp) (AllReadyH.cons (o := _) rfl (fun K hK => ?_) AllReadyH.nil)
          obtain ⟨R, hR5⟩ : ∃ L, w4.heap.size = L := ⟨_, rfl⟩
          go_simp
          refine hK.out _ _ ?_ (fun hHeld2 => ?_)
          focus ((try dsimp only); (try trivial))
          clear hK K
          try simp only [Act.put, List.getElem_toArray, List.getElem_cons_zero, List.getElem_cons_succ, List.setIfInBounds_toArray, List.set_cons_zero, List.set_cons_succ]
          have H5 := hid (H4.out.alloc #[.int .i64 0, .int .i64 0, .int .i64 0, .slice none 0 0] 35 hR5)
          clear hR5 hHeld2
          generalize World.alloc w4 _ = w5 at *
          refine wpAnyH_ready (rs := [11]) (by kernel_rfl) (by simp) (AllReadyH.cons (o := _) rfl (fun K hK => ?_) AllReadyH.nil)
          have c0 := H5.out.cell 0 rfl 0 rfl
          have c1 := H5.out.cell 0 rfl 1 rfl
          have c2 := H5.out.cell 0 rfl 2 rfl
          have c3 := H5.out.cell 0 rfl 3 rfl
          have f0 := H5.out.free 0 rfl 0
          have f1 := H5.out.free 0 rfl 1
          have f2 := H5.out.free 0 rfl 2
          have f3 := H5.out.free 0 rfl 3
          go_simp
          refine hK.out _ _ ?_ (fun hHeld2 => ?_)
          focus ((try dsimp only); (try trivial))
          clear hK K
          try simp only [Act.put, List.getElem_toArray, List.getElem_cons_zero, List.getElem_cons_succ, List.setIfInBounds_toArray, List.set_cons_zero, List.set_cons_succ]
          have H6 := hid (H5.out.set4 0 rfl (.int .i64 w) (.int .i64 h) (.int .i64 mx) (.slice (some ⟨D, 0, none⟩) n n))
          clear c0 c1 c2 c3 f0 f1 f2 f3 hHeld2
          refine wpAnyH_done (by kernel_rfl) ?_ _
          go_wp2_with fail
          go_meet
          exact ⟨R, D, mx, rfl, HMX.out, H6.out.pick [0, 2, 3] rfl⟩
        · obtain ⟨R, hR4⟩ : ∃ L, w3.heap.size = L := ⟨_, rfl⟩
          go_simp
          refine hK.out _ _ ?_ (fun hHeld2 => ?_)
          focus ((try dsimp only); (try trivial))
          clear hK K
          try simp only [Act.put, List.getElem_toArray, List.getElem_cons_zero, List.getElem_cons_succ, List.setIfInBounds_toArray, List.set_cons_zero, List.set_cons_succ]
          have H4 := hid (H3.out.alloc #[.int .i64 0, .int .i64 0, .int .i64 0, .slice none 0 0] 35 hR4)
          clear hR4 hHeld2
          generalize World.alloc w3 _ = w4 at *
          refine wpAnyH_ready (rs := [4]) (by kernel_rfl) (by simp) (AllReadyH.cons (o := _) rfl (fun K hK => ?_) AllReadyH.nil)
          go_simp
          go_at_call 11; refine (pickB_any B0 k _ 5 5 [255, 255, 65535, 1, 7] _ (by omega) (by omega) H4.out.tape (H4.out.lit 1 [255, 255, 65535, 1, 7] rfl (by decide)).row (H4.out.far 1 rfl _)).mono ?_; rintro e w5 ⟨mx, rfl, hmx, htn, hgn, hsn⟩; have H5 := hid (H4.out.next htn hgn); have HMX := hid hmx; clear hmx htn hgn hsn
          refine hK.out _ _ ?_ (fun hHeld2 => ?_)
          focus ((try dsimp only); (try trivial))
          clear hK K
          try simp only [Act.put, List.getElem_toArray, List.getElem_cons_zero, List.getElem_cons_succ, List.setIfInBounds_toArray, List.set_cons_zero, List.set_cons_succ]
          clear hHeld2
          refine wpAnyH_take (i := 9) (oi := _) (v := ?_) rfl (by kernel_rfl) (by kernel_rfl) (by kernel_rfl) (fun _ _ _ h => h) (Or.inl ⟨by rfl, ?_⟩) (by assumption) ?_
          rotate_left
          focus (intro wS hSw; (try dsimp only at hSw); go_simp; (try with_reducible rfl))
          try simp only [Act.put, List.getElem_toArray, List.getElem_cons_zero, List.getElem_cons_succ, List.setIfInBounds_toArray, List.set_cons_zero, List.set_cons_succ]
          refine wpAnyH_ready (rs := [11]) (by kernel_rfl) (by simp) (AllReadyH.cons (o := _) rfl (fun K hK => ?_) AllReadyH.nil)
          have c0 := H5.out.cell 0 rfl 0 rfl
          have c1 := H5.out.cell 0 rfl 1 rfl
          have c2 := H5.out.cell 0 rfl 2 rfl
          have c3 := H5.out.cell 0 rfl 3 rfl
          have f0 := H5.out.free 0 rfl 0
          have f1 := H5.out.free 0 rfl 1
          have f2 := H5.out.free 0 rfl 2
          have f3 := H5.out.free 0 rfl 3
          go_simp
          refine hK.out _ _ ?_ (fun hHeld2 => ?_)
          focus ((try dsimp only); (try trivial))
          clear hK K
          try simp only [Act.put, List.getElem_toArray, List.getElem_cons_zero, List.getElem_cons_succ, List.setIfInBounds_toArray, List.set_cons_zero, List.set_cons_succ]
          have H6 := hid (H5.out.set4 0 rfl (.int .i64 w) (.int .i64 h) (.int .i64 mx) (.slice (some ⟨D, 0, none⟩) n n))
          clear c0 c1 c2 c3 f0 f1 f2 f3 hHeld2
          refine wpAnyH_done (by kernel_rfl) ?_ _
          go_wp2_with fail
          go_meet
          exact ⟨R, D, mx, rfl, HMX.out, H6.out.pick [0, 2, 3] rfl⟩
      · obtain ⟨R, hR3⟩ : ∃ L, w2.heap.size = L := ⟨_, rfl⟩
        go_simp
        refine hK.out _ _ ?_ (fun hHeld2 => ?_)
        focus ((try dsimp only); (try trivial))
        clear hK K
        try simp only [Act.put, List.getElem_toArray, List.getElem_cons_zero, List.getElem_cons_succ, List.setIfInBounds_toArray, List.set_cons_zero, List.set_cons_succ]
        have H3 := hid (H2.out.alloc #[.int .i64 0, .int .i64 0, .int .i64 0, .slice none 0 0] 35 hR3)
        clear hR3 hHeld2
        generalize World.alloc w2 _ = w3 at *
        refine wpAnyH_ready (rs := [3]) (by kernel_rfl) (by simp) (AllReadyH.cons (o := _) rfl (fun K hK => ?_) AllReadyH.nil)
        obtain ⟨L4, hL4⟩ : ∃ L, w3.heap.size = L := ⟨_, rfl⟩
        go_simp
        refine hK.out _ _ ?_ (fun hHeld2 => ?_)
        focus ((try dsimp only); (try trivial))
        clear hK K
        try simp only [Act.put, List.getElem_toArray, List.getElem_cons_zero, List.getElem_cons_succ, List.setIfInBounds_toArray, List.set_cons_zero, List.set_cons_succ]
        have H4 := hid (H3.out.alloc #[.int .i64 255, .int .i64 255, .int .i64 65535, .int .i64 1, .int .i64 7] 3 hL4)
        clear hL4 hHeld2
        generalize World.alloc w3 _ = w4 at *
        refine wpAnyH_ready (rs := [4]) (by kernel_rfl) (by simp) (AllReadyH.cons (o := _) rfl (fun K hK => ?_) AllReadyH.nil)
        go_simp
        go_at_call 11; refine (pickB_any B0 k _ 5 5 [255, 255, 65535, 1, 7] _ (by omega) (by omega) H4.out.tape (H4.out.lit 0 [255, 255, 65535, 1, 7] rfl (by decide)).row (H4.out.far 0 rfl _)).mono ?_; rintro e w5 ⟨mx, rfl, hmx, htn, hgn, hsn⟩; have H5 := hid (H4.out.next htn hgn); have HMX := hid hmx; clear hmx htn hgn hsn
        refine hK.out _ _ ?_ (fun hHeld2 => ?_)
        focus ((try dsimp only); (try trivial))
        clear hK K
        try simp only [Act.put, List.getElem_toArray, List.getElem_cons_zero, List.getElem_cons_succ, List.setIfInBounds_toArray, List.set_cons_zero, List.set_cons_succ]
        clear hHeld2
        refine wpAnyH_take (i := 9) (oi := _) (v := ?_) rfl (by kernel_rfl) (by kernel_rfl) (by kernel_rfl) (fun _ _ _ h => h) (Or.inl ⟨by rfl, ?_⟩) (by assumption) ?_
        rotate_left
        focus (intro wS hSw; (try dsimp only at hSw); go_simp; (try with_reducible rfl))
        try simp only [Act.put, List.getElem_toArray, List.getElem_cons_zero, List.getElem_cons_succ, List.setIfInBounds_toArray, List.set_cons_zero, List.set_cons_succ]
        refine wpAnyH_ready (rs := [11]) (by kernel_rfl) (by simp) (AllReadyH.cons (o := _) rfl (fun K hK => ?_) AllReadyH.nil)
        have c0 := H5.out.cell 1 rfl 0 rfl
        have c1 := H5.out.cell 1 rfl 1 rfl
        have c2 := H5.out.cell 1 rfl 2 rfl
        have c3 := H5.out.cell 1 rfl 3 rfl
        have f0 := H5.out.free 1 rfl 0
        have f1 := H5.out.free 1 rfl 1
        have f2 := H5.out.free 1 rfl 2
        have f3 := H5.out.free 1 rfl 3
        go_simp
        refine hK.out _ _ ?_ (fun hHeld2 => ?_)
        focus ((try dsimp only); (try trivial))
        clear hK K
        try simp only [Act.put, List.getElem_toArray, List.getElem_cons_zero, List.getElem_cons_succ, List.setIfInBounds_toArray, List.set_cons_zero, List.set_cons_succ]
        have H6 := hid (H5.out.set4 1 rfl (.int .i64 w) (.int .i64 h) (.int .i64 mx) (.slice (some ⟨D, 0, none⟩) n n))
        clear c0 c1 c2 c3 f0 f1 f2 f3 hHeld2
        refine wpAnyH_done (by kernel_rfl) ?_ _
        go_wp2_with fail
        go_meet
        exact ⟨R, D, mx, rfl, HMX.out, H6.out.pick [1, 2, 3] rfl⟩
    · obtain ⟨R, hR2⟩ : ∃ L, w0.heap.size = L := ⟨_, rfl⟩
      go_simp
      refine hK.out _ _ ?_ (fun hHeld2 => ?_)
      focus ((try dsimp only); (try trivial))
      clear hK K
      try simp only [Act.put, List.getElem_toArray, List.getElem_cons_zero, List.getElem_cons_succ, List.setIfInBounds_toArray, List.set_cons_zero, List.set_cons_succ]
      have H2 := hid (H1.out.alloc #[.int .i64 0, .int .i64 0, .int .i64 0, .slice none 0 0] 35 hR2)
      clear hR2 hHeld2
      generalize World.alloc w0 _ = w2 at *
      refine wpAnyH_ready (rs := [3, 8]) (by kernel_rfl) (by simp) (AllReadyH.cons (o := _) rfl (fun K hK => ?_) (AllReadyH.cons (o := _) rfl (fun K hK => ?_) AllReadyH.nil))
      · obtain ⟨L3, hL3⟩ : ∃ L, w2.heap.size = L := ⟨_, rfl⟩
        go_simp
        refine hK.out _ _ ?_ (fun hHeld2 => ?_)
        focus ((try dsimp only); (try trivial))
        clear hK K
        try simp only [Act.put, List.getElem_toArray, List.getElem_cons_zero, List.getElem_cons_succ, List.setIfInBounds_toArray, List.set_cons_zero, List.set_cons_succ]
        have H3 := hid (H2.out.alloc #[.int .i64 255, .int .i64 255, .int .i64 65535, .int .i64 1, .int .i64 7] 3 hL3)
        clear hL3 hHeld2
        generalize World.alloc w2 _ = w3 at *
        refine wpAnyH_ready (rs := [4, 8]) (by kernel_rfl) (by simp) (AllReadyH.cons (o := _) rfl (fun K hK => ?_) (AllReadyH.cons (o := _) rfl (fun K hK => ?_) AllReadyH.nil))
        · go_simp
          go_at_call 11; refine (pickB_any B0 k _ 5 5 [255, 255, 65535, 1, 7] _ (by omega) (by omega) H3.out.tape (H3.out.lit 0 [255, 255, 65535, 1, 7] rfl (by decide)).row (H3.out.far 0 rfl _)).mono ?_; rintro e w4 ⟨mx, rfl, hmx, htn, hgn, hsn⟩; have H4 := hid (H3.out.next htn hgn); have HMX := hid hmx; clear hmx htn hgn hsn
          refine hK.out _ _ ?_ (fun hHeld2 => ?_)
          focus ((try dsimp only); (try trivial))
          clear hK K
          try simp only [Act.put, List.getElem_toArray, List.getElem_cons_zero, List.getElem_cons_succ, List.setIfInBounds_toArray, List.set_cons_zero, List.set_cons_succ]
          clear hHeld2
          refine wpAnyH_ready (rs := [8]) (by kernel_rfl) (by simp) (AllReadyH.cons (o := _) rfl (fun K hK => ?_) AllReadyH.nil)
          obtain ⟨D, hD5⟩ : ∃ L, w4.heap.size = L := ⟨_, rfl⟩
          have hBD : B ≤ D := by have := H4.out.size; omega
          rw [if_pos (by rfl)]
          refine oper_make_int _ _ rfl D _ _ n rfl rfl (by first | rfl | exact hn) (by first | rfl | exact hn) (by omega) (by omega) ?_; intro w5 ho hb; rw [hD5] at ho ⊢; have H5 := hid (H4.out.made hD5 ho hb); clear ho hb hD5
          refine hK.out _ _ ?_ (fun hHeld2 => ?_)
          focus ((try dsimp only); (try trivial))
          clear hK K
          try simp only [Act.put, List.getElem_toArray, List.getElem_cons_zero, List.getElem_cons_succ, List.setIfInBounds_toArray, List.set_cons_zero, List.set_cons_succ]
          clear hHeld2
          refine wpAnyH_take (i := 9) (oi := _) (v := ?_) rfl (by kernel_rfl) (by kernel_rfl) (by kernel_rfl) (fun _ _ _ h => h) (Or.inl ⟨by rfl, ?_⟩) (by assumption) ?_
          rotate_left
          focus (intro wS hSw; (try dsimp only at hSw); go_simp; (try with_reducible rfl))
          try simp only [Act.put, List.getElem_toArray, List.getElem_cons_zero, List.getElem_cons_succ, List.setIfInBounds_toArray, List.set_cons_zero, List.set_cons_succ]
          refine wpAnyH_ready (rs := [11]) (by kernel_rfl) (by simp) (AllReadyH.cons (o := _) rfl (fun K hK => ?_) AllReadyH.nil)
          have c0 := H5.out.cell 2 rfl 0 rfl
          have c1 := H5.out.cell 2 rfl 1 rfl
          have c2 := H5.out.cell 2 rfl 2 rfl
          have c3 := H5.out.cell 2 rfl 3 rfl
          have f0 := H5.out.free 2 rfl 0
          have f1 := H5.out.free 2 rfl 1
          have f2 := H5.out.free 2 rfl 2
          have f3 := H5.out.free 2 rfl 3
          go_simp
          refine hK.out _ _ ?_ (fun hHeld2 => ?_)
          focus ((try dsimp only); (try trivial))
          clear hK K
          try simp only [Act.put, List.getElem_toArray, List.getElem_cons_zero, List.getElem_cons_succ, List.setIfInBounds_toArray, List.set_cons_zero, List.set_cons_succ]
          have H6 := hid (H5.out.set4 2 rfl (.int .i64 w) (.int .i64 h) (.int .i64 mx) (.slice (some ⟨D, 0, none⟩) n n))
          clear c0 c1 c2 c3 f0 f1 f2 f3 hHeld2
          refine wpAnyH_done (by kernel_rfl) ?_ _
          go_wp2_with fail
          go_meet
          exact ⟨R, D, mx, rfl, HMX.out, H6.out.pick [2, 0, 3] rfl⟩
        · obtain ⟨D, hD4⟩ : ∃ L, w3.heap.size = L := ⟨_, rfl⟩
          have hBD : B ≤ D := by have := H3.out.size; omega
          rw [if_pos (by rfl)]
          refine oper_make_int _ _ rfl D _ _ n rfl rfl (by first | rfl | exact hn) (by first | rfl | exact hn) (by omega) (by omega) ?_; intro w4 ho hb; rw [hD4] at ho ⊢; have H4 := hid (H3.out.made hD4 ho hb); clear ho hb hD4
          refine hK.out _ _ ?_ (fun hHeld2 => ?_)
          focus ((try dsimp only); (try trivial))
          clear hK K
          try simp only [Act.put, List.getElem_toArray, List.getElem_cons_zero, List.getElem_cons_succ, List.setIfInBounds_toArray, List.set_cons_zero, List.set_cons_succ]
          clear hHeld2
          refine wpAnyH_ready (rs := [4]) (by kernel_rfl) (by simp) (AllReadyH.cons (o := _) rfl (fun K hK => ?_) AllReadyH.nil)
          go_simp
          go_at_call 11; refine (pickB_any B0 k _ 5 5 [255, 255, 65535, 1, 7] _ (by omega) (by omega) H4.out.tape (H4.out.lit 1 [255, 255, 65535, 1, 7] rfl (by decide)).row (H4.out.far 1 rfl _)).mono ?_; rintro e w5 ⟨mx, rfl, hmx, htn, hgn, hsn⟩; have H5 := hid (H4.out.next htn hgn); have HMX := hid hmx; clear hmx htn hgn hsn
          refine hK.out _ _ ?_ (fun hHeld2 => ?_)
          focus ((try dsimp only); (try trivial))
          clear hK K
          try simp only [Act.put, List.getElem_toArray, List.getElem_cons_zero, List.getElem_cons_succ, List.setIfInBounds_toArray, List.set_cons_zero, List.set_cons_succ]
          clear hHeld2
          refine wpAnyH_take (i := 9) (oi := _) (v := ?_) rfl (by kernel_rfl) (by kernel_rfl) (by kernel_rfl) (fun _ _ _ h => h) (Or.inl ⟨by rfl, ?_⟩) (by assumption) ?_
          rotate_left
          focus (intro wS hSw; (try dsimp only at hSw); go_simp; (try with_reducible rfl))
          try simp only [Act.put, List.getElem_toArray, List.getElem_cons_zero, List.getElem_cons_succ, List.setIfInBounds_toArray, List.set_cons_zero, List.set_cons_succ]
          refine wpAnyH_ready (rs := [11]) (by kernel_rfl) (by simp) (AllReadyH.cons (o := _) rfl (fun K hK => ?_) AllReadyH.nil)
          have c0 := H5.out.cell 2 rfl 0 rfl
          have c1 := H5.out.cell 2 rfl 1 rfl
          have c2 := H5.out.cell 2 rfl 2 rfl
          have c3 := H5.out.cell 2 rfl 3 rfl
          have f0 := H5.out.free 2 rfl 0
          have f1 := H5.out.free 2 rfl 1
          have f2 := H5.out.free 2 rfl 2
          have f3 := H5.out.free 2 rfl 3
          go_simp
          refine hK.out _ _ ?_ (fun hHeld2 => ?_)
          focus ((try dsimp only); (try trivial))
          clear hK K
          try simp only [Act.put, List.getElem_toArray, List.getElem_cons_zero, List.getElem_cons_succ, List.setIfInBounds_toArray, List.set_cons_zero, List.set_cons_succ]
          have H6 := hid (H5.out.set4 2 rfl (.int .i64 w) (.int .i64 h) (.int .i64 mx) (.slice (some ⟨D, 0, none⟩) n n))
          clear c0 c1 c2 c3 f0 f1 f2 f3 hHeld2
          refine wpAnyH_done (by kernel_rfl) ?_ _
          go_wp2_with fail
          go_meet
          exact ⟨R, D, mx, rfl, HMX.out, H6.out.pick [2, 0, 3] rfl⟩
      · obtain ⟨D, hD3⟩ : ∃ L, w2.heap.size = L := ⟨_, rfl⟩
        have hBD : B ≤ D := by have := H2.out.size; omega
        rw [if_pos (by rfl)]
        refine oper_make_int _ _ rfl D _ _ n rfl rfl (by first | rfl | exact hn) (by first | rfl | exact hn) (by omega) (by omega) ?_; intro w3 ho hb; rw [hD3] at ho ⊢; have H3 := hid (H2.out.made hD3 ho hb); clear ho hb hD3
        refine hK.out _ _ ?_ (fun hHeld2 => ?_)
        focus ((try dsimp only); (try trivial))
        clear hK K
        try simp only [Act.put, List.getElem_toArray, List.getElem_cons_zero, List.getElem_cons_succ, List.setIfInBounds_toArray, List.set_cons_zero, List.set_cons_succ]
        clear hHeld2
        refine wpAnyH_ready (rs := [3]) (by kernel_rfl) (by simp) (AllReadyH.cons (o := _) rfl (fun K hK => ?_) AllReadyH.nil)
        obtain ⟨L4, hL4⟩ : ∃ L, w3.heap.size = L := ⟨_, rfl⟩
        go_simp
        refine hK.out _ _ ?_ (fun hHeld2 => ?_)
        focus ((try dsimp only); (try trivial))
        clear hK K
        try simp only [Act.put, List.getElem_toArray, List.getElem_cons_zero, List.getElem_cons_succ, List.setIfInBounds_toArray, List.set_cons_zero, List.set_cons_succ]
        have H4 := hid (H3.out.alloc #[.int .i64 255, .int .i64 255, .int .i64 65535, .int .i64 1, .int .i64 7] 3 hL4)
        clear hL4 hHeld2
        generalize World.alloc w3 _ = w4 at *
        refine wpAnyH_ready (rs := [4]) (by kernel_rfl) (by simp) (AllReadyH.cons (o := _) rfl (fun K hK => ?_) AllReadyH.nil)
        go_simp
        go_at_call 11; refine (pickB_any B0 k _ 5 5 [255, 255, 65535, 1, 7] _ (by omega) (by omega) H4.out.tape (H4.out.lit 0 [255, 255, 65535, 1, 7] rfl (by decide)).row (H4.out.far 0 rfl _)).mono ?_; rintro e w5 ⟨mx, rfl, hmx, htn, hgn, hsn⟩; have H5 := hid (H4.out.next htn hgn); have HMX := hid hmx; clear hmx htn hgn hsn
        refine hK.out _ _ ?_ (fun hHeld2 => ?_)
        focus ((try dsimp only); (try trivial))
        clear hK K
        try simp only [Act.put, List.getElem_toArray, List.getElem_cons_zero, List.getElem_cons_succ, List.setIfInBounds_toArray, List.set_cons_zero, List.set_cons_succ]
        clear hHeld2
        refine wpAnyH_take (i := 9) (oi := _) (v := ?_) rfl (by kernel_rfl) (by kernel_rfl) (by kernel_rfl) (fun _ _ _ h => h) (Or.inl ⟨by rfl, ?_⟩) (by assumption) ?_
        rotate_left
        focus (intro wS hSw; (try dsimp only at hSw); go_simp; (try with_reducible rfl))
        try simp only [Act.put, List.getElem_toArray, List.getElem_cons_zero, List.getElem_cons_succ, List.setIfInBounds_toArray, List.set_cons_zero, List.set_cons_succ]
        refine wpAnyH_ready (rs := [11]) (by kernel_rfl) (by simp) (AllReadyH.cons (o := _) rfl (fun K hK => ?_) AllReadyH.nil)
        have c0 := H5.out.cell 2 rfl 0 rfl
        have c1 := H5.out.cell 2 rfl 1 rfl
        have c2 := H5.out.cell 2 rfl 2 rfl
        have c3 := H5.out.cell 2 rfl 3 rfl
        have f0 := H5.out.free 2 rfl 0
        have f1 := H5.out.free 2 rfl 1
        have f2 := H5.out.free 2 rfl 2
        have f3 := H5.out.free 2 rfl 3
        go_simp
        refine hK.out _ _ ?_ (fun hHeld2 => ?_)
        focus ((try dsimp only); (try trivial))
        clear hK K
        try simp only [Act.put, List.getElem_toArray, List.getElem_cons_zero, List.getElem_cons_succ, List.setIfInBounds_toArray, List.set_cons_zero, List.set_cons_succ]
        have H6 := hid (H5.out.set4 2 rfl (.int .i64 w) (.int .i64 h) (.int .i64 mx) (.slice (some ⟨D, 0, none⟩) n n))
        clear c0 c1 c2 c3 f0 f1 f2 f3 hHeld2
        refine wpAnyH_done (by kernel_rfl) ?_ _
        go_wp2_with fail
        go_meet
        exact ⟨R, D, mx, rfl, HMX.out, H6.out.pick [2, 1, 3] rfl⟩
  case rest =>
    obtain ⟨R, D, mx, rfl, hmx, hk⟩ := hcut
    have HK := hid hk
    obtain ⟨mx0, mx1⟩ : 1 ≤ mx ∧ mx ≤ 65535 := by
      simp only [List.mem_cons, List.not_mem_nil, or_false] at hmx
      omega
    have HN := hid hn
    have hn1 : 1 ≤ n := by
      have : 1 * 1 ≤ w * h := Int.mul_le_mul hw hh (by omega) (by omega)
      omega
    clear H0 hmx hk hn
    go_wp2_with fail
    go_loopw [8] (fun i wr => ∃ (j : Nat) (zs : List Int), j ≤ n ∧ i = .int .i64 j ∧ zs.length = n ∧ (∀ i, 0 ≤ zs.getD i 0 ∧ zs.getD i 0 ≤ mx) ∧ Tk B0 k B W [.cells R #[.int .i64 w, .int .i64 h, .int .i64 mx, .slice (some ⟨D, 0, none⟩) n n] 35, .own (.slice (some ⟨D, 0, none⟩) n n) zs, .cells B #[.int .i64 0, .int .i64 0, .int .i64 0, .slice none 0 0] 35] wr) (fun i _ => n - (intOf i).toNat)
    case atStart => exact ⟨0, _, by omega, rfl, by simp, fun i => by rw [List.getD_eq_getElem?_getD]; rcases Nat.lt_or_ge i n with h' | h' <;> simp [h'] <;> omega, HK.out⟩
    case round =>
      obtain ⟨j, zs, hj, rfl, hlen, hin, hk⟩ := hrel
      obtain ⟨w2, rfl⟩ : ∃ w2 : World, w2 = wr := ⟨_, rfl⟩
      have HLEN := hid hlen
      have HIN := hid hin
      have H2 := hid hk
      clear hlen hin hk
      have x2 := H2.out.cell 0 rfl 2 rfl
      have x3 := H2.out.cell 0 rfl 3 rfl
      by_cases hjn : j < n
      · have hjn' : (j : Int) < n := by omega
        go_wp2_with fail
        have q1 : IntKind.i64.wrap (mx + 1) = mx + 1 := IntWalk.i64_in _ (by omega)
        have H3 := hid (H2.out.drew)
        refine wp_region_held_drew (S := (fun w' => w'.cell? ⟨R, 2, none⟩ = some (.int .i64 mx) ∧ w'.cell? ⟨R, 3, none⟩ = some (.slice (some ⟨D, 0, none⟩) n n))) (by kernel_rfl) ⟨H3.out.cell 0 rfl 2 rfl, H3.out.cell 0 rfl 3 rfl⟩ (fun hHeld => ?_)
        clear x2 x3
        generalize w2.drew = w3 at *
        refine wpAnyH_take (i := 0) (oi := _) (v := ?_) rfl (by kernel_rfl) (by kernel_rfl) (by kernel_rfl) (fun _ _ _ h => h) (Or.inl ⟨by rfl, ?_⟩) (by assumption) ?_
        rotate_left
        focus (intro wS hSw; (try dsimp only at hSw); go_simp; (try with_reducible rfl))
        try simp only [Act.put, List.getElem_toArray, List.getElem_cons_zero, List.getElem_cons_succ, List.setIfInBounds_toArray, List.set_cons_zero, List.set_cons_succ]
        refine wpAnyH_take (i := 1) (oi := _) (v := ?_) rfl (by kernel_rfl) (by kernel_rfl) (by kernel_rfl) (fun _ _ _ h => h) (Or.inl ⟨by rfl, ?_⟩) (by assumption) ?_
        rotate_left
        focus (intro wS hSw; (try dsimp only at hSw); go_simp; (try with_reducible rfl))
        try simp only [Act.put, List.getElem_toArray, List.getElem_cons_zero, List.getElem_cons_succ, List.setIfInBounds_toArray, List.set_cons_zero, List.set_cons_succ]
        refine wpAnyH_take (i := 2) (oi := _) (v := ?_) rfl (by kernel_rfl) (by kernel_rfl) (by kernel_rfl) (fun _ _ _ h => h) (Or.inl ⟨by rfl, ?_⟩) (by assumption) ?_
        rotate_left
        focus (intro wS hSw; (try dsimp only at hSw); go_simp; (try with_reducible rfl))
        try simp only [Act.put, List.getElem_toArray, List.getElem_cons_zero, List.getElem_cons_succ, List.setIfInBounds_toArray, List.set_cons_zero, List.set_cons_succ]
        refine wpAnyH_take (i := 3) (oi := _) (v := ?_) rfl (by kernel_rfl) (by kernel_rfl) (by kernel_rfl) (fun _ _ _ h => h) (Or.inl ⟨by rfl, ?_⟩) (by assumption) ?_
        rotate_left
        focus (intro wS hSw; (try dsimp only at hSw); go_simp; (try with_reducible rfl))
        try simp only [Act.put, List.getElem_toArray, List.getElem_cons_zero, List.getElem_cons_succ, List.setIfInBounds_toArray, List.set_cons_zero, List.set_cons_succ]
        refine wpAnyH_take (i := 4) (oi := _) (v := ?_) rfl (by kernel_rfl) (by kernel_rfl) (by kernel_rfl) (fun _ _ _ h => h) (Or.inl ⟨by rfl, ?_⟩) (by assumption) ?_
        rotate_left
        focus (intro wS hSw; (try dsimp only at hSw); go_simp; (try with_reducible rfl))
        try simp only [Act.put, List.getElem_toArray, List.getElem_cons_zero, List.getElem_cons_succ, List.setIfInBounds_toArray, List.set_cons_zero, List.set_cons_succ]
        refine wpAnyH_take (i := 5) (oi := _) (v := ?_) rfl (by kernel_rfl) (by kernel_rfl) (by kernel_rfl) (fun _ _ _ h => h) (Or.inl ⟨by rfl, ?_⟩) (by assumption) ?_
        rotate_left
        focus (intro wS hSw; (try dsimp only at hSw); go_simp; (try with_reducible rfl))
        try simp only [Act.put, List.getElem_toArray, List.getElem_cons_zero, List.getElem_cons_succ, List.setIfInBounds_toArray, List.set_cons_zero, List.set_cons_succ]
        refine wpAnyH_take (i := 6) (oi := _) (v := ?_) rfl (by kernel_rfl) (by kernel_rfl) (by kernel_rfl) (fun _ _ _ h => h) (Or.inl ⟨by rfl, ?_⟩) (by assumption) ?_
        rotate_left
        focus (intro wS hSw; (try dsimp only at hSw); go_simp; (try with_reducible rfl))
        try simp only [Act.put, List.getElem_toArray, List.getElem_cons_zero, List.getElem_cons_succ, List.setIfInBounds_toArray, List.set_cons_zero, List.set_cons_succ]
        refine wpAnyH_take (i := 7) (oi := _) (v := ?_) rfl (by kernel_rfl) (by kernel_rfl) (by kernel_rfl) (fun _ _ _ h => h) (Or.inl ⟨by rfl, ?_⟩) (by assumption) ?_
        rotate_left
        focus (intro wS hSw; (try dsimp only at hSw); go_simp; (try with_reducible rfl))
        try simp only [Act.put, List.getElem_toArray, List.getElem_cons_zero, List.getElem_cons_succ, List.setIfInBounds_toArray, List.set_cons_zero, List.set_cons_succ]
        refine wpAnyH_take (i := 9) (oi := _) (v := ?_) rfl (by kernel_rfl) (by kernel_rfl) (by kernel_rfl) (fun _ _ _ h => h) (Or.inl ⟨by rfl, ?_⟩) (by assumption) ?_
        rotate_left
        focus (intro wS hSw; (try dsimp only at hSw); go_simp; (try with_reducible rfl))
        try simp only [Act.put, List.getElem_toArray, List.getElem_cons_zero, List.getElem_cons_succ, List.setIfInBounds_toArray, List.set_cons_zero, List.set_cons_succ]
        refine wpAnyH_take (i := 10) (oi := _) (v := ?_) rfl (by kernel_rfl) (by kernel_rfl) (by kernel_rfl) (fun _ _ _ h => h) (Or.inl ⟨by rfl, ?_⟩) (by assumption) ?_
        rotate_left
        focus (intro wS hSw; (try dsimp only at hSw); go_simp; (try with_reducible rfl))
        try simp only [Act.put, List.getElem_toArray, List.getElem_cons_zero, List.getElem_cons_succ, List.setIfInBounds_toArray, List.set_cons_zero, List.set_cons_succ]
        refine wpAnyH_take (i := 11) (oi := _) (v := ?_) rfl (by kernel_rfl) (by kernel_rfl) (by kernel_rfl) (fun _ _ _ h => h) (Or.inl ⟨by rfl, ?_⟩) (by assumption) ?_
        rotate_left
        focus (intro wS hSw; (try dsimp only at hSw); go_simp; (try with_reducible rfl))
        try simp only [Act.put, List.getElem_toArray, List.getElem_cons_zero, List.getElem_cons_succ, List.setIfInBounds_toArray, List.set_cons_zero, List.set_cons_succ]
        refine wpAnyH_take (i := 12) (oi := _) (v := ?_) rfl (by kernel_rfl) (by kernel_rfl) (by kernel_rfl) (fun _ _ _ h => h) (Or.inl ⟨by rfl, ?_⟩) (by assumption) ?_
        rotate_left
        focus (intro wS hSw; (try dsimp only at hSw); go_simp; (try with_reducible rfl))
        try simp only [Act.put, List.getElem_toArray, List.getElem_cons_zero, List.getElem_cons_succ, List.setIfInBounds_toArray, List.set_cons_zero, List.set_cons_succ]
        refine wpAnyH_take (i := 14) (oi := _) (v := ?_) rfl (by kernel_rfl) (by kernel_rfl) (by kernel_rfl) (fun _ _ _ h => h) (Or.inl ⟨by rfl, ?_⟩) (by assumption) ?_
        rotate_left
        focus (intro wS hSw; (try dsimp only at hSw); go_simp; (try with_reducible rfl))
        try simp only [Act.put, List.getElem_toArray, List.getElem_cons_zero, List.getElem_cons_succ, List.setIfInBounds_toArray, List.set_cons_zero, List.set_cons_succ]
        refine wpAnyH_take (i := 15) (oi := _) (v := ?_) rfl (by kernel_rfl) (by kernel_rfl) (by kernel_rfl) (fun _ _ _ h => h) (Or.inl ⟨by rfl, ?_⟩) (by assumption) ?_
        rotate_left
        focus (intro wS hSw; (try dsimp only at hSw); go_simp; (try with_reducible rfl))
        try simp only [Act.put, List.getElem_toArray, List.getElem_cons_zero, List.getElem_cons_succ, List.setIfInBounds_toArray, List.set_cons_zero, List.set_cons_succ]
        refine wpAnyH_ready (rs := [8]) (by kernel_rfl) (by simp) (AllReadyH.cons (o := _) rfl (fun K hK => ?_) AllReadyH.nil)
        go_simp
        go_at_call 9; refine (nextB_any B0 k _ _ (by omega) H3.out.tape).mono ?_; rintro e v4 ⟨z1, rfl, z1a, z1b, htn, hgn, hsn⟩; have H4 := hid (H3.out.next htn hgn); have z1c : z1 ≤ mx := (by omega); clear htn hgn hsn z1b hHeld
        refine hK.out _ _ ?_ (fun hHeld2 => ?_)
        focus ((try dsimp only); (exact ⟨H4.out.cell 0 rfl 2 rfl, H4.out.cell 0 rfl 3 rfl⟩))
        clear hK K
        try simp only [Act.put, List.getElem_toArray, List.getElem_cons_zero, List.getElem_cons_succ, List.setIfInBounds_toArray, List.set_cons_zero, List.set_cons_succ]
        have hHeld := hHeld2
        clear hHeld2
        refine wpAnyH_ready (rs := [13]) (by kernel_rfl) (by simp) (AllReadyH.cons (o := _) rfl (fun K hK => ?_) AllReadyH.nil)
        go_simp
        go_at_call 9; refine (nextB_any B0 k _ _ (by omega) H4.out.tape).mono ?_; rintro e v5 ⟨z2, rfl, z2a, z2b, htn, hgn, hsn⟩; have H5 := hid (H4.out.next htn hgn); have z2c : z2 ≤ mx := (by omega); clear htn hgn hsn z2b hHeld
        refine hK.out _ _ ?_ (fun hHeld2 => ?_)
        focus ((try dsimp only); (exact ⟨H5.out.cell 0 rfl 2 rfl, H5.out.cell 0 rfl 3 rfl⟩))
        clear hK K
        try simp only [Act.put, List.getElem_toArray, List.getElem_cons_zero, List.getElem_cons_succ, List.setIfInBounds_toArray, List.set_cons_zero, List.set_cons_succ]
        have hHeld := hHeld2
        clear hHeld2
        refine wpAnyH_ready (rs := [16]) (by kernel_rfl) (by simp) (AllReadyH.cons (o := _) rfl (fun K hK => ?_) AllReadyH.nil)
        obtain ⟨L6, hL6⟩ : ∃ L, v5.heap.size = L := ⟨_, rfl⟩
        have H6 := hid (H5.out.alloc #[.int .i64 z1, .int .i64 z2, .int .i64 mx, .int .i64 0] 3 hL6)
        go_simp
        refine hK.out _ _ ?_ (fun hHeld2 => ?_)
        focus ((try dsimp only); (exact ⟨H6.out.cell 1 rfl 2 rfl, H6.out.cell 1 rfl 3 rfl⟩))
        clear hK K
        try simp only [Act.put, List.getElem_toArray, List.getElem_cons_zero, List.getElem_cons_succ, List.setIfInBounds_toArray, List.set_cons_zero, List.set_cons_succ]
        clear hL6 hHeld
        have hHeld := hHeld2
        clear hHeld2
        generalize World.alloc v5 _ = v6 at *
        refine wpAnyH_ready (rs := [17]) (by kernel_rfl) (by simp) (AllReadyH.cons (o := _) rfl (fun K hK => ?_) AllReadyH.nil)
        go_simp
        go_at_call 11; refine (pickB_any B0 k _ 4 4 [z1, z2, mx, 0] _ (by omega) (by omega) H6.out.tape (H6.out.lit 0 [z1, z2, mx, 0] rfl (by simp)).row (H6.out.far 0 rfl _)).mono ?_; rintro e v7 ⟨r, rfl, hr, htn, hgn, hsn⟩; have H7 := hid (H6.out.next htn hgn); have hr2 : 0 ≤ r ∧ r ≤ mx := pick_in hr (by omega) z1a z1c z2a z2c; clear hr htn hgn hsn hHeld; obtain ⟨r0, r1⟩ := hr2
        refine hK.out _ _ ?_ (fun hHeld2 => ?_)
        focus ((try dsimp only); (exact ⟨H7.out.cell 1 rfl 2 rfl, H7.out.cell 1 rfl 3 rfl⟩))
        clear hK K
        try simp only [Act.put, List.getElem_toArray, List.getElem_cons_zero, List.getElem_cons_succ, List.setIfInBounds_toArray, List.set_cons_zero, List.set_cons_succ]
        have hHeld := hHeld2
        clear hHeld2
        refine wpAnyH_take (i := 18) (oi := _) (v := ?_) rfl (by kernel_rfl) (by kernel_rfl) (by kernel_rfl) (fun _ _ _ h => h) (Or.inl ⟨by rfl, ?_⟩) (by assumption) ?_
        rotate_left
        focus (intro wS hSw; (try dsimp only at hSw); go_simp; (try with_reducible rfl))
        try simp only [Act.put, List.getElem_toArray, List.getElem_cons_zero, List.getElem_cons_succ, List.setIfInBounds_toArray, List.set_cons_zero, List.set_cons_succ]
        refine wpAnyH_ready (rs := [19]) (by kernel_rfl) (by simp) (AllReadyH.cons (o := _) rfl (fun K hK => ?_) AllReadyH.nil)
        obtain ⟨s1, s2⟩ := H7.out.get 2 rfl (j := j) (by rw [HLEN.out]; exact hjn)
        have H8 := hid (H7.out.store 2 rfl j r)
        go_simp
        refine hK.out _ _ ?_ (fun hHeld2 => ?_)
        focus ((try dsimp only); (exact ⟨H8.out.cell 1 rfl 2 rfl, H8.out.cell 1 rfl 3 rfl⟩))
        clear hK K
        try simp only [Act.put, List.getElem_toArray, List.getElem_cons_zero, List.getElem_cons_succ, List.setIfInBounds_toArray, List.set_cons_zero, List.set_cons_succ]
        clear hHeld hHeld2 s1 s2
        generalize World.setCell v7 _ _ = v8 at *
        refine wpAnyH_done (by kernel_rfl) ?_ _
        go_wp2_with fail
        go_roundw
        case rel => exact ⟨j + 1, _, by omega, by go_num, by rw [List.length_set]; exact HLEN.out, in_set HIN.out r0 r1, H8.out.pick [1, 2, 3] rfl⟩
        case measure => simp [intOf]; omega
      · obtain rfl : n = j := by omega
        have x0 := H2.out.cell 0 rfl 0 rfl
        have x1 := H2.out.cell 0 rfl 1 rfl
        have y0 := H2.out.cell 2 rfl 0 rfl
        have y1 := H2.out.cell 2 rfl 1 rfl
        have y2 := H2.out.cell 2 rfl 2 rfl
        have y3 := H2.out.cell 2 rfl 3 rfl
        have e0 := H2.out.free 2 rfl 0
        have e1 := H2.out.free 2 rfl 1
        have e2 := H2.out.free 2 rfl 2
        have e3 := H2.out.free 2 rfl 3
        have hjn' : ¬ ((n : Int) < n) := by omega
        go_wp2_with fail
        have H5 := hid (H2.out.set4 2 rfl (.int .i64 w) (.int .i64 h) (.int .i64 mx) (.slice (some ⟨D, 0, none⟩) n n))
        have k0 := H5.out.cell 2 rfl 0 rfl
        have k1 := H5.out.cell 2 rfl 1 rfl
        have k2 := H5.out.cell 2 rfl 2 rfl
        have k3 := H5.out.cell 2 rfl 3 rfl
        have HV := hid (show pValid w h mx zs = true from sized_valid hw hw' hh hh' mx0 mx1 (by rw [HLEN.out, HN.out]) HIN.out)
        refine bodyPost_ret (v := .agg #[.int .i64 w, .int .i64 h, .int .i64 mx, .slice (some ⟨D, 0, none⟩) n n]) ?_ rfl ⟨_, _, _, rfl, HV.out, mx1, by rw [hB]; exact H5.out.own 1 rfl, H5.out.tape, H5.out.grown⟩
        unfold set4 at k0 k1 k2 k3
        simp [results, Try.results33, go_sem, k0, k1, k2, k3]
end

section
open Go.RowKit
attribute [local go_sem ↓] Go.wp_at_zero Go.wp_at_succ
set_option linter.unusedVariables false
set_option linter.unusedSimpArgs false

def pEq (w h m : Int) (xs : List Int) (w' h' m' : Int) (ys : List Int) : Bool := decide (w = w' ∧ h = h' ∧ m = m' ∧ xs = ys)
theorem pEq_false {w h m : Int} {xs : List Int} {w' h' m' : Int} {ys : List Int} (e : ¬ (w = w' ∧ h = h' ∧ m = m' ∧ xs = ys)) : pEq w h m xs w' h' m' ys = false := by
  unfold pEq; rw [decide_eq_false_iff_not]; exact e
set_option maxRecDepth 100000 in
set_option maxHeartbeats 1600000 in
theorem qequal_any (w h m : Int) (a : Option Addr) (n c : Nat) (xs : List Int) (w' h' m' : Int) (a' : Option Addr) (n' c' : Nat) (ys : List Int) (W : World) (hx : Slc W a n c xs) (hy : Slc W a' n' c' ys) :
    Calls Try.prog 22 #[.agg #[.int .i64 w, .int .i64 h, .int .i64 m, .slice a n c], .agg #[.int .i64 w', .int .i64 h', .int .i64 m', .slice a' n' c']] W fun e u => e = .returned (.bool (pEq w h m xs w' h' m' ys)) ∧ Below W.heap.size W u := by
  obtain ⟨B, hB⟩ : ∃ B, W.heap.size = B := ⟨_, rfl⟩
  have H0 := hid (((St.init hB).alloc #[.int .i64 w, .int .i64 h, .int .i64 m, .slice a n c] 35 hB).alloc #[.int .i64 w', .int .i64 h', .int .i64 m', .slice a' n' c'] 35 (alloc_size _ hB))
  have HX := hid ((hx.alloc (.cells #[.int .i64 w, .int .i64 h, .int .i64 m, .slice a n c] 35)).alloc (.cells #[.int .i64 w', .int .i64 h', .int .i64 m', .slice a' n' c'] 35))
  have HY := hid ((hy.alloc (.cells #[.int .i64 w, .int .i64 h, .int .i64 m, .slice a n c] 35)).alloc (.cells #[.int .i64 w', .int .i64 h', .int .i64 m', .slice a' n' c'] 35))
  clear hx hy
  by_cases h1 : w = w'
  · subst h1
    by_cases h2 : h = h'
    · subst h2
      by_cases h3 : m = m'
      · subst h3
        have HE := hid (show lEq xs ys = pEq w h m xs w h m ys by simp [lEq, pEq])
        go_enter Try.func22, Try.ntmps22
        go_wp2_with fail
        refine (qsame_any _ _ _ _ _ _ _ _ _ HX.out HY.out).mono ?_
        rintro e w1 ⟨rfl, q, rfl⟩
        rw [HE.out]
        go_wp2_with fail
        go_ret
        exact ⟨rfl, (H0.out.drewN q).below⟩
      · have e1 : (m == m') = false := by simpa using h3
        have HE := hid (pEq_false (w := w) (h := h) (m := m) (xs := xs) (w' := w) (h' := h) (m' := m') (ys := ys) (fun e => h3 e.2.2.1))
        rw [HE.out]
        go_enter Try.func22, Try.ntmps22
        go_wp2_with fail
        go_ret
        exact ⟨rfl, H0.out.below⟩
    · have e1 : (h == h') = false := by simpa using h2
      have HE := hid (pEq_false (w := w) (h := h) (m := m) (xs := xs) (w' := w) (h' := h') (m' := m') (ys := ys) (fun e => h2 e.2.1))
      rw [HE.out]
      go_enter Try.func22, Try.ntmps22
      go_wp2_with fail
      go_ret
      exact ⟨rfl, H0.out.below⟩
  · have e1 : (w == w') = false := by simpa using h1
    have HE := hid (pEq_false (w := w) (h := h) (m := m) (xs := xs) (w' := w') (h' := h') (m' := m') (ys := ys) (fun e => h1 e.1))
    rw [HE.out]
    go_enter Try.func22, Try.ntmps22
    go_wp2_with fail
    go_ret
    exact ⟨rfl, H0.out.below⟩

def TPlanePost (B0 k : Nat) (W : World) (e : Ending) (w' : World) : Prop := ∃ w h : Int, 1 ≤ w ∧ w ≤ 6 ∧ 1 ≤ h ∧ h ≤ 5 ∧ PlanePost B0 k W w h e w'
set_option maxRecDepth 100000 in
set_option maxHeartbeats 1600000 in
theorem plane_any (B0 k : Nat) (W : World) (ht : TapeB B0 W k) :
    Calls Try.prog 15 #[.pointer (some ⟨k, 0, none⟩)] W (TPlanePost B0 k W) := by
  obtain ⟨B, hB⟩ : ∃ B, W.heap.size = B := ⟨_, rfl⟩
  have H0 := hid ((Tk.init ht hB).alloc #[.int .i64 0, .int .i64 0, .int .i64 0, .slice none 0 0] 35 hB)
  clear ht
  go_enter Try.func15, Try.ntmps15
  go_wp2_with fail
  refine (nextB_any B0 k _ _ (by omega) H0.out.tape).mono ?_
  rintro e w1 ⟨x, rfl, g1, g2, ht1, hg1, hs1⟩
  have H1 := hid (H0.out.next ht1 hg1)
  clear ht1 hg1 hs1
  go_wp2_with fail
  refine (nextB_any B0 k _ _ (by omega) H1.out.tape).mono ?_
  rintro e w2 ⟨y, rfl, g3, g4, ht2, hg2, hs2⟩
  have H2 := hid (H1.out.next ht2 hg2)
  clear ht2 hg2 hs2
  go_wp2_with fail
  refine (sized_any B0 k _ _ _ (by omega) (by omega) (by omega) (by omega) H2.out.tape).mono ?_
  rintro e w3 ⟨mx, v, zs, rfl, hv, hm, ho, ht3, hg3⟩
  have H3 := hid (H2.out.add ht3 hg3 ho)
  have HV := hid hv
  clear hv ho ht3 hg3
  have y0 := H3.out.cell 1 rfl 0 rfl
  have y1 := H3.out.cell 1 rfl 1 rfl
  have y2 := H3.out.cell 1 rfl 2 rfl
  have y3 := H3.out.cell 1 rfl 3 rfl
  have e0 := H3.out.free 1 rfl 0
  have e1 := H3.out.free 1 rfl 1
  have e2 := H3.out.free 1 rfl 2
  have e3 := H3.out.free 1 rfl 3
  obtain ⟨g, c, rfl⟩ := (H3.out.own 0 rfl).pos (by have h1 := (pValid_iff.1 HV.out).2.1; have : 1 * 1 ≤ (1 + x) * (1 + y) := Int.mul_le_mul (by omega) (by omega) (by omega) (by omega); omega)
  go_wp2_with fail
  have H5 := hid (H3.out.set4 1 rfl (.int .i64 (1 + x)) (.int .i64 (1 + y)) (.int .i64 mx) (.slice (some ⟨g, 0, none⟩) zs.length c))
  have k0 := H5.out.cell 1 rfl 0 rfl
  have k1 := H5.out.cell 1 rfl 1 rfl
  have k2 := H5.out.cell 1 rfl 2 rfl
  have k3 := H5.out.cell 1 rfl 3 rfl
  refine bodyPost_ret (v := .agg #[.int .i64 (1 + x), .int .i64 (1 + y), .int .i64 mx, .slice (some ⟨g, 0, none⟩) zs.length c]) ?_ rfl ⟨_, _, by omega, by omega, by omega, by omega, _, _, _, rfl, HV.out, hm, by rw [hB]; exact H5.out.own 0 rfl, H5.out.tape, H5.out.grown⟩
  unfold set4 at k0 k1 k2 k3
  simp [results, Try.results15, go_sem, k0, k1, k2, k3]
end
end Go.Proofs.Ytocikgdkigcjbaa
