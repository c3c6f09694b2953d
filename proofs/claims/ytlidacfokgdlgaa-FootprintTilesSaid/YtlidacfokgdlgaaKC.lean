/-
  Contracts of the tape's Within: a rectangle within a size; the tape alone has changed. Contract of the tape's Sized: a valid plane of a size; the tape alone has changed. Contracts: equal planes, in the reference; the tape's Plane and Edge.
-/
import Derived.Test.YtlidacfokgdlgaaKA
import Derived.Deep.RegionWith
import Derived.Deep.DrawnRows
import Derived.Deep.RegionHeld3
import Derived.Deep.DeepCutAuto
import Derived.Test.YtlidacfokgdlgaaKB
namespace Go.Proofs.Ytlidacfokgdlgaa
section
open Go.RowKit
attribute [local go_sem ↓] Go.wp_at_zero Go.wp_at_succ
set_option linter.unusedVariables false
set_option linter.unusedSimpArgs false

def WithinPost (B0 k : Nat) (W : World) (w h : Int) (e : Ending) (w' : World) : Prop :=
  ∃ r0 r1 r2 r3 : Int, e = .returned (.agg #[.int .i64 r0, .int .i64 r1, .int .i64 r2, .int .i64 r3]) ∧ (0 ≤ r0 ∧ r0 < r2 ∧ r2 ≤ w ∧ 0 ≤ r1 ∧ r1 < r3 ∧ r3 ≤ h) ∧ TapeB B0 w' k ∧ W.grownBy w' (some k)

theorem wi_mk {B0 k B R : Nat} {W wB : World} {x0 y0 z u : Int} (h : Tk B0 k B W [.cells R #[.int .i64 x0, .int .i64 y0, .int .i64 z, .int .i64 u] 24, .cells B #[.int .i64 0, .int .i64 0, .int .i64 0, .int .i64 0] 24] wB) : (∃ z u : Int, Tk B0 k B W [.cells R #[.int .i64 x0, .int .i64 y0, .int .i64 z, .int .i64 u] 24, .cells B #[.int .i64 0, .int .i64 0, .int .i64 0, .int .i64 0] 24] wB) ∧ wB.cell? ⟨R, 0, none⟩ = some (.int .i64 x0) ∧ wB.cell? ⟨R, 1, none⟩ = some (.int .i64 y0) := ⟨⟨z, u, h⟩, h.cell 0 rfl 0 rfl, h.cell 0 rfl 1 rfl⟩
theorem wi_next {B0 k B R : Nat} {W wA wB : World} {x0 y0 : Int} (p : (∃ z u : Int, Tk B0 k B W [.cells R #[.int .i64 x0, .int .i64 y0, .int .i64 z, .int .i64 u] 24, .cells B #[.int .i64 0, .int .i64 0, .int .i64 0, .int .i64 0] 24] wA) ∧ wA.cell? ⟨R, 0, none⟩ = some (.int .i64 x0) ∧ wA.cell? ⟨R, 1, none⟩ = some (.int .i64 y0)) (ht : TapeB B0 wB k) (hg : wA.grownBy wB (some k)) : (∃ z u : Int, Tk B0 k B W [.cells R #[.int .i64 x0, .int .i64 y0, .int .i64 z, .int .i64 u] 24, .cells B #[.int .i64 0, .int .i64 0, .int .i64 0, .int .i64 0] 24] wB) ∧ wB.cell? ⟨R, 0, none⟩ = some (.int .i64 x0) ∧ wB.cell? ⟨R, 1, none⟩ = some (.int .i64 y0) := by
  obtain ⟨⟨z, u, h⟩, _⟩ := p; exact wi_mk (h.next ht hg)
theorem wi_tape {B0 k B R : Nat} {W wA : World} {x0 y0 : Int} (p : (∃ z u : Int, Tk B0 k B W [.cells R #[.int .i64 x0, .int .i64 y0, .int .i64 z, .int .i64 u] 24, .cells B #[.int .i64 0, .int .i64 0, .int .i64 0, .int .i64 0] 24] wA) ∧ wA.cell? ⟨R, 0, none⟩ = some (.int .i64 x0) ∧ wA.cell? ⟨R, 1, none⟩ = some (.int .i64 y0)) : TapeB B0 wA k := by
  obtain ⟨⟨z, u, h⟩, _⟩ := p; exact h.tape

set_option maxRecDepth 100000 in
set_option maxHeartbeats 1600000 in
theorem within_any (B0 k : Nat) (w h : Int) (W : World) (hw : 1 ≤ w) (hw' : w ≤ 1000000) (hh : 1 ≤ h) (hh' : h ≤ 1000000) (ht : TapeB B0 W k) :
    Calls Try.prog 21 #[.pointer (some ⟨k, 0, none⟩), .int .i64 w, .int .i64 h] W (WithinPost B0 k W w h) := by
  obtain ⟨B, hB⟩ : ∃ B, W.heap.size = B := ⟨_, rfl⟩
  have H0 := hid ((Tk.init ht hB).alloc #[.int .i64 0, .int .i64 0, .int .i64 0, .int .i64 0] 24 hB)
  clear ht
  go_enter Try.func21, Try.ntmps21
  go_wp2_with fail
  refine (nextB_any B0 k _ _ (by omega) H0.out.tape).mono ?_
  rintro e w1 ⟨x0, rfl, g1, g2, ht1, hg1, hs1⟩
  have H1 := hid (H0.out.next ht1 hg1)
  clear ht1 hg1 hs1
  go_wp2_with fail
  refine (nextB_any B0 k _ _ (by omega) H1.out.tape).mono ?_
  rintro e w2 ⟨y0, rfl, g3, g4, ht2, hg2, hs2⟩
  have H2 := hid (H1.out.next ht2 hg2)
  clear ht2 hg2 hs2
  obtain ⟨R, hR⟩ : ∃ R, w2.heap.size = R := ⟨_, rfl⟩
  have g2' : x0 < w := by omega
  have g4' : y0 < h := by omega
  clear g2 g4
  go_upto_region 2 with fail
  have H3 := hid (H2.out.alloc #[.int .i64 x0, .int .i64 y0, .int .i64 0, .int .i64 0] 24 hR)
  clear hR
  -- REGION
  have q1 : IntKind.i64.wrap (x0 + 1) = x0 + 1 := IntWalk.i64_in _ (by omega)
  have q2 : IntKind.i64.wrap (w - x0) = w - x0 := IntWalk.i64_in _ (by omega)
  have q3 : IntKind.i64.wrap (y0 + 1) = y0 + 1 := IntWalk.i64_in _ (by omega)
  have q4 : IntKind.i64.wrap (h - y0) = h - y0 := IntWalk.i64_in _ (by omega)
  have HS := hid (wi_mk (H3.out.drewN 1))
  refine wp_region_held_drew (S := (fun w' => (∃ z u : Int, Tk B0 k B W [.cells R #[.int .i64 x0, .int .i64 y0, .int .i64 z, .int .i64 u] 24, .cells B #[.int .i64 0, .int .i64 0, .int .i64 0, .int .i64 0] 24] w') ∧ w'.cell? ⟨R, 0, none⟩ = some (.int .i64 x0) ∧ w'.cell? ⟨R, 1, none⟩ = some (.int .i64 y0))) (by kernel_rfl) HS.out (fun hHeld => ?_)
  refine wpAnyH_take (i := 0) (oi := _) (v := ?_) rfl (by kernel_rfl) (by kernel_rfl) (by kernel_rfl) (fun _ _ _ h => h) (Or.inl ⟨by rfl, ?_⟩) (by assumption) ?_
  rotate_left
  focus (intro wS hSw; (try dsimp only at hSw); go_simp; (try with_reducible rfl))
  try simp only [Act.put, List.getElem_toArray, List.getElem_cons_zero, List.getElem_cons_succ, List.setIfInBounds_toArray, List.set_cons_zero, List.set_cons_succ]
  refine wpAnyH_take (i := 1) (oi := _) (v := ?_) rfl (by kernel_rfl) (by kernel_rfl) (by kernel_rfl) (fun _ _ _ h => h) (Or.inl ⟨by rfl, ?_⟩) (by assumption) ?_
  rotate_left
  focus (intro wS hSw; (try dsimp only at hSw); go_simp; (try with_reducible rfl))
  try simp only [Act.put, List.getElem_toArray, List.getElem_cons_zero, List.getElem_cons_succ, List.setIfInBounds_toArray, List.set_cons_zero, List.set_cons_succ]
  refine wpAnyH_take (i := 2) (oi := _) (v := ?_) rfl (by kernel_rfl) (by kernel_rfl) (by kernel_rfl) (fun _ _ _ h => h) (Or.inl ⟨by rfl, ?_⟩) (by assumption) ?_
  rotate_left
  focus (intro wS hSw; (try dsimp only at hSw); go_simp; (try with_reducible rfl))
  try simp only [Act.put, List.getElem_toArray, List.getElem_cons_zero, List.getElem_cons_succ, List.setIfInBounds_toArray, List.set_cons_zero, List.set_cons_succ]
  refine wpAnyH_take (i := 3) (oi := _) (v := ?_) rfl (by kernel_rfl) (by kernel_rfl) (by kernel_rfl) (fun _ _ _ h => h) (Or.inl ⟨by rfl, ?_⟩) (by assumption) ?_
  rotate_left
  focus (intro wS hSw; (try dsimp only at hSw); go_simp; (try with_reducible rfl))
  try simp only [Act.put, List.getElem_toArray, List.getElem_cons_zero, List.getElem_cons_succ, List.setIfInBounds_toArray, List.set_cons_zero, List.set_cons_succ]
  refine wpAnyH_take (i := 4) (oi := _) (v := ?_) rfl (by kernel_rfl) (by kernel_rfl) (by kernel_rfl) (fun _ _ _ h => h) (Or.inl ⟨by rfl, ?_⟩) (by assumption) ?_
  rotate_left
  focus (intro wS hSw; (try dsimp only at hSw); go_simp; (try with_reducible rfl))
  try simp only [Act.put, List.getElem_toArray, List.getElem_cons_zero, List.getElem_cons_succ, List.setIfInBounds_toArray, List.set_cons_zero, List.set_cons_succ]
  refine wpAnyH_take (i := 5) (oi := _) (v := ?_) rfl (by kernel_rfl) (by kernel_rfl) (by kernel_rfl) (fun _ _ _ h => h) (Or.inl ⟨by rfl, ?_⟩) (by assumption) ?_
  rotate_left
  focus (intro wS hSw; (try dsimp only at hSw); go_simp; (try with_reducible rfl))
  try simp only [Act.put, List.getElem_toArray, List.getElem_cons_zero, List.getElem_cons_succ, List.setIfInBounds_toArray, List.set_cons_zero, List.set_cons_succ]
  refine wpAnyH_take (i := 6) (oi := _) (v := ?_) rfl (by kernel_rfl) (by kernel_rfl) (by kernel_rfl) (fun _ _ _ h => h) (Or.inl ⟨by rfl, ?_⟩) (by assumption) ?_
  rotate_left
  focus (intro wS hSw; (try dsimp only at hSw); go_simp; (try with_reducible rfl))
  try simp only [Act.put, List.getElem_toArray, List.getElem_cons_zero, List.getElem_cons_succ, List.setIfInBounds_toArray, List.set_cons_zero, List.set_cons_succ]
  refine wpAnyH_take (i := 7) (oi := _) (v := ?_) rfl (by kernel_rfl) (by kernel_rfl) (by kernel_rfl) (fun _ _ _ h => h) (Or.inl ⟨by rfl, ?_⟩) (by assumption) ?_
  rotate_left
  focus (intro wS hSw; (try dsimp only at hSw); go_simp; (try with_reducible rfl))
  try simp only [Act.put, List.getElem_toArray, List.getElem_cons_zero, List.getElem_cons_succ, List.setIfInBounds_toArray, List.set_cons_zero, List.set_cons_succ]
  refine wpAnyH_take (i := 10) (oi := _) (v := ?_) rfl (by kernel_rfl) (by kernel_rfl) (by kernel_rfl) (fun _ _ _ h => h) (Or.inl ⟨by rfl, ?_⟩) (by assumption) ?_
  rotate_left
  focus (intro wS hSw; (try dsimp only at hSw); go_simp; (try with_reducible rfl))
  try simp only [Act.put, List.getElem_toArray, List.getElem_cons_zero, List.getElem_cons_succ, List.setIfInBounds_toArray, List.set_cons_zero, List.set_cons_succ]
  refine wpAnyH_take (i := 11) (oi := _) (v := ?_) rfl (by kernel_rfl) (by kernel_rfl) (by kernel_rfl) (fun _ _ _ h => h) (Or.inl ⟨by rfl, ?_⟩) (by assumption) ?_
  rotate_left
  focus (intro wS hSw; (try dsimp only at hSw); go_simp; (try with_reducible rfl))
  try simp only [Act.put, List.getElem_toArray, List.getElem_cons_zero, List.getElem_cons_succ, List.setIfInBounds_toArray, List.set_cons_zero, List.set_cons_succ]
  refine wpAnyH_take (i := 12) (oi := _) (v := ?_) rfl (by kernel_rfl) (by kernel_rfl) (by kernel_rfl) (fun _ _ _ h => h) (Or.inl ⟨by rfl, ?_⟩) (by assumption) ?_
  rotate_left
  focus (intro wS hSw; (try dsimp only at hSw); go_simp; (try with_reducible rfl))
  try simp only [Act.put, List.getElem_toArray, List.getElem_cons_zero, List.getElem_cons_succ, List.setIfInBounds_toArray, List.set_cons_zero, List.set_cons_succ]
  refine wpAnyH_take (i := 13) (oi := _) (v := ?_) rfl (by kernel_rfl) (by kernel_rfl) (by kernel_rfl) (fun _ _ _ h => h) (Or.inl ⟨by rfl, ?_⟩) (by assumption) ?_
  rotate_left
  focus (intro wS hSw; (try dsimp only at hSw); go_simp; (try with_reducible rfl))
  try simp only [Act.put, List.getElem_toArray, List.getElem_cons_zero, List.getElem_cons_succ, List.setIfInBounds_toArray, List.set_cons_zero, List.set_cons_succ]
  refine wpAnyH_take (i := 14) (oi := _) (v := ?_) rfl (by kernel_rfl) (by kernel_rfl) (by kernel_rfl) (fun _ _ _ h => h) (Or.inl ⟨by rfl, ?_⟩) (by assumption) ?_
  rotate_left
  focus (intro wS hSw; (try dsimp only at hSw); go_simp; (try with_reducible rfl))
  try simp only [Act.put, List.getElem_toArray, List.getElem_cons_zero, List.getElem_cons_succ, List.setIfInBounds_toArray, List.set_cons_zero, List.set_cons_succ]
  refine wpAnyH_take (i := 15) (oi := _) (v := ?_) rfl (by kernel_rfl) (by kernel_rfl) (by kernel_rfl) (fun _ _ _ h => h) (Or.inl ⟨by rfl, ?_⟩) (by assumption) ?_
  rotate_left
  focus (intro wS hSw; (try dsimp only at hSw); go_simp; (try with_reducible rfl))
  try simp only [Act.put, List.getElem_toArray, List.getElem_cons_zero, List.getElem_cons_succ, List.setIfInBounds_toArray, List.set_cons_zero, List.set_cons_succ]
  refine wpAnyH_take (i := 16) (oi := _) (v := ?_) rfl (by kernel_rfl) (by kernel_rfl) (by kernel_rfl) (fun _ _ _ h => h) (Or.inl ⟨by rfl, ?_⟩) (by assumption) ?_
  rotate_left
  focus (intro wS hSw; (try dsimp only at hSw); go_simp; (try with_reducible rfl))
  try simp only [Act.put, List.getElem_toArray, List.getElem_cons_zero, List.getElem_cons_succ, List.setIfInBounds_toArray, List.set_cons_zero, List.set_cons_succ]
  refine wpAnyH_take (i := 17) (oi := _) (v := ?_) rfl (by kernel_rfl) (by kernel_rfl) (by kernel_rfl) (fun _ _ _ h => h) (Or.inl ⟨by rfl, ?_⟩) (by assumption) ?_
  rotate_left
  focus (intro wS hSw; (try dsimp only at hSw); go_simp; (try with_reducible rfl))
  try simp only [Act.put, List.getElem_toArray, List.getElem_cons_zero, List.getElem_cons_succ, List.setIfInBounds_toArray, List.set_cons_zero, List.set_cons_succ]
  refine wpAnyH_ready (rs := [8]) (by kernel_rfl) (by simp) (AllReadyH.cons (o := _) rfl (fun K hK => ?_) AllReadyH.nil)
  go_simp
  go_at_call 8; refine (nextB_any B0 k _ _ (by omega) (wi_tape (by assumption))).mono ?_; rintro e w3 ⟨z1, rfl, a0, a1, htn, hgn, hsn⟩
  refine hK.out _ _ ?_ (fun hHeld2 => ?_)
  focus ((try dsimp only); (exact wi_next (by assumption) htn hgn))
  clear hK K htn hgn hsn hHeld
  try simp only [Act.put, List.getElem_toArray, List.getElem_cons_zero, List.getElem_cons_succ, List.setIfInBounds_toArray, List.set_cons_zero, List.set_cons_succ]
  have hHeld := hHeld2
  clear hHeld2
  have a2 : z1 < w - x0 := by omega
  have q5 : IntKind.i64.wrap (x0 + 1 + z1) = x0 + 1 + z1 := IntWalk.i64_in _ (by omega)
  clear a1
  refine wpAnyH_take (i := 9) (oi := _) (v := ?_) rfl (by kernel_rfl) (by kernel_rfl) (by kernel_rfl) (fun _ _ _ h => h) (Or.inl ⟨by rfl, ?_⟩) (by assumption) ?_
  rotate_left
  focus (intro wS hSw; (try dsimp only at hSw); go_simp; (try with_reducible rfl))
  try simp only [Act.put, List.getElem_toArray, List.getElem_cons_zero, List.getElem_cons_succ, List.setIfInBounds_toArray, List.set_cons_zero, List.set_cons_succ]
  refine wpAnyH_take (i := 20) (oi := _) (v := ?_) rfl (by kernel_rfl) (by kernel_rfl) (by kernel_rfl) (fun _ _ _ h => h) (Or.inl ⟨by rfl, ?_⟩) (by assumption) ?_
  rotate_left
  focus (intro wS hSw; (try dsimp only at hSw); go_simp; (try with_reducible rfl))
  try simp only [Act.put, List.getElem_toArray, List.getElem_cons_zero, List.getElem_cons_succ, List.setIfInBounds_toArray, List.set_cons_zero, List.set_cons_succ]
  refine wpAnyH_ready (rs := [18]) (by kernel_rfl) (by simp) (AllReadyH.cons (o := _) rfl (fun K hK => ?_) AllReadyH.nil)
  go_simp
  go_at_call 8; refine (nextB_any B0 k _ _ (by omega) (wi_tape (by assumption))).mono ?_; rintro e w4 ⟨z2, rfl, b0, b1, htn, hgn, hsn⟩
  refine hK.out _ _ ?_ (fun hHeld2 => ?_)
  focus ((try dsimp only); (exact wi_next (by assumption) htn hgn))
  clear hK K htn hgn hsn hHeld
  try simp only [Act.put, List.getElem_toArray, List.getElem_cons_zero, List.getElem_cons_succ, List.setIfInBounds_toArray, List.set_cons_zero, List.set_cons_succ]
  have hHeld := hHeld2
  clear hHeld2
  have b2 : z2 < h - y0 := by omega
  have q6 : IntKind.i64.wrap (y0 + 1 + z2) = y0 + 1 + z2 := IntWalk.i64_in _ (by omega)
  clear b1
  refine wpAnyH_take (i := 19) (oi := _) (v := ?_) rfl (by kernel_rfl) (by kernel_rfl) (by kernel_rfl) (fun _ _ _ h => h) (Or.inl ⟨by rfl, ?_⟩) (by assumption) ?_
  rotate_left
  focus (intro wS hSw; (try dsimp only at hSw); go_simp; (try with_reducible rfl))
  try simp only [Act.put, List.getElem_toArray, List.getElem_cons_zero, List.getElem_cons_succ, List.setIfInBounds_toArray, List.set_cons_zero, List.set_cons_succ]
  obtain ⟨⟨z, u, HK⟩, _⟩ := hid hHeld
  have HK := hid HK
  have c2 := HK.out.cell 0 rfl 2 rfl
  have f2 := HK.out.free 0 rfl 2
  refine wpAnyH_ready (rs := [21]) (by kernel_rfl) (by simp) (AllReadyH.cons (o := _) rfl (fun K hK => ?_) AllReadyH.nil)
  go_simp
  refine hK.out _ _ ?_ (fun hHeld2 => ?_)
  focus ((try dsimp only); (exact wi_mk (HK.out.set 0 rfl 2 _)))
  clear hK K
  try simp only [Act.put, List.getElem_toArray, List.getElem_cons_zero, List.getElem_cons_succ, List.setIfInBounds_toArray, List.set_cons_zero, List.set_cons_succ]
  clear hHeld c2 f2
  have hHeld := hHeld2
  clear hHeld2
  have HK2 := hid (HK.out.set 0 rfl 2 (.int .i64 (x0 + 1 + z1)))
  have c3 := HK2.out.cell 0 rfl 3 rfl
  have f3 := HK2.out.free 0 rfl 3
  refine wpAnyH_take (i := 22) (oi := _) (v := ?_) rfl (by kernel_rfl) (by kernel_rfl) (by kernel_rfl) (fun _ _ _ h => h) (Or.inl ⟨by rfl, ?_⟩) (by assumption) ?_
  rotate_left
  focus (intro wS hSw; (try dsimp only at hSw); go_simp; (try with_reducible rfl))
  try simp only [Act.put, List.getElem_toArray, List.getElem_cons_zero, List.getElem_cons_succ, List.setIfInBounds_toArray, List.set_cons_zero, List.set_cons_succ]
  refine wpAnyH_ready (rs := [23]) (by kernel_rfl) (by simp) (AllReadyH.cons (o := _) rfl (fun K hK => ?_) AllReadyH.nil)
  go_simp
  refine hK.out _ _ ?_ (fun hHeld2 => ?_)
  focus ((try dsimp only); (exact wi_mk (HK2.out.set 0 rfl 3 _)))
  clear hK K
  try simp only [Act.put, List.getElem_toArray, List.getElem_cons_zero, List.getElem_cons_succ, List.setIfInBounds_toArray, List.set_cons_zero, List.set_cons_succ]
  refine wpAnyH_done (by kernel_rfl) ?_ _
  have HK3 := hid (HK2.out.set 0 rfl 3 (.int .i64 (y0 + 1 + z2)))
  clear hHeld hHeld2 c3 f3 q1 q2 q3 q4 q5 q6
  have HK4 := hid (show Tk B0 k B W [.cells R #[.int .i64 x0, .int .i64 y0, .int .i64 (x0 + 1 + z1), .int .i64 (y0 + 1 + z2)] 24, .cells B #[.int .i64 0, .int .i64 0, .int .i64 0, .int .i64 0] 24] _ from HK3.out)
  clear HK HK2 HK3
  obtain ⟨w6, h6⟩ : ∃ w6, w6 = (w4.setCell ⟨R, 2, none⟩ (.int .i64 (x0 + 1 + z1))).setCell ⟨R, 3, none⟩ (.int .i64 (y0 + 1 + z2)) := ⟨_, rfl⟩
  rw [← h6] at HK4 ⊢
  clear h6
  have x0' := HK4.out.cell 0 rfl 0 rfl
  have x1' := HK4.out.cell 0 rfl 1 rfl
  have x2' := HK4.out.cell 0 rfl 2 rfl
  have x3' := HK4.out.cell 0 rfl 3 rfl
  have y0' := HK4.out.cell 1 rfl 0 rfl
  have y1' := HK4.out.cell 1 rfl 1 rfl
  have y2' := HK4.out.cell 1 rfl 2 rfl
  have y3' := HK4.out.cell 1 rfl 3 rfl
  have e0' := HK4.out.free 1 rfl 0
  have e1' := HK4.out.free 1 rfl 1
  have e2' := HK4.out.free 1 rfl 2
  have e3' := HK4.out.free 1 rfl 3
  go_wp2_with fail
  have H5 := hid (HK4.out.set4 1 rfl (.int .i64 x0) (.int .i64 y0) (.int .i64 (x0 + 1 + z1)) (.int .i64 (y0 + 1 + z2)))
  have k0 := H5.out.cell 1 rfl 0 rfl
  have k1 := H5.out.cell 1 rfl 1 rfl
  have k2 := H5.out.cell 1 rfl 2 rfl
  have k3 := H5.out.cell 1 rfl 3 rfl
  refine bodyPost_ret (v := .agg #[.int .i64 x0, .int .i64 y0, .int .i64 (x0 + 1 + z1), .int .i64 (y0 + 1 + z2)]) ?_ rfl ⟨_, _, _, _, rfl, by omega, H5.out.tape, H5.out.grown⟩
  unfold set4 at k0 k1 k2 k3
  simp [results, Try.results21, go_sem, k0, k1, k2, k3]
end

section
open Go.RowKit
attribute [local go_sem ↓] Go.wp_at_zero Go.wp_at_succ
set_option linter.unusedVariables false
set_option linter.unusedSimpArgs false

/-- A valid plane that a call made. -/
def PlanePost (B0 k : Nat) (W : World) (w h : Int) (e : Ending) (w' : World) : Prop :=
  ∃ mx v zs, e = .returned (.agg #[.int .i64 w, .int .i64 h, .int .i64 mx, v]) ∧ pValid w h mx zs = true ∧ mx ≤ 65535 ∧ Own W.heap.size w' v zs ∧ TapeB B0 w' k ∧ W.grownBy w' (some k)

theorem pick_in {r z1 z2 mx : Int} (h : r ∈ [z1, z2, mx, 0]) (hm : 0 ≤ mx) (a : 0 ≤ z1) (b : z1 ≤ mx) (c : 0 ≤ z2) (d : z2 ≤ mx) : 0 ≤ r ∧ r ≤ mx := by
  simp only [List.mem_cons, List.not_mem_nil, or_false] at h
  omega
theorem in_set {zs : List Int} {mx r : Int} {j : Nat} (h : ∀ i, 0 ≤ zs.getD i 0 ∧ zs.getD i 0 ≤ mx) (r0 : 0 ≤ r) (r1 : r ≤ mx) : ∀ i, 0 ≤ (zs.set j r).getD i 0 ∧ (zs.set j r).getD i 0 ≤ mx := fun i => by
  have := h i
  rw [List.getD_eq_getElem?_getD, List.getElem?_set]
  split
  · split
    · exact ⟨r0, r1⟩
    · show (0 : Int) ≤ 0 ∧ (0 : Int) ≤ mx; omega
  · rwa [← List.getD_eq_getElem?_getD]
theorem sized_valid {w h mx : Int} {zs : List Int} (hw : 1 ≤ w) (hw' : w ≤ 12) (hh : 1 ≤ h) (hh' : h ≤ 12) (m0 : 1 ≤ mx) (m1 : mx ≤ 65535) (hl : (zs.length : Int) = w * h) (hin : ∀ i, 0 ≤ zs.getD i 0 ∧ zs.getD i 0 ≤ mx) : pValid w h mx zs = true := by
  have p1 : w * h ≤ 12 * 12 := Int.mul_le_mul hw' hh' (by omega) (by omega)
  exact pValid_iff.2 ⟨pOk_iff.2 (by omega), hl, allIn_iff.1 (allIn_of fun i _ => hin i)⟩
end

section
open Go.RowKit
attribute [local go_sem ↓] Go.wp_at_zero Go.wp_at_succ
set_option linter.unusedVariables false
set_option linter.unusedSimpArgs false

def pEq (w h m : Int) (xs : List Int) (w' h' m' : Int) (ys : List Int) : Bool := decide (w = w' ∧ h = h' ∧ m = m' ∧ xs = ys)
theorem pEq_false {w h m : Int} {xs : List Int} {w' h' m' : Int} {ys : List Int} (e : ¬ (w = w' ∧ h = h' ∧ m = m' ∧ xs = ys)) : pEq w h m xs w' h' m' ys = false := by
  unfold pEq; rw [decide_eq_false_iff_not]; exact e
def TPlanePost (B0 k : Nat) (W : World) (e : Ending) (w' : World) : Prop := ∃ w h : Int, 1 ≤ w ∧ w ≤ 6 ∧ 1 ≤ h ∧ h ≤ 5 ∧ PlanePost B0 k W w h e w'
end
end Go.Proofs.Ytlidacfokgdlgaa
