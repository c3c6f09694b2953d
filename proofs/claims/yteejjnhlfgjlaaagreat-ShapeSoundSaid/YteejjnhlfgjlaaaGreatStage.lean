/-
 Contract: the tape's Stage: a stage and its memory, in the caller's memory.
-/
import Derived.Test.YteejjnhlfgjlaaaGreatSg
import Derived.Test.YteejjnhlfgjlaaaGreatKO
import Derived.Test.YteejjnhlfgjlaaaGreatKE
import Derived.Test.YteejjnhlfgjlaaaGreatKH
namespace Go.Proofs.YteejjnhlfgjlaaaGreat
open Go.RowKit
attribute [local go_sem ↓] Go.wp_at_zero Go.wp_at_succ
set_option linter.unusedVariables false
set_option linter.unusedSimpArgs false

set_option maxRecDepth 100000 in
set_option maxHeartbeats 12800000 in
theorem stage_any {B : Nat} {W w0 : World} {l : List Ch} {rs : List Ro} (k : Nat) (a sw sh sm b : Int) (hsw : 1 ≤ sw ∧ sw ≤ 100) (hsh : 1 ≤ sh ∧ sh ≤ 100) (hst0 : St B W (.tape k :: l) rs w0) :
  Calls Tryz.prog 7 #[.pointer (some ⟨k, 0, none⟩), .int .i64 a, .agg #[.int .i64 sw, .int .i64 sh, .int .i64 sm], .int .i64 b] w0 (SgPost B W k 40 l) := by
 have HI0 := kq hst0; clear hst0; obtain ⟨sw1, sw2⟩ := hsw; obtain ⟨sh1, sh2'⟩ := hsh
 go_enter Tryz.func7, Tryz.ntmps7
 obtain ⟨D1, hD1⟩ := nK w0.heap.size; go_upto_region 1 with fail
 have H2 := kq (show St _ _ (.cells (D1 + 1) _ _ :: .cells D1 _ _ :: _) _ _ from ((HI0.o.alloc #[.int .i64 sw, .int .i64 sh, .int .i64 sm] 37 hD1).alloc #[.int .i64 0, .int .i64 0, .int .i64 0, .bool false, .int .i64 0, .int .i64 0, .int .i64 0, .int .i64 0, .slice none 0 0, .slice none 0 0, .slice none 0 0, .int .i64 0, .int .i64 0, .slice none 0 0, .slice none 0 0, .int .i64 0, .slice none 0 0, .int .i64 0] 34 (by first | exact hD1 | simp [hD1]))); first | refine gK H2 ?_ | refine gL H2 ?_ | refine gC H2 ?_
 clear H2; intro w3 H2; clear hD1; go_wp2_with fail
 refine (nextB_any B k _ _ (by omega) (H2.o.tapeAt 2 rfl)).mono ?_; rintro e w5 ⟨x4, rfl, x4a, x4b, htn, hgn, hsn⟩; have H6 := kq (H2.o.next 2 rfl htn hgn); clear htn hgn hsn; go_wp2_with fail
 refine (nextB_any B k _ _ (by omega) (H6.o.tapeAt 2 rfl)).mono ?_; rintro e w8 ⟨x7, rfl, x7a, x7b, htn, hgn, hsn⟩; have H9 := kq (H6.o.next 2 rfl htn hgn); clear htn hgn hsn; obtain ⟨bar9, hbar9⟩ : ∃ q : Bool, ((x7 : Int) == 3) = q := ⟨_, rfl⟩; obtain ⟨D2, hD2⟩ := nK w8.heap.size; have H1 := kq (H9.o.alloc #[.int .i64 0, .int .i64 0, .int .i64 0, .bool false, .int .i64 0, .int .i64 0, .int .i64 0, .int .i64 0, .slice none 0 0, .slice none 0 0, .slice none 0 0, .int .i64 0, .int .i64 0, .slice none 0 0, .slice none 0 0, .int .i64 0, .slice none 0 0, .int .i64 0] 34 hD2); go_upto_region 2 with (refine storeArm (H1.o.rowAt 0 rfl) (cs' := #[.int .i64 (1 + x4), .int .i64 a, .int .i64 (-1), .bool bar9, .int .i64 0, .int .i64 0, .int .i64 0, .int .i64 0, .slice none 0 0, .slice none 0 0, .slice none 0 0, .int .i64 0, .int .i64 0, .slice none 0 0, .slice none 0 0, .int .i64 0, .slice none 0 0, .int .i64 0]) (by first | rfl | kernel_rfl) (by first | rfl | kernel_rfl) (by first | rfl | kernel_rfl) (by rfl) (by rfl) (by rfl) ?_)
 clear H1; have H1 := kq (show St B W (.cells D2 #[.int .i64 (1 + x4), .int .i64 a, .int .i64 (-1), .bool bar9, .int .i64 0, .int .i64 0, .int .i64 0, .int .i64 0, .slice none 0 0, .slice none 0 0, .slice none 0 0, .int .i64 0, .int .i64 0, .slice none 0 0, .slice none 0 0, .int .i64 0, .slice none 0 0, .int .i64 0] 34 :: .cells (D1 + 1) #[.int .i64 0, .int .i64 0, .int .i64 0, .bool false, .int .i64 0, .int .i64 0, .int .i64 0, .int .i64 0, .slice none 0 0, .slice none 0 0, .slice none 0 0, .int .i64 0, .int .i64 0, .slice none 0 0, .slice none 0 0, .int .i64 0, .slice none 0 0, .int .i64 0] 34 :: .cells D1 #[.int .i64 sw, .int .i64 sh, .int .i64 sm] 37 :: .tape k :: l) rs ((w8.alloc (.cells #[.int .i64 0, .int .i64 0, .int .i64 0, .bool false, .int .i64 0, .int .i64 0, .int .i64 0, .int .i64 0, .slice none 0 0, .slice none 0 0, .slice none 0 0, .int .i64 0, .int .i64 0, .slice none 0 0, .slice none 0 0, .int .i64 0, .slice none 0 0, .int .i64 0] 34)).setRow D2 #[.int .i64 (1 + x4), .int .i64 a, .int .i64 (-1), .bool bar9, .int .i64 0, .int .i64 0, .int .i64 0, .int .i64 0, .slice none 0 0, .slice none 0 0, .slice none 0 0, .int .i64 0, .int .i64 0, .slice none 0 0, .slice none 0 0, .int .i64 0, .slice none 0 0, .int .i64 0]) from ((H9.o.alloc #[.int .i64 0, .int .i64 0, .int .i64 0, .bool false, .int .i64 0, .int .i64 0, .int .i64 0, .int .i64 0, .slice none 0 0, .slice none 0 0, .slice none 0 0, .int .i64 0, .int .i64 0, .slice none 0 0, .slice none 0 0, .int .i64 0, .slice none 0 0, .int .i64 0] 34 hD2).setRow 0 rfl #[.int .i64 (1 + x4), .int .i64 a, .int .i64 (-1), .bool bar9, .int .i64 0, .int .i64 0, .int .i64 0, .int .i64 0, .slice none 0 0, .slice none 0 0, .slice none 0 0, .int .i64 0, .int .i64 0, .slice none 0 0, .slice none 0 0, .int .i64 0, .slice none 0 0, .int .i64 0])); first | refine gK H1 ?_ | refine gL H1 ?_ | refine gC H1 ?_
 clear H1; intro w1 H1; clear hD2; clear hbar9; obtain ⟨D3, hD2⟩ := nK w1.heap.size; go_wp2_with fail
 have H3 := kq (H1.o.alloc #[.int .i64 255, .int .i64 65535, .int .i64 15] 3 hD2); first | refine gK H3 ?_ | refine gL H3 ?_ | refine gC H3 ?_
 clear H3; intro w16 H3; clear hD2; refine (pickB_any B k _ 3 3 [255, 65535, 15] _ (by omega) (by omega) (H3.o.tapeAt 4 rfl) (H3.o.lit 0 [255, 65535, 15] rfl (by simp)).row (.inr ⟨_, rfl, H3.o.ne 0 4 rfl rfl (by decide) rfl rfl⟩)).mono ?_; rintro e w1 ⟨x1, rfl, hx1, htn, hgn, hsn⟩; have H1 := kq (H3.o.next 4 rfl htn hgn); clear htn hgn hsn; obtain ⟨x1a, x1b⟩ : (15 : Int) ≤ x1 ∧ x1 ≤ 65535 := by simp at hx1; omega
 clear hx1; have z1 := H1.o.cell 1 rfl 0 rfl; go_upto_block 0 with fail
 clear z1
 go_cut [] (fun wx => ∃ (s9 : Sg) (R9 : List Ro), s9.len 40 ∧ TQ B R9 s9.xp ∧ TQ B R9 s9.yp ∧ St B W (.cells (D1 + 1) #[.int .i64 0, .int .i64 0, .int .i64 0, .bool false, .int .i64 0, .int .i64 0, .int .i64 0, .int .i64 0, .slice none 0 0, .slice none 0 0, .slice none 0 0, .int .i64 0, .int .i64 0, .slice none 0 0, .slice none 0 0, .int .i64 0, .slice none 0 0, .int .i64 0] 34 :: .cells D2 s9.val 34 :: (s9.parts ++ .tape k :: l)) R9 wx)
 case first =>
  by_cases c1 : (1 + x4 : Int) = 1
  ·
   obtain ⟨c1c, c1d⟩ : (1 + x4 : Int) ≤ 1 ∧ (1 : Int) ≤ 1 + x4 := by omega
   have c1a : ((1 + x4 : Int) == (1)) = true := by simpa using c1
   have c1b : ((1 + x4 : Int) != (1)) = false := by simpa using c1
   have c1h := kq c1; clear c1; go_upto_region 5 with fail
   have H3 := kq H1.o.drew; refine wp_region_held_drew (S := (fun w' => w'.cell? ⟨D1, 0, none⟩ = some (.int .i64 sw) ∧ w'.cell? ⟨D1, 1, none⟩ = some (.int .i64 sh) ∧ w'.cell? ⟨D1, 2, none⟩ = some (.int .i64 sm))) (by kernel_rfl) ⟨H3.o.cell 3 rfl 0 rfl, H3.o.cell 3 rfl 1 rfl, H3.o.cell 3 rfl 2 rfl⟩ (fun hHeld => ?_); generalize w1.drew = k1 at *; refine tk 0 ?_; refine tk 3 ?_; refine tk 6 ?_; refine tk 7 ?_; refine tk 9 ?_; refine tk 10 ?_; refine tk 11 ?_; refine wpAnyH_ready (rs := [1, 4]) (by kernel_rfl) (by simp) (AllReadyH.cons (o := _) rfl (fun K hK => ?_) (AllReadyH.cons (o := _) rfl (fun K hK => ?_) AllReadyH.nil))
   ·
    obtain ⟨D3, hD2⟩ := nK k1.heap.size; have H4 := kq (H3.o.alloc #[.int .i64 1, .int .i64 3, .int .i64 2, .int .i64 5] 3 hD2); go_simp
    refine hK.out _ _ (by (try dsimp only); exact ⟨H4.o.cell 4 rfl 0 rfl, H4.o.cell 4 rfl 1 rfl, H4.o.cell 4 rfl 2 rfl⟩) ?_; clear hK K hHeld; intro hHeld; try simp only [pz]
    clear hD2; generalize (k1.alloc (.cells #[.int .i64 1, .int .i64 3, .int .i64 2, .int .i64 5] 3)) = k2 at *; refine wpAnyH_ready (rs := [2, 4]) (by kernel_rfl) (by simp) (AllReadyH.cons (o := _) rfl (fun K hK => ?_) (AllReadyH.cons (o := _) rfl (fun K hK => ?_) AllReadyH.nil))
    ·
     go_simp
     go_at_call 16
     refine (pickB_any B k _ 4 4 [1, 3, 2, 5] _ (by omega) (by omega) (H4.o.tapeAt 5 rfl) (H4.o.lit 0 [1, 3, 2, 5] rfl (by simp)).row (.inr ⟨_, rfl, H4.o.ne 0 5 rfl rfl (by decide) rfl rfl⟩)).mono ?_; rintro e w2 ⟨x2, rfl, hx1, htn, hgn, hsn⟩; have H5 := kq (H4.o.next 5 rfl htn hgn); clear htn hgn hsn; obtain ⟨x2a, x2b⟩ : (1 : Int) ≤ x2 ∧ x2 ≤ 5 := by simp at hx1; omega
     clear hx1; refine hK.out _ _ (by (try dsimp only); exact ⟨H5.o.cell 4 rfl 0 rfl, H5.o.cell 4 rfl 1 rfl, H5.o.cell 4 rfl 2 rfl⟩) ?_; clear hK K hHeld; intro hHeld; try simp only [pz]
     refine tk 13 ?_; refine rdy 4 fun K hK => ?_
     obtain ⟨D3, hD2⟩ := nK w2.heap.size; have H7 := kq (H5.o.alloc #[.int .i64 1, .int .i64 3, .int .i64 2] 3 hD2); go_simp
     refine hK.out _ _ (by (try dsimp only); exact ⟨H7.o.cell 5 rfl 0 rfl, H7.o.cell 5 rfl 1 rfl, H7.o.cell 5 rfl 2 rfl⟩) ?_; clear hK K hHeld; intro hHeld; try simp only [pz]
     clear hD2; generalize (w2.alloc (.cells #[.int .i64 1, .int .i64 3, .int .i64 2] 3)) = k32 at *; refine rdy 5 fun K hK => ?_
     go_simp
     go_at_call 16
     refine (pickB_any B k _ 3 3 [1, 3, 2] _ (by omega) (by omega) (H7.o.tapeAt 6 rfl) (H7.o.lit 0 [1, 3, 2] rfl (by simp)).row (.inr ⟨_, rfl, H7.o.ne 0 6 rfl rfl (by decide) rfl rfl⟩)).mono ?_; rintro e w2 ⟨x3, rfl, hx1, htn, hgn, hsn⟩; have H5 := kq (H7.o.next 6 rfl htn hgn); clear htn hgn hsn; obtain ⟨x3a, x3b⟩ : (1 : Int) ≤ x3 ∧ x3 ≤ 3 := by simp at hx1; omega
     clear hx1; refine hK.out _ _ (by (try dsimp only); exact ⟨H5.o.cell 5 rfl 0 rfl, H5.o.cell 5 rfl 1 rfl, H5.o.cell 5 rfl 2 rfl⟩) ?_; clear hK K hHeld; intro hHeld; try simp only [pz]
     refine rdy 8 fun K hK => ?_
     go_simp
     go_at_call 9
     refine (nextB_any B k _ _ (by omega) (H5.o.tapeAt 6 rfl)).mono ?_; rintro e w2 ⟨x5, rfl, x5a, x5b, htn, hgn, hsn⟩; have H7 := kq (H5.o.next 6 rfl htn hgn); clear htn hgn hsn; refine hK.out _ _ (by (try dsimp only); exact ⟨H7.o.cell 5 rfl 0 rfl, H7.o.cell 5 rfl 1 rfl, H7.o.cell 5 rfl 2 rfl⟩) ?_; clear hK K hHeld; intro hHeld; try simp only [pz]
     refine rdy 12 fun K hK => ?_
     go_simp
     go_at_call 17
     refine (edge_any B k _ _ (H7.o.tapeAt 6 rfl)).mono ?_; rintro e w2 ⟨e1_0, e1_1, rfl, ht, hg⟩; have H5 := kq (H7.o.next 6 rfl ht hg); clear ht hg; refine hK.out _ _ (by (try dsimp only); exact ⟨H5.o.cell 5 rfl 0 rfl, H5.o.cell 5 rfl 1 rfl, H5.o.cell 5 rfl 2 rfl⟩) ?_; clear hK K hHeld; intro hHeld; try simp only [pz]
     refine rdy 14 fun K hK => ?_
     have z1 := H5.o.cell 3 rfl 6 rfl; have z2 := H5.o.free 3 rfl 6; have H7 := kq (show St _ _ (_ :: _ :: _ :: .cells D2 #[.int .i64 (1 + x4), .int .i64 a, .int .i64 (-1), .bool bar9, .int .i64 0, .int .i64 0, .int .i64 x2, .int .i64 0, .slice none 0 0, .slice none 0 0, .slice none 0 0, .int .i64 0, .int .i64 0, .slice none 0 0, .slice none 0 0, .int .i64 0, .slice none 0 0, .int .i64 0] 34 :: _) _ _ from (H5.o.set 3 rfl 6 (.int .i64 x2))); go_simp
     refine hK.out _ _ (by (try dsimp only); exact ⟨H7.o.cell 5 rfl 0 rfl, H7.o.cell 5 rfl 1 rfl, H7.o.cell 5 rfl 2 rfl⟩) ?_; clear hK K hHeld; intro hHeld; try simp only [pz]
     clear z1 z2; generalize (w2.setCell ⟨D2, 6, none⟩ (.int .i64 x2)) = k3 at *; refine tk 15 ?_; refine rdy 16 fun K hK => ?_
     have z1 := H7.o.cell 3 rfl 7 rfl; have z2 := H7.o.free 3 rfl 7; have H5 := kq (show St _ _ (_ :: _ :: _ :: .cells D2 #[.int .i64 (1 + x4), .int .i64 a, .int .i64 (-1), .bool bar9, .int .i64 0, .int .i64 0, .int .i64 x2, .int .i64 x3, .slice none 0 0, .slice none 0 0, .slice none 0 0, .int .i64 0, .int .i64 0, .slice none 0 0, .slice none 0 0, .int .i64 0, .slice none 0 0, .int .i64 0] 34 :: _) _ _ from (H7.o.set 3 rfl 7 (.int .i64 x3))); go_simp
     refine hK.out _ _ (by (try dsimp only); exact ⟨H5.o.cell 5 rfl 0 rfl, H5.o.cell 5 rfl 1 rfl, H5.o.cell 5 rfl 2 rfl⟩) ?_; clear hK K hHeld; intro hHeld; try simp only [pz]
     clear z1 z2; generalize (k3.setCell ⟨D2, 7, none⟩ (.int .i64 x3)) = k3 at *; refine tk 17 ?_; refine rdy 18 fun K hK => ?_
     have z1 := H5.o.cell 3 rfl 17 rfl; have z2 := H5.o.free 3 rfl 17; have H7 := kq (show St _ _ (_ :: _ :: _ :: .cells D2 #[.int .i64 (1 + x4), .int .i64 a, .int .i64 (-1), .bool bar9, .int .i64 0, .int .i64 0, .int .i64 x2, .int .i64 x3, .slice none 0 0, .slice none 0 0, .slice none 0 0, .int .i64 0, .int .i64 0, .slice none 0 0, .slice none 0 0, .int .i64 0, .slice none 0 0, .int .i64 x1] 34 :: _) _ _ from (H5.o.set 3 rfl 17 (.int .i64 x1))); go_simp
     refine hK.out _ _ (by (try dsimp only); exact ⟨H7.o.cell 5 rfl 0 rfl, H7.o.cell 5 rfl 1 rfl, H7.o.cell 5 rfl 2 rfl⟩) ?_; clear hK K hHeld; intro hHeld; try simp only [pz]
     clear z1 z2; generalize (k3.setCell ⟨D2, 17, none⟩ (.int .i64 x1)) = k3 at *; refine tk 19 ?_; refine rdy 20 fun K hK => ?_
     have z1 := H7.o.cell 3 rfl 11 rfl; have z2 := H7.o.free 3 rfl 11; have H5 := kq (show St _ _ (_ :: _ :: _ :: .cells D2 #[.int .i64 (1 + x4), .int .i64 a, .int .i64 (-1), .bool bar9, .int .i64 0, .int .i64 0, .int .i64 x2, .int .i64 x3, .slice none 0 0, .slice none 0 0, .slice none 0 0, .int .i64 x5, .int .i64 0, .slice none 0 0, .slice none 0 0, .int .i64 0, .slice none 0 0, .int .i64 x1] 34 :: _) _ _ from (H7.o.set 3 rfl 11 (.int .i64 x5))); go_simp
     refine hK.out _ _ (by (try dsimp only); exact ⟨H5.o.cell 5 rfl 0 rfl, H5.o.cell 5 rfl 1 rfl, H5.o.cell 5 rfl 2 rfl⟩) ?_; clear hK K hHeld; intro hHeld; try simp only [pz]
     clear z1 z2; generalize (k3.setCell ⟨D2, 11, none⟩ (.int .i64 x5)) = k3 at *; refine tk 21 ?_; refine rdy 22 fun K hK => ?_
     have z1 := H5.o.cell 3 rfl 4 rfl; have z2 := H5.o.free 3 rfl 4; have z3 := H5.o.cell 3 rfl 5 rfl; have z4 := H5.o.free 3 rfl 5; have H7 := kq (show St _ _ (_ :: _ :: _ :: .cells D2 #[.int .i64 (1 + x4), .int .i64 a, .int .i64 (-1), .bool bar9, .int .i64 e1_0, .int .i64 e1_1, .int .i64 x2, .int .i64 x3, .slice none 0 0, .slice none 0 0, .slice none 0 0, .int .i64 x5, .int .i64 0, .slice none 0 0, .slice none 0 0, .int .i64 0, .slice none 0 0, .int .i64 x1] 34 :: _) _ _ from ((H5.o.set 3 rfl 4 (.int .i64 e1_0)).set 3 rfl 5 (.int .i64 e1_1))); go_simp
     refine hK.out _ _ (by (try dsimp only); exact ⟨H7.o.cell 5 rfl 0 rfl, H7.o.cell 5 rfl 1 rfl, H7.o.cell 5 rfl 2 rfl⟩) ?_; clear hK K hHeld; intro hHeld; try simp only [pz]
     clear z1 z2 z3 z4; generalize ((k3.setCell ⟨D2, 4, none⟩ (.int .i64 e1_0)).setCell ⟨D2, 5, none⟩ (.int .i64 e1_1)) = k3 at *; refine wpAnyH_done (by kernel_rfl) ?_ _; try clear hHeld
     obtain ⟨pr, hpr⟩ := nK (x2 * x3); obtain ⟨pr1, pr2⟩ : 0 ≤ pr ∧ pr ≤ 15 := by have g1 := Int.mul_le_mul (show x2 ≤ 5 by omega) (show x3 ≤ 3 by omega) (by omega) (by omega); have g2 := Int.mul_nonneg (show 0 ≤ x2 by omega) (show 0 ≤ x3 by omega); omega
     have wpr : IntKind.i64.wrap (x2 * x3) = pr := by rw [hpr]; exact IntWalk.i64_in _ (by omega)
     clear hpr; have z64 := H7.o.cell 3 rfl 6 rfl; have z1 := H7.o.cell 3 rfl 7 rfl; go_wp2_with fail
     clear z64 z1; refine (weights_any B k _ _ (by omega) (H7.o.tapeAt 6 rfl)).mono ?_; rintro e w2 ⟨wv1, wl1, rfl, hlen, hin, ho, ht, hg⟩; have H5 := kq (H7.o.add (H7.o.next 6 rfl ht hg) ho); have HWLwl1 := kq hlen; have HWBwl1 := kq hin; obtain ⟨wv1a, wv1c, rfl, -⟩ := ho.slc; clear hlen hin ho ht hg; have z1 := H5.o.cell 4 rfl 8 rfl; have z2 := H5.o.free 4 rfl 8; go_wp2_with fail
     clear z1 z2; have H7 := kq (show St _ _ (_ :: _ :: _ :: _ :: .cells D2 #[.int .i64 (1 + x4), .int .i64 a, .int .i64 (-1), .bool bar9, .int .i64 e1_0, .int .i64 e1_1, .int .i64 x2, .int .i64 x3, .slice wv1a wl1.length wv1c, .slice none 0 0, .slice none 0 0, .int .i64 x5, .int .i64 0, .slice none 0 0, .slice none 0 0, .int .i64 0, .slice none 0 0, .int .i64 x1] 34 :: _) _ _ from (H5.o.set 4 rfl 8 (.slice wv1a wl1.length wv1c))); have H5 := kq (H7.o.arrNilE 59 2); have H7 := kq (H5.o.arrNilE 59 2); have H5 := kq (H7.o.grow (Below.refl _ _) (Own.nil _ _)); have H7 := kq (H5.o.grow (Below.refl _ _) (Own.nil _ _)); have H5 := kq (H7.o.arrNilE 61 2); have hfin := St.pickT (l0 := [_, _, _, _, _, _, _, _, _, _, _, _, _]) (T := l) (l' := [_, _, _, _, _, _, _, _, _]) H5.o [10, 9, 3, 4, 5, 1, 2, 0, 12] rfl (by decide); have hHWLwl1 := HWLwl1.o
     go_meet
     exact ⟨⟨(1 + x4), a, (-1), bar9, e1_0, e1_1, x2, x3, wv1a, wv1c, wl1, none, 0, [], none, 0, [], x5, 0, none, 0, 0, [], none, 0, 0, [], 0, none, 0, 0, [], x1⟩, rs, Sg.ln, TQ.nilT _ _, TQ.nilT _ _, hfin⟩
    obtain ⟨D3, hD2⟩ := nK k2.heap.size; have H5 := kq (H4.o.alloc #[.int .i64 1, .int .i64 3, .int .i64 2] 3 hD2); go_simp
    refine hK.out _ _ (by (try dsimp only); exact ⟨H5.o.cell 5 rfl 0 rfl, H5.o.cell 5 rfl 1 rfl, H5.o.cell 5 rfl 2 rfl⟩) ?_; clear hK K hHeld; intro hHeld; try simp only [pz]
    clear hD2; generalize (k2.alloc (.cells #[.int .i64 1, .int .i64 3, .int .i64 2] 3)) = k2 at *; refine rdy 2 fun K hK => ?_
    go_simp
    go_at_call 16
    refine (pickB_any B k _ 4 4 [1, 3, 2, 5] _ (by omega) (by omega) (H5.o.tapeAt 6 rfl) (H5.o.lit 1 [1, 3, 2, 5] rfl (by simp)).row (.inr ⟨_, rfl, H5.o.ne 1 6 rfl rfl (by decide) rfl rfl⟩)).mono ?_; rintro e w2 ⟨x2, rfl, hx1, htn, hgn, hsn⟩; have H4 := kq (H5.o.next 6 rfl htn hgn); clear htn hgn hsn; obtain ⟨x2a, x2b⟩ : (1 : Int) ≤ x2 ∧ x2 ≤ 5 := by simp at hx1; omega
    clear hx1; refine hK.out _ _ (by (try dsimp only); exact ⟨H4.o.cell 5 rfl 0 rfl, H4.o.cell 5 rfl 1 rfl, H4.o.cell 5 rfl 2 rfl⟩) ?_; clear hK K hHeld; intro hHeld; try simp only [pz]
    refine tk 13 ?_; refine rdy 5 fun K hK => ?_
    go_simp
    go_at_call 16
    refine (pickB_any B k _ 3 3 [1, 3, 2] _ (by omega) (by omega) (H4.o.tapeAt 6 rfl) (H4.o.lit 0 [1, 3, 2] rfl (by simp)).row (.inr ⟨_, rfl, H4.o.ne 0 6 rfl rfl (by decide) rfl rfl⟩)).mono ?_; rintro e w2 ⟨x3, rfl, hx1, htn, hgn, hsn⟩; have H5 := kq (H4.o.next 6 rfl htn hgn); clear htn hgn hsn; obtain ⟨x3a, x3b⟩ : (1 : Int) ≤ x3 ∧ x3 ≤ 3 := by simp at hx1; omega
    clear hx1; refine hK.out _ _ (by (try dsimp only); exact ⟨H5.o.cell 5 rfl 0 rfl, H5.o.cell 5 rfl 1 rfl, H5.o.cell 5 rfl 2 rfl⟩) ?_; clear hK K hHeld; intro hHeld; try simp only [pz]
    refine rdy 8 fun K hK => ?_
    go_simp
    go_at_call 9
    refine (nextB_any B k _ _ (by omega) (H5.o.tapeAt 6 rfl)).mono ?_; rintro e w2 ⟨x5, rfl, x5a, x5b, htn, hgn, hsn⟩; have H4 := kq (H5.o.next 6 rfl htn hgn); clear htn hgn hsn; refine hK.out _ _ (by (try dsimp only); exact ⟨H4.o.cell 5 rfl 0 rfl, H4.o.cell 5 rfl 1 rfl, H4.o.cell 5 rfl 2 rfl⟩) ?_; clear hK K hHeld; intro hHeld; try simp only [pz]
    refine rdy 12 fun K hK => ?_
    go_simp
    go_at_call 17
    refine (edge_any B k _ _ (H4.o.tapeAt 6 rfl)).mono ?_; rintro e w2 ⟨e1_0, e1_1, rfl, ht, hg⟩; have H5 := kq (H4.o.next 6 rfl ht hg); clear ht hg; refine hK.out _ _ (by (try dsimp only); exact ⟨H5.o.cell 5 rfl 0 rfl, H5.o.cell 5 rfl 1 rfl, H5.o.cell 5 rfl 2 rfl⟩) ?_; clear hK K hHeld; intro hHeld; try simp only [pz]
    refine rdy 14 fun K hK => ?_
    have z1 := H5.o.cell 3 rfl 6 rfl; have z2 := H5.o.free 3 rfl 6; have H4 := kq (show St _ _ (_ :: _ :: _ :: .cells D2 #[.int .i64 (1 + x4), .int .i64 a, .int .i64 (-1), .bool bar9, .int .i64 0, .int .i64 0, .int .i64 x2, .int .i64 0, .slice none 0 0, .slice none 0 0, .slice none 0 0, .int .i64 0, .int .i64 0, .slice none 0 0, .slice none 0 0, .int .i64 0, .slice none 0 0, .int .i64 0] 34 :: _) _ _ from (H5.o.set 3 rfl 6 (.int .i64 x2))); go_simp
    refine hK.out _ _ (by (try dsimp only); exact ⟨H4.o.cell 5 rfl 0 rfl, H4.o.cell 5 rfl 1 rfl, H4.o.cell 5 rfl 2 rfl⟩) ?_; clear hK K hHeld; intro hHeld; try simp only [pz]
    clear z1 z2; generalize (w2.setCell ⟨D2, 6, none⟩ (.int .i64 x2)) = k2 at *; refine tk 15 ?_; refine rdy 16 fun K hK => ?_
    have z1 := H4.o.cell 3 rfl 7 rfl; have z2 := H4.o.free 3 rfl 7; have H5 := kq (show St _ _ (_ :: _ :: _ :: .cells D2 #[.int .i64 (1 + x4), .int .i64 a, .int .i64 (-1), .bool bar9, .int .i64 0, .int .i64 0, .int .i64 x2, .int .i64 x3, .slice none 0 0, .slice none 0 0, .slice none 0 0, .int .i64 0, .int .i64 0, .slice none 0 0, .slice none 0 0, .int .i64 0, .slice none 0 0, .int .i64 0] 34 :: _) _ _ from (H4.o.set 3 rfl 7 (.int .i64 x3))); go_simp
    refine hK.out _ _ (by (try dsimp only); exact ⟨H5.o.cell 5 rfl 0 rfl, H5.o.cell 5 rfl 1 rfl, H5.o.cell 5 rfl 2 rfl⟩) ?_; clear hK K hHeld; intro hHeld; try simp only [pz]
    clear z1 z2; generalize (k2.setCell ⟨D2, 7, none⟩ (.int .i64 x3)) = k2 at *; refine tk 17 ?_; refine rdy 18 fun K hK => ?_
    have z1 := H5.o.cell 3 rfl 17 rfl; have z2 := H5.o.free 3 rfl 17; have H4 := kq (show St _ _ (_ :: _ :: _ :: .cells D2 #[.int .i64 (1 + x4), .int .i64 a, .int .i64 (-1), .bool bar9, .int .i64 0, .int .i64 0, .int .i64 x2, .int .i64 x3, .slice none 0 0, .slice none 0 0, .slice none 0 0, .int .i64 0, .int .i64 0, .slice none 0 0, .slice none 0 0, .int .i64 0, .slice none 0 0, .int .i64 x1] 34 :: _) _ _ from (H5.o.set 3 rfl 17 (.int .i64 x1))); go_simp
    refine hK.out _ _ (by (try dsimp only); exact ⟨H4.o.cell 5 rfl 0 rfl, H4.o.cell 5 rfl 1 rfl, H4.o.cell 5 rfl 2 rfl⟩) ?_; clear hK K hHeld; intro hHeld; try simp only [pz]
    clear z1 z2; generalize (k2.setCell ⟨D2, 17, none⟩ (.int .i64 x1)) = k2 at *; refine tk 19 ?_; refine rdy 20 fun K hK => ?_
    have z1 := H4.o.cell 3 rfl 11 rfl; have z2 := H4.o.free 3 rfl 11; have H5 := kq (show St _ _ (_ :: _ :: _ :: .cells D2 #[.int .i64 (1 + x4), .int .i64 a, .int .i64 (-1), .bool bar9, .int .i64 0, .int .i64 0, .int .i64 x2, .int .i64 x3, .slice none 0 0, .slice none 0 0, .slice none 0 0, .int .i64 x5, .int .i64 0, .slice none 0 0, .slice none 0 0, .int .i64 0, .slice none 0 0, .int .i64 x1] 34 :: _) _ _ from (H4.o.set 3 rfl 11 (.int .i64 x5))); go_simp
    refine hK.out _ _ (by (try dsimp only); exact ⟨H5.o.cell 5 rfl 0 rfl, H5.o.cell 5 rfl 1 rfl, H5.o.cell 5 rfl 2 rfl⟩) ?_; clear hK K hHeld; intro hHeld; try simp only [pz]
    clear z1 z2; generalize (k2.setCell ⟨D2, 11, none⟩ (.int .i64 x5)) = k2 at *; refine tk 21 ?_; refine rdy 22 fun K hK => ?_
    have z1 := H5.o.cell 3 rfl 4 rfl; have z2 := H5.o.free 3 rfl 4; have z3 := H5.o.cell 3 rfl 5 rfl; have z4 := H5.o.free 3 rfl 5; have H4 := kq (show St _ _ (_ :: _ :: _ :: .cells D2 #[.int .i64 (1 + x4), .int .i64 a, .int .i64 (-1), .bool bar9, .int .i64 e1_0, .int .i64 e1_1, .int .i64 x2, .int .i64 x3, .slice none 0 0, .slice none 0 0, .slice none 0 0, .int .i64 x5, .int .i64 0, .slice none 0 0, .slice none 0 0, .int .i64 0, .slice none 0 0, .int .i64 x1] 34 :: _) _ _ from ((H5.o.set 3 rfl 4 (.int .i64 e1_0)).set 3 rfl 5 (.int .i64 e1_1))); go_simp
    refine hK.out _ _ (by (try dsimp only); exact ⟨H4.o.cell 5 rfl 0 rfl, H4.o.cell 5 rfl 1 rfl, H4.o.cell 5 rfl 2 rfl⟩) ?_; clear hK K hHeld; intro hHeld; try simp only [pz]
    clear z1 z2 z3 z4; generalize ((k2.setCell ⟨D2, 4, none⟩ (.int .i64 e1_0)).setCell ⟨D2, 5, none⟩ (.int .i64 e1_1)) = k2 at *; refine wpAnyH_done (by kernel_rfl) ?_ _; try clear hHeld
    obtain ⟨pr, hpr⟩ := nK (x2 * x3); obtain ⟨pr1, pr2⟩ : 0 ≤ pr ∧ pr ≤ 15 := by have g1 := Int.mul_le_mul (show x2 ≤ 5 by omega) (show x3 ≤ 3 by omega) (by omega) (by omega); have g2 := Int.mul_nonneg (show 0 ≤ x2 by omega) (show 0 ≤ x3 by omega); omega
    have wpr : IntKind.i64.wrap (x2 * x3) = pr := by rw [hpr]; exact IntWalk.i64_in _ (by omega)
    clear hpr; have z1 := H4.o.cell 3 rfl 6 rfl; have z2 := H4.o.cell 3 rfl 7 rfl; go_wp2_with fail
    clear z1 z2; refine (weights_any B k _ _ (by omega) (H4.o.tapeAt 6 rfl)).mono ?_; rintro e w2 ⟨wv1, wl1, rfl, hlen, hin, ho, ht, hg⟩; have H5 := kq (H4.o.add (H4.o.next 6 rfl ht hg) ho); have HWLwl1 := kq hlen; have HWBwl1 := kq hin; obtain ⟨wv1a, wv1c, rfl, -⟩ := ho.slc; clear hlen hin ho ht hg; have z1 := H5.o.cell 4 rfl 8 rfl; have z2 := H5.o.free 4 rfl 8; go_wp2_with fail
    clear z1 z2; have H4 := kq (show St _ _ (_ :: _ :: _ :: _ :: .cells D2 #[.int .i64 (1 + x4), .int .i64 a, .int .i64 (-1), .bool bar9, .int .i64 e1_0, .int .i64 e1_1, .int .i64 x2, .int .i64 x3, .slice wv1a wl1.length wv1c, .slice none 0 0, .slice none 0 0, .int .i64 x5, .int .i64 0, .slice none 0 0, .slice none 0 0, .int .i64 0, .slice none 0 0, .int .i64 x1] 34 :: _) _ _ from (H5.o.set 4 rfl 8 (.slice wv1a wl1.length wv1c))); have H5 := kq (H4.o.arrNilE 59 2); have H4 := kq (H5.o.arrNilE 59 2); have H5 := kq (H4.o.grow (Below.refl _ _) (Own.nil _ _)); have H4 := kq (H5.o.grow (Below.refl _ _) (Own.nil _ _)); have H128 := kq (H4.o.arrNilE 61 2); have hfin := St.pickT (l0 := [_, _, _, _, _, _, _, _, _, _, _, _, _]) (T := l) (l' := [_, _, _, _, _, _, _, _, _]) H128.o [10, 9, 3, 4, 5, 1, 2, 0, 12] rfl (by decide); have hHWLwl1 := HWLwl1.o
    go_meet
    exact ⟨⟨(1 + x4), a, (-1), bar9, e1_0, e1_1, x2, x3, wv1a, wv1c, wl1, none, 0, [], none, 0, [], x5, 0, none, 0, 0, [], none, 0, 0, [], 0, none, 0, 0, [], x1⟩, rs, Sg.ln, TQ.nilT _ _, TQ.nilT _ _, hfin⟩
   obtain ⟨D3, hD2⟩ := nK k1.heap.size; have H4 := kq (H3.o.alloc #[.int .i64 1, .int .i64 3, .int .i64 2] 3 hD2); go_simp
   refine hK.out _ _ (by (try dsimp only); exact ⟨H4.o.cell 4 rfl 0 rfl, H4.o.cell 4 rfl 1 rfl, H4.o.cell 4 rfl 2 rfl⟩) ?_; clear hK K hHeld; intro hHeld; try simp only [pz]
   clear hD2; generalize (k1.alloc (.cells #[.int .i64 1, .int .i64 3, .int .i64 2] 3)) = k1 at *; refine rdy 1 fun K hK => ?_
   obtain ⟨D3, hD2⟩ := nK k1.heap.size; have H3 := kq (H4.o.alloc #[.int .i64 1, .int .i64 3, .int .i64 2, .int .i64 5] 3 hD2); go_simp
   refine hK.out _ _ (by (try dsimp only); exact ⟨H3.o.cell 5 rfl 0 rfl, H3.o.cell 5 rfl 1 rfl, H3.o.cell 5 rfl 2 rfl⟩) ?_; clear hK K hHeld; intro hHeld; try simp only [pz]
   clear hD2; generalize (k1.alloc (.cells #[.int .i64 1, .int .i64 3, .int .i64 2, .int .i64 5] 3)) = k1 at *; refine rdy 2 fun K hK => ?_
   go_simp
   go_at_call 16
   refine (pickB_any B k _ 4 4 [1, 3, 2, 5] _ (by omega) (by omega) (H3.o.tapeAt 6 rfl) (H3.o.lit 0 [1, 3, 2, 5] rfl (by simp)).row (.inr ⟨_, rfl, H3.o.ne 0 6 rfl rfl (by decide) rfl rfl⟩)).mono ?_; rintro e w2 ⟨x2, rfl, hx1, htn, hgn, hsn⟩; have H4 := kq (H3.o.next 6 rfl htn hgn); clear htn hgn hsn; obtain ⟨x2a, x2b⟩ : (1 : Int) ≤ x2 ∧ x2 ≤ 5 := by simp at hx1; omega
   clear hx1; refine hK.out _ _ (by (try dsimp only); exact ⟨H4.o.cell 5 rfl 0 rfl, H4.o.cell 5 rfl 1 rfl, H4.o.cell 5 rfl 2 rfl⟩) ?_; clear hK K hHeld; intro hHeld; try simp only [pz]
   refine tk 13 ?_; refine rdy 5 fun K hK => ?_
   go_simp
   go_at_call 16
   refine (pickB_any B k _ 3 3 [1, 3, 2] _ (by omega) (by omega) (H4.o.tapeAt 6 rfl) (H4.o.lit 1 [1, 3, 2] rfl (by simp)).row (.inr ⟨_, rfl, H4.o.ne 1 6 rfl rfl (by decide) rfl rfl⟩)).mono ?_; rintro e w2 ⟨x3, rfl, hx1, htn, hgn, hsn⟩; have H3 := kq (H4.o.next 6 rfl htn hgn); clear htn hgn hsn; obtain ⟨x3a, x3b⟩ : (1 : Int) ≤ x3 ∧ x3 ≤ 3 := by simp at hx1; omega
   clear hx1; refine hK.out _ _ (by (try dsimp only); exact ⟨H3.o.cell 5 rfl 0 rfl, H3.o.cell 5 rfl 1 rfl, H3.o.cell 5 rfl 2 rfl⟩) ?_; clear hK K hHeld; intro hHeld; try simp only [pz]
   refine rdy 8 fun K hK => ?_
   go_simp
   go_at_call 9
   refine (nextB_any B k _ _ (by omega) (H3.o.tapeAt 6 rfl)).mono ?_; rintro e w2 ⟨x5, rfl, x5a, x5b, htn, hgn, hsn⟩; have H4 := kq (H3.o.next 6 rfl htn hgn); clear htn hgn hsn; refine hK.out _ _ (by (try dsimp only); exact ⟨H4.o.cell 5 rfl 0 rfl, H4.o.cell 5 rfl 1 rfl, H4.o.cell 5 rfl 2 rfl⟩) ?_; clear hK K hHeld; intro hHeld; try simp only [pz]
   refine rdy 12 fun K hK => ?_
   go_simp
   go_at_call 17
   refine (edge_any B k _ _ (H4.o.tapeAt 6 rfl)).mono ?_; rintro e w2 ⟨e1_0, e1_1, rfl, ht, hg⟩; have H3 := kq (H4.o.next 6 rfl ht hg); clear ht hg; refine hK.out _ _ (by (try dsimp only); exact ⟨H3.o.cell 5 rfl 0 rfl, H3.o.cell 5 rfl 1 rfl, H3.o.cell 5 rfl 2 rfl⟩) ?_; clear hK K hHeld; intro hHeld; try simp only [pz]
   refine rdy 14 fun K hK => ?_
   have z1 := H3.o.cell 3 rfl 6 rfl; have z2 := H3.o.free 3 rfl 6; have H4 := kq (show St _ _ (_ :: _ :: _ :: .cells D2 #[.int .i64 (1 + x4), .int .i64 a, .int .i64 (-1), .bool bar9, .int .i64 0, .int .i64 0, .int .i64 x2, .int .i64 0, .slice none 0 0, .slice none 0 0, .slice none 0 0, .int .i64 0, .int .i64 0, .slice none 0 0, .slice none 0 0, .int .i64 0, .slice none 0 0, .int .i64 0] 34 :: _) _ _ from (H3.o.set 3 rfl 6 (.int .i64 x2))); go_simp
   refine hK.out _ _ (by (try dsimp only); exact ⟨H4.o.cell 5 rfl 0 rfl, H4.o.cell 5 rfl 1 rfl, H4.o.cell 5 rfl 2 rfl⟩) ?_; clear hK K hHeld; intro hHeld; try simp only [pz]
   clear z1 z2; generalize (w2.setCell ⟨D2, 6, none⟩ (.int .i64 x2)) = k1 at *; refine tk 15 ?_; refine rdy 16 fun K hK => ?_
   have z1 := H4.o.cell 3 rfl 7 rfl; have z2 := H4.o.free 3 rfl 7; have H3 := kq (show St _ _ (_ :: _ :: _ :: .cells D2 #[.int .i64 (1 + x4), .int .i64 a, .int .i64 (-1), .bool bar9, .int .i64 0, .int .i64 0, .int .i64 x2, .int .i64 x3, .slice none 0 0, .slice none 0 0, .slice none 0 0, .int .i64 0, .int .i64 0, .slice none 0 0, .slice none 0 0, .int .i64 0, .slice none 0 0, .int .i64 0] 34 :: _) _ _ from (H4.o.set 3 rfl 7 (.int .i64 x3))); go_simp
   refine hK.out _ _ (by (try dsimp only); exact ⟨H3.o.cell 5 rfl 0 rfl, H3.o.cell 5 rfl 1 rfl, H3.o.cell 5 rfl 2 rfl⟩) ?_; clear hK K hHeld; intro hHeld; try simp only [pz]
   clear z1 z2; generalize (k1.setCell ⟨D2, 7, none⟩ (.int .i64 x3)) = k1 at *; refine tk 17 ?_; refine rdy 18 fun K hK => ?_
   have z1 := H3.o.cell 3 rfl 17 rfl; have z2 := H3.o.free 3 rfl 17; have H4 := kq (show St _ _ (_ :: _ :: _ :: .cells D2 #[.int .i64 (1 + x4), .int .i64 a, .int .i64 (-1), .bool bar9, .int .i64 0, .int .i64 0, .int .i64 x2, .int .i64 x3, .slice none 0 0, .slice none 0 0, .slice none 0 0, .int .i64 0, .int .i64 0, .slice none 0 0, .slice none 0 0, .int .i64 0, .slice none 0 0, .int .i64 x1] 34 :: _) _ _ from (H3.o.set 3 rfl 17 (.int .i64 x1))); go_simp
   refine hK.out _ _ (by (try dsimp only); exact ⟨H4.o.cell 5 rfl 0 rfl, H4.o.cell 5 rfl 1 rfl, H4.o.cell 5 rfl 2 rfl⟩) ?_; clear hK K hHeld; intro hHeld; try simp only [pz]
   clear z1 z2; generalize (k1.setCell ⟨D2, 17, none⟩ (.int .i64 x1)) = k1 at *; refine tk 19 ?_; refine rdy 20 fun K hK => ?_
   have z1 := H4.o.cell 3 rfl 11 rfl; have z2 := H4.o.free 3 rfl 11; have H3 := kq (show St _ _ (_ :: _ :: _ :: .cells D2 #[.int .i64 (1 + x4), .int .i64 a, .int .i64 (-1), .bool bar9, .int .i64 0, .int .i64 0, .int .i64 x2, .int .i64 x3, .slice none 0 0, .slice none 0 0, .slice none 0 0, .int .i64 x5, .int .i64 0, .slice none 0 0, .slice none 0 0, .int .i64 0, .slice none 0 0, .int .i64 x1] 34 :: _) _ _ from (H4.o.set 3 rfl 11 (.int .i64 x5))); go_simp
   refine hK.out _ _ (by (try dsimp only); exact ⟨H3.o.cell 5 rfl 0 rfl, H3.o.cell 5 rfl 1 rfl, H3.o.cell 5 rfl 2 rfl⟩) ?_; clear hK K hHeld; intro hHeld; try simp only [pz]
   clear z1 z2; generalize (k1.setCell ⟨D2, 11, none⟩ (.int .i64 x5)) = k1 at *; refine tk 21 ?_; refine rdy 22 fun K hK => ?_
   have z1 := H3.o.cell 3 rfl 4 rfl; have z2 := H3.o.free 3 rfl 4; have z3 := H3.o.cell 3 rfl 5 rfl; have z4 := H3.o.free 3 rfl 5; have H4 := kq (show St _ _ (_ :: _ :: _ :: .cells D2 #[.int .i64 (1 + x4), .int .i64 a, .int .i64 (-1), .bool bar9, .int .i64 e1_0, .int .i64 e1_1, .int .i64 x2, .int .i64 x3, .slice none 0 0, .slice none 0 0, .slice none 0 0, .int .i64 x5, .int .i64 0, .slice none 0 0, .slice none 0 0, .int .i64 0, .slice none 0 0, .int .i64 x1] 34 :: _) _ _ from ((H3.o.set 3 rfl 4 (.int .i64 e1_0)).set 3 rfl 5 (.int .i64 e1_1))); go_simp
   refine hK.out _ _ (by (try dsimp only); exact ⟨H4.o.cell 5 rfl 0 rfl, H4.o.cell 5 rfl 1 rfl, H4.o.cell 5 rfl 2 rfl⟩) ?_; clear hK K hHeld; intro hHeld; try simp only [pz]
   clear z1 z2 z3 z4; generalize ((k1.setCell ⟨D2, 4, none⟩ (.int .i64 e1_0)).setCell ⟨D2, 5, none⟩ (.int .i64 e1_1)) = k1 at *; refine wpAnyH_done (by kernel_rfl) ?_ _; try clear hHeld
   obtain ⟨pr, hpr⟩ := nK (x2 * x3); obtain ⟨pr1, pr2⟩ : 0 ≤ pr ∧ pr ≤ 15 := by have g1 := Int.mul_le_mul (show x2 ≤ 5 by omega) (show x3 ≤ 3 by omega) (by omega) (by omega); have g2 := Int.mul_nonneg (show 0 ≤ x2 by omega) (show 0 ≤ x3 by omega); omega
   have wpr : IntKind.i64.wrap (x2 * x3) = pr := by rw [hpr]; exact IntWalk.i64_in _ (by omega)
   clear hpr; have z1 := H4.o.cell 3 rfl 6 rfl; have z2 := H4.o.cell 3 rfl 7 rfl; go_wp2_with fail
   clear z1 z2; refine (weights_any B k _ _ (by omega) (H4.o.tapeAt 6 rfl)).mono ?_; rintro e w2 ⟨wv1, wl1, rfl, hlen, hin, ho, ht, hg⟩; have H3 := kq (H4.o.add (H4.o.next 6 rfl ht hg) ho); have HWLwl1 := kq hlen; have HWBwl1 := kq hin; obtain ⟨wv1a, wv1c, rfl, -⟩ := ho.slc; clear hlen hin ho ht hg; have z1 := H3.o.cell 4 rfl 8 rfl; have z2 := H3.o.free 4 rfl 8; go_wp2_with fail
   clear z1 z2; have H4 := kq (show St _ _ (_ :: _ :: _ :: _ :: .cells D2 #[.int .i64 (1 + x4), .int .i64 a, .int .i64 (-1), .bool bar9, .int .i64 e1_0, .int .i64 e1_1, .int .i64 x2, .int .i64 x3, .slice wv1a wl1.length wv1c, .slice none 0 0, .slice none 0 0, .int .i64 x5, .int .i64 0, .slice none 0 0, .slice none 0 0, .int .i64 0, .slice none 0 0, .int .i64 x1] 34 :: _) _ _ from (H3.o.set 4 rfl 8 (.slice wv1a wl1.length wv1c))); have H3 := kq (H4.o.arrNilE 59 2); have H4 := kq (H3.o.arrNilE 59 2); have H3 := kq (H4.o.grow (Below.refl _ _) (Own.nil _ _)); have H4 := kq (H3.o.grow (Below.refl _ _) (Own.nil _ _)); have H3 := kq (H4.o.arrNilE 61 2); have hfin := St.pickT (l0 := [_, _, _, _, _, _, _, _, _, _, _, _, _]) (T := l) (l' := [_, _, _, _, _, _, _, _, _]) H3.o [10, 9, 3, 4, 5, 1, 2, 0, 12] rfl (by decide); have hHWLwl1 := HWLwl1.o
   go_meet
   exact ⟨⟨(1 + x4), a, (-1), bar9, e1_0, e1_1, x2, x3, wv1a, wv1c, wl1, none, 0, [], none, 0, [], x5, 0, none, 0, 0, [], none, 0, 0, [], 0, none, 0, 0, [], x1⟩, rs, Sg.ln, TQ.nilT _ _, TQ.nilT _ _, hfin⟩
  have c1a : ((1 + x4 : Int) == (1)) = false := by simpa using c1
  have c1b : ((1 + x4 : Int) != (1)) = true := by simpa using c1
  have c1h := kq c1; clear c1; by_cases c1 : (1 + x4 : Int) = 2
  ·
   obtain ⟨c1c, c1d⟩ : (1 + x4 : Int) ≤ 2 ∧ (2 : Int) ≤ 1 + x4 := by omega
   have c1a : ((1 + x4 : Int) == (2)) = true := by simpa using c1
   have c1b : ((1 + x4 : Int) != (2)) = false := by simpa using c1
   have c1h := kq c1; clear c1; go_upto_region 8 with fail
   have H3 := kq H1.o.drew; refine wp_region_held_drew (S := (fun w' => w'.cell? ⟨D1, 0, none⟩ = some (.int .i64 sw) ∧ w'.cell? ⟨D1, 1, none⟩ = some (.int .i64 sh) ∧ w'.cell? ⟨D1, 2, none⟩ = some (.int .i64 sm))) (by kernel_rfl) ⟨H3.o.cell 3 rfl 0 rfl, H3.o.cell 3 rfl 1 rfl, H3.o.cell 3 rfl 2 rfl⟩ (fun hHeld => ?_); generalize w1.drew = k1 at *; refine tk 0 ?_; refine tk 1 ?_; refine tk 5 ?_; refine tk 6 ?_; refine tk 10 ?_; refine tk 11 ?_; refine tk 13 ?_; refine tk 15 ?_; refine tk 16 ?_; refine tk 17 ?_; refine rdy 2 fun K hK => ?_
   go_simp
   go_at_call 9
   refine (nextB_any B k _ _ (by omega) (H3.o.tapeAt 4 rfl)).mono ?_; rintro e w2 ⟨x2, rfl, x2a, x2b, htn, hgn, hsn⟩; have H4 := kq (H3.o.next 4 rfl htn hgn); clear htn hgn hsn; have wnx1 : IntKind.i64.wrap (1 + x2) = 1 + x2 := IntWalk.i64_in _ (by omega); refine hK.out _ _ (by (try dsimp only); exact ⟨H4.o.cell 3 rfl 0 rfl, H4.o.cell 3 rfl 1 rfl, H4.o.cell 3 rfl 2 rfl⟩) ?_; clear hK K hHeld; intro hHeld; try simp only [pz]
   refine tk 3 ?_; refine rdy 4 fun K hK => ?_
   go_simp
   go_at_call 18
   refine (weights_any B k _ _ (by omega) (H4.o.tapeAt 4 rfl)).mono ?_; rintro e w2 ⟨wv1, wl1, rfl, hlen, hin, ho, ht, hg⟩; have H3 := kq (H4.o.add (H4.o.next 4 rfl ht hg) ho); have HWLwl1 := kq hlen; have HWBwl1 := kq hin; obtain ⟨wv1a, wv1c, rfl, -⟩ := ho.slc; clear hlen hin ho ht hg; refine hK.out _ _ (by (try dsimp only); exact ⟨H3.o.cell 4 rfl 0 rfl, H3.o.cell 4 rfl 1 rfl, H3.o.cell 4 rfl 2 rfl⟩) ?_; clear hK K hHeld; intro hHeld; try simp only [pz]
   refine tk 19 ?_; refine rdy 7 fun K hK => ?_
   go_simp
   go_at_call 9
   refine (nextB_any B k _ _ (by omega) (H3.o.tapeAt 5 rfl)).mono ?_; rintro e w2 ⟨x2, rfl, x2a, x2b, htn, hgn, hsn⟩; have H4 := kq (H3.o.next 5 rfl htn hgn); clear htn hgn hsn; have wnx1 : IntKind.i64.wrap (1 + x2) = 1 + x2 := IntWalk.i64_in _ (by omega); refine hK.out _ _ (by (try dsimp only); exact ⟨H4.o.cell 4 rfl 0 rfl, H4.o.cell 4 rfl 1 rfl, H4.o.cell 4 rfl 2 rfl⟩) ?_; clear hK K hHeld; intro hHeld; try simp only [pz]
   refine tk 8 ?_; refine rdy 9 fun K hK => ?_
   go_simp
   go_at_call 18
   refine (weights_any B k _ _ (by omega) (H4.o.tapeAt 5 rfl)).mono ?_; rintro e w2 ⟨wv2, wl2, rfl, hlen, hin, ho, ht, hg⟩; have H3 := kq (H4.o.add (H4.o.next 5 rfl ht hg) ho); have HWLwl2 := kq hlen; have HWBwl1 := kq hin; obtain ⟨wv2a, wv2c, rfl, -⟩ := ho.slc; clear hlen hin ho ht hg; refine hK.out _ _ (by (try dsimp only); exact ⟨H3.o.cell 5 rfl 0 rfl, H3.o.cell 5 rfl 1 rfl, H3.o.cell 5 rfl 2 rfl⟩) ?_; clear hK K hHeld; intro hHeld; try simp only [pz]
   refine rdy 12 fun K hK => ?_
   go_simp
   go_at_call 9
   refine (nextB_any B k _ _ (by omega) (H3.o.tapeAt 6 rfl)).mono ?_; rintro e w2 ⟨x2, rfl, x2a, x2b, htn, hgn, hsn⟩; have H4 := kq (H3.o.next 6 rfl htn hgn); clear htn hgn hsn; refine hK.out _ _ (by (try dsimp only); exact ⟨H4.o.cell 5 rfl 0 rfl, H4.o.cell 5 rfl 1 rfl, H4.o.cell 5 rfl 2 rfl⟩) ?_; clear hK K hHeld; intro hHeld; try simp only [pz]
   refine rdy 14 fun K hK => ?_
   go_simp
   go_at_call 9
   refine (nextB_any B k _ _ (by omega) (H4.o.tapeAt 6 rfl)).mono ?_; rintro e w2 ⟨x3, rfl, x3a, x3b, htn, hgn, hsn⟩; have H3 := kq (H4.o.next 6 rfl htn hgn); clear htn hgn hsn; refine hK.out _ _ (by (try dsimp only); exact ⟨H3.o.cell 5 rfl 0 rfl, H3.o.cell 5 rfl 1 rfl, H3.o.cell 5 rfl 2 rfl⟩) ?_; clear hK K hHeld; intro hHeld; try simp only [pz]
   refine rdy 18 fun K hK => ?_
   go_simp
   go_at_call 17
   refine (edge_any B k _ _ (H3.o.tapeAt 6 rfl)).mono ?_; rintro e w2 ⟨e1_0, e1_1, rfl, ht, hg⟩; have H4 := kq (H3.o.next 6 rfl ht hg); clear ht hg; refine hK.out _ _ (by (try dsimp only); exact ⟨H4.o.cell 5 rfl 0 rfl, H4.o.cell 5 rfl 1 rfl, H4.o.cell 5 rfl 2 rfl⟩) ?_; clear hK K hHeld; intro hHeld; try simp only [pz]
   refine rdy 20 fun K hK => ?_
   have z1 := H4.o.cell 3 rfl 9 rfl; have z2 := H4.o.free 3 rfl 9; have H3 := kq (show St _ _ (_ :: _ :: _ :: .cells D2 #[.int .i64 (1 + x4), .int .i64 a, .int .i64 (-1), .bool bar9, .int .i64 0, .int .i64 0, .int .i64 0, .int .i64 0, .slice none 0 0, .slice wv1a wl1.length wv1c, .slice none 0 0, .int .i64 0, .int .i64 0, .slice none 0 0, .slice none 0 0, .int .i64 0, .slice none 0 0, .int .i64 0] 34 :: _) _ _ from (H4.o.set 3 rfl 9 (.slice wv1a wl1.length wv1c))); go_simp
   refine hK.out _ _ (by (try dsimp only); exact ⟨H3.o.cell 5 rfl 0 rfl, H3.o.cell 5 rfl 1 rfl, H3.o.cell 5 rfl 2 rfl⟩) ?_; clear hK K hHeld; intro hHeld; try simp only [pz]
   clear z1 z2; generalize (w2.setCell ⟨D2, 9, none⟩ (.slice wv1a wl1.length wv1c)) = k1 at *; refine tk 21 ?_; refine rdy 22 fun K hK => ?_
   have z1 := H3.o.cell 3 rfl 10 rfl; have z2 := H3.o.free 3 rfl 10; have H4 := kq (show St _ _ (_ :: _ :: _ :: .cells D2 #[.int .i64 (1 + x4), .int .i64 a, .int .i64 (-1), .bool bar9, .int .i64 0, .int .i64 0, .int .i64 0, .int .i64 0, .slice none 0 0, .slice wv1a wl1.length wv1c, .slice wv2a wl2.length wv2c, .int .i64 0, .int .i64 0, .slice none 0 0, .slice none 0 0, .int .i64 0, .slice none 0 0, .int .i64 0] 34 :: _) _ _ from (H3.o.set 3 rfl 10 (.slice wv2a wl2.length wv2c))); go_simp
   refine hK.out _ _ (by (try dsimp only); exact ⟨H4.o.cell 5 rfl 0 rfl, H4.o.cell 5 rfl 1 rfl, H4.o.cell 5 rfl 2 rfl⟩) ?_; clear hK K hHeld; intro hHeld; try simp only [pz]
   clear z1 z2; generalize (k1.setCell ⟨D2, 10, none⟩ (.slice wv2a wl2.length wv2c)) = k1 at *; refine tk 23 ?_; refine rdy 24 fun K hK => ?_
   have z1 := H4.o.cell 3 rfl 17 rfl; have z2 := H4.o.free 3 rfl 17; have H3 := kq (show St _ _ (_ :: _ :: _ :: .cells D2 #[.int .i64 (1 + x4), .int .i64 a, .int .i64 (-1), .bool bar9, .int .i64 0, .int .i64 0, .int .i64 0, .int .i64 0, .slice none 0 0, .slice wv1a wl1.length wv1c, .slice wv2a wl2.length wv2c, .int .i64 0, .int .i64 0, .slice none 0 0, .slice none 0 0, .int .i64 0, .slice none 0 0, .int .i64 x1] 34 :: _) _ _ from (H4.o.set 3 rfl 17 (.int .i64 x1))); go_simp
   refine hK.out _ _ (by (try dsimp only); exact ⟨H3.o.cell 5 rfl 0 rfl, H3.o.cell 5 rfl 1 rfl, H3.o.cell 5 rfl 2 rfl⟩) ?_; clear hK K hHeld; intro hHeld; try simp only [pz]
   clear z1 z2; generalize (k1.setCell ⟨D2, 17, none⟩ (.int .i64 x1)) = k1 at *; refine tk 25 ?_; refine rdy 26 fun K hK => ?_
   have z1 := H3.o.cell 3 rfl 11 rfl; have z2 := H3.o.free 3 rfl 11; have H4 := kq (show St _ _ (_ :: _ :: _ :: .cells D2 #[.int .i64 (1 + x4), .int .i64 a, .int .i64 (-1), .bool bar9, .int .i64 0, .int .i64 0, .int .i64 0, .int .i64 0, .slice none 0 0, .slice wv1a wl1.length wv1c, .slice wv2a wl2.length wv2c, .int .i64 x2, .int .i64 0, .slice none 0 0, .slice none 0 0, .int .i64 0, .slice none 0 0, .int .i64 x1] 34 :: _) _ _ from (H3.o.set 3 rfl 11 (.int .i64 x2))); go_simp
   refine hK.out _ _ (by (try dsimp only); exact ⟨H4.o.cell 5 rfl 0 rfl, H4.o.cell 5 rfl 1 rfl, H4.o.cell 5 rfl 2 rfl⟩) ?_; clear hK K hHeld; intro hHeld; try simp only [pz]
   clear z1 z2; generalize (k1.setCell ⟨D2, 11, none⟩ (.int .i64 x2)) = k1 at *; refine tk 27 ?_; refine rdy 28 fun K hK => ?_
   have z1 := H4.o.cell 3 rfl 12 rfl; have z2 := H4.o.free 3 rfl 12; have H3 := kq (show St _ _ (_ :: _ :: _ :: .cells D2 #[.int .i64 (1 + x4), .int .i64 a, .int .i64 (-1), .bool bar9, .int .i64 0, .int .i64 0, .int .i64 0, .int .i64 0, .slice none 0 0, .slice wv1a wl1.length wv1c, .slice wv2a wl2.length wv2c, .int .i64 x2, .int .i64 x3, .slice none 0 0, .slice none 0 0, .int .i64 0, .slice none 0 0, .int .i64 x1] 34 :: _) _ _ from (H4.o.set 3 rfl 12 (.int .i64 x3))); go_simp
   refine hK.out _ _ (by (try dsimp only); exact ⟨H3.o.cell 5 rfl 0 rfl, H3.o.cell 5 rfl 1 rfl, H3.o.cell 5 rfl 2 rfl⟩) ?_; clear hK K hHeld; intro hHeld; try simp only [pz]
   clear z1 z2; generalize (k1.setCell ⟨D2, 12, none⟩ (.int .i64 x3)) = k1 at *; refine tk 29 ?_; refine rdy 30 fun K hK => ?_
   have z1 := H3.o.cell 3 rfl 4 rfl; have z2 := H3.o.free 3 rfl 4; have z3 := H3.o.cell 3 rfl 5 rfl; have z4 := H3.o.free 3 rfl 5; have H4 := kq (show St _ _ (_ :: _ :: _ :: .cells D2 #[.int .i64 (1 + x4), .int .i64 a, .int .i64 (-1), .bool bar9, .int .i64 e1_0, .int .i64 e1_1, .int .i64 0, .int .i64 0, .slice none 0 0, .slice wv1a wl1.length wv1c, .slice wv2a wl2.length wv2c, .int .i64 x2, .int .i64 x3, .slice none 0 0, .slice none 0 0, .int .i64 0, .slice none 0 0, .int .i64 x1] 34 :: _) _ _ from ((H3.o.set 3 rfl 4 (.int .i64 e1_0)).set 3 rfl 5 (.int .i64 e1_1))); go_simp
   refine hK.out _ _ (by (try dsimp only); exact ⟨H4.o.cell 5 rfl 0 rfl, H4.o.cell 5 rfl 1 rfl, H4.o.cell 5 rfl 2 rfl⟩) ?_; clear hK K hHeld; intro hHeld; try simp only [pz]
   clear z1 z2 z3 z4; generalize ((k1.setCell ⟨D2, 4, none⟩ (.int .i64 e1_0)).setCell ⟨D2, 5, none⟩ (.int .i64 e1_1)) = k1 at *; refine wpAnyH_done (by kernel_rfl) ?_ _; try clear hHeld
   go_wp2_with fail
   have H3 := kq (H4.o.arrNilE 59 2); have H4 := kq (H3.o.arrNilE 59 2); have H3 := kq (H4.o.grow (Below.refl _ _) (Own.nil _ _)); have H4 := kq (H3.o.arrNilE 61 2); have hfin := St.pickT (l0 := [_, _, _, _, _, _, _, _, _, _, _]) (T := l) (l' := [_, _, _, _, _, _, _, _, _]) H4.o [8, 7, 2, 3, 1, 5, 4, 0, 10] rfl (by decide); have hHWLwl1 := HWLwl1.o; have hHWLwl1 := HWLwl2.o
   go_meet
   exact ⟨⟨(1 + x4), a, (-1), bar9, e1_0, e1_1, 0, 0, none, 0, [], wv1a, wv1c, wl1, wv2a, wv2c, wl2, x2, x3, none, 0, 0, [], none, 0, 0, [], 0, none, 0, 0, [], x1⟩, rs, Sg.ln, TQ.nilT _ _, TQ.nilT _ _, hfin⟩
  have c1a : ((1 + x4 : Int) == (2)) = false := by simpa using c1
  have c1b : ((1 + x4 : Int) != (2)) = true := by simpa using c1
  have c1h := kq c1; clear c1; by_cases c1 : (1 + x4 : Int) = 3
  ·
   obtain ⟨c1c, c1d⟩ : (1 + x4 : Int) ≤ 3 ∧ (3 : Int) ≤ 1 + x4 := by omega
   have c1a : ((1 + x4 : Int) == (3)) = true := by simpa using c1
   have c1b : ((1 + x4 : Int) != (3)) = false := by simpa using c1
   have c1h := kq c1; clear c1; go_upto_region 10 with fail
   have H3 := kq H1.o.drew; refine wp_region_held_drew (S := (fun w' => w'.cell? ⟨D1, 0, none⟩ = some (.int .i64 sw) ∧ w'.cell? ⟨D1, 1, none⟩ = some (.int .i64 sh) ∧ w'.cell? ⟨D1, 2, none⟩ = some (.int .i64 sm))) (by kernel_rfl) ⟨H3.o.cell 3 rfl 0 rfl, H3.o.cell 3 rfl 1 rfl, H3.o.cell 3 rfl 2 rfl⟩ (fun hHeld => ?_); generalize w1.drew = k1 at *; refine tk 0 ?_; refine tk 1 ?_; refine tk 2 ?_; refine tk 4 ?_; refine tk 5 ?_; refine tk 6 ?_; refine tk 8 ?_; refine tk 9 ?_; refine tk 10 ?_; refine tk 11 ?_; refine rdy 3 fun K hK => ?_
   go_simp
   go_at_call 19
   refine (table_any B k sw _ (by omega) (H3.o.tapeAt 4 rfl)).mono ?_; rintro e w2 ⟨v1, T1, rfl, hok, ho, ht, hg⟩; obtain ⟨tp1, R1, ta1, tc1, rfl, htd, htq, hmo, hst⟩ := St.addTT H3.o (H3.o.next 4 rfl ht hg) ho; obtain ⟨T245l0, T245l1⟩ : 1 ≤ T1.length ∧ T1.length ≤ 6 := ⟨hok.l0, hok.l1⟩; have HOKT1 := kq hok; have HQ1 := kq htq; have HD1 := kq htd; have H3 := kq hst; clear htd htq hmo hst ho ht hg hok; refine hK.out _ _ (by (try dsimp only); exact ⟨H3.o.cell 4 rfl 0 rfl, H3.o.cell 4 rfl 1 rfl, H3.o.cell 4 rfl 2 rfl⟩) ?_; clear hK K hHeld; intro hHeld; try simp only [pz]
   refine tk 13 ?_; refine rdy 7 fun K hK => ?_
   go_simp
   go_at_call 19
   refine (table_any B k sh _ (by omega) (H3.o.tapeAt 5 rfl)).mono ?_; rintro e w2 ⟨v1, T2, rfl, hok, ho, ht, hg⟩; obtain ⟨tp256, R1, ta2, tc2, rfl, htd, htq, hmo, hst⟩ := St.addTT H3.o (H3.o.next 5 rfl ht hg) ho; obtain ⟨T255l0, T255l1⟩ : 1 ≤ T2.length ∧ T2.length ≤ 6 := ⟨hok.l0, hok.l1⟩; have HOKT2 := kq hok; have HQ2 := kq htq; have HD1 := kq htd; have H3 := kq hst; have HQ3 := kq (hmo _ HQ1.o); clear htd htq hmo hst ho ht hg hok; refine hK.out _ _ (by (try dsimp only); exact ⟨H3.o.cell 5 rfl 0 rfl, H3.o.cell 5 rfl 1 rfl, H3.o.cell 5 rfl 2 rfl⟩) ?_; clear hK K hHeld; intro hHeld; try simp only [pz]
   refine rdy 12 fun K hK => ?_
   go_simp
   go_at_call 17
   refine (edge_any B k _ _ (H3.o.tapeAt 6 rfl)).mono ?_; rintro e w2 ⟨e1_0, e1_1, rfl, ht, hg⟩; have H4 := kq (H3.o.next 6 rfl ht hg); clear ht hg; refine hK.out _ _ (by (try dsimp only); exact ⟨H4.o.cell 5 rfl 0 rfl, H4.o.cell 5 rfl 1 rfl, H4.o.cell 5 rfl 2 rfl⟩) ?_; clear hK K hHeld; intro hHeld; try simp only [pz]
   refine rdy 14 fun K hK => ?_
   have z1 := H4.o.cell 3 rfl 13 rfl; have z2 := H4.o.free 3 rfl 13; have H3 := kq (show St _ _ (_ :: _ :: _ :: .cells D2 #[.int .i64 (1 + x4), .int .i64 a, .int .i64 (-1), .bool bar9, .int .i64 0, .int .i64 0, .int .i64 0, .int .i64 0, .slice none 0 0, .slice none 0 0, .slice none 0 0, .int .i64 0, .int .i64 0, .slice ta1 T1.length tc1, .slice none 0 0, .int .i64 0, .slice none 0 0, .int .i64 0] 34 :: _) _ _ from (H4.o.set 3 rfl 13 (.slice ta1 T1.length tc1))); go_simp
   refine hK.out _ _ (by (try dsimp only); exact ⟨H3.o.cell 5 rfl 0 rfl, H3.o.cell 5 rfl 1 rfl, H3.o.cell 5 rfl 2 rfl⟩) ?_; clear hK K hHeld; intro hHeld; try simp only [pz]
   clear z1 z2; generalize (w2.setCell ⟨D2, 13, none⟩ (.slice ta1 T1.length tc1)) = k1 at *; refine tk 15 ?_; refine rdy 16 fun K hK => ?_
   have z1 := H3.o.cell 3 rfl 14 rfl; have z2 := H3.o.free 3 rfl 14; have H4 := kq (show St _ _ (_ :: _ :: _ :: .cells D2 #[.int .i64 (1 + x4), .int .i64 a, .int .i64 (-1), .bool bar9, .int .i64 0, .int .i64 0, .int .i64 0, .int .i64 0, .slice none 0 0, .slice none 0 0, .slice none 0 0, .int .i64 0, .int .i64 0, .slice ta1 T1.length tc1, .slice ta2 T2.length tc2, .int .i64 0, .slice none 0 0, .int .i64 0] 34 :: _) _ _ from (H3.o.set 3 rfl 14 (.slice ta2 T2.length tc2))); go_simp
   refine hK.out _ _ (by (try dsimp only); exact ⟨H4.o.cell 5 rfl 0 rfl, H4.o.cell 5 rfl 1 rfl, H4.o.cell 5 rfl 2 rfl⟩) ?_; clear hK K hHeld; intro hHeld; try simp only [pz]
   clear z1 z2; generalize (k1.setCell ⟨D2, 14, none⟩ (.slice ta2 T2.length tc2)) = k1 at *; refine tk 17 ?_; refine rdy 18 fun K hK => ?_
   have z1 := H4.o.cell 3 rfl 17 rfl; have z2 := H4.o.free 3 rfl 17; have H3 := kq (show St _ _ (_ :: _ :: _ :: .cells D2 #[.int .i64 (1 + x4), .int .i64 a, .int .i64 (-1), .bool bar9, .int .i64 0, .int .i64 0, .int .i64 0, .int .i64 0, .slice none 0 0, .slice none 0 0, .slice none 0 0, .int .i64 0, .int .i64 0, .slice ta1 T1.length tc1, .slice ta2 T2.length tc2, .int .i64 0, .slice none 0 0, .int .i64 x1] 34 :: _) _ _ from (H4.o.set 3 rfl 17 (.int .i64 x1))); go_simp
   refine hK.out _ _ (by (try dsimp only); exact ⟨H3.o.cell 5 rfl 0 rfl, H3.o.cell 5 rfl 1 rfl, H3.o.cell 5 rfl 2 rfl⟩) ?_; clear hK K hHeld; intro hHeld; try simp only [pz]
   clear z1 z2; generalize (k1.setCell ⟨D2, 17, none⟩ (.int .i64 x1)) = k1 at *; refine tk 19 ?_; refine rdy 20 fun K hK => ?_
   have z1 := H3.o.cell 3 rfl 11 rfl; have z2 := H3.o.free 3 rfl 11; have H4 := kq (show St _ _ (_ :: _ :: _ :: .cells D2 #[.int .i64 (1 + x4), .int .i64 a, .int .i64 (-1), .bool bar9, .int .i64 0, .int .i64 0, .int .i64 0, .int .i64 0, .slice none 0 0, .slice none 0 0, .slice none 0 0, .int .i64 8, .int .i64 0, .slice ta1 T1.length tc1, .slice ta2 T2.length tc2, .int .i64 0, .slice none 0 0, .int .i64 x1] 34 :: _) _ _ from (H3.o.set 3 rfl 11 (.int .i64 8))); go_simp
   refine hK.out _ _ (by (try dsimp only); exact ⟨H4.o.cell 5 rfl 0 rfl, H4.o.cell 5 rfl 1 rfl, H4.o.cell 5 rfl 2 rfl⟩) ?_; clear hK K hHeld; intro hHeld; try simp only [pz]
   clear z1 z2; generalize (k1.setCell ⟨D2, 11, none⟩ (.int .i64 8)) = k1 at *; refine tk 21 ?_; refine rdy 22 fun K hK => ?_
   have z1 := H4.o.cell 3 rfl 12 rfl; have z2 := H4.o.free 3 rfl 12; have H3 := kq (show St _ _ (_ :: _ :: _ :: .cells D2 #[.int .i64 (1 + x4), .int .i64 a, .int .i64 (-1), .bool bar9, .int .i64 0, .int .i64 0, .int .i64 0, .int .i64 0, .slice none 0 0, .slice none 0 0, .slice none 0 0, .int .i64 8, .int .i64 8, .slice ta1 T1.length tc1, .slice ta2 T2.length tc2, .int .i64 0, .slice none 0 0, .int .i64 x1] 34 :: _) _ _ from (H4.o.set 3 rfl 12 (.int .i64 8))); go_simp
   refine hK.out _ _ (by (try dsimp only); exact ⟨H3.o.cell 5 rfl 0 rfl, H3.o.cell 5 rfl 1 rfl, H3.o.cell 5 rfl 2 rfl⟩) ?_; clear hK K hHeld; intro hHeld; try simp only [pz]
   clear z1 z2; generalize (k1.setCell ⟨D2, 12, none⟩ (.int .i64 8)) = k1 at *; refine tk 23 ?_; refine rdy 24 fun K hK => ?_
   have z1 := H3.o.cell 3 rfl 4 rfl; have z2 := H3.o.free 3 rfl 4; have z3 := H3.o.cell 3 rfl 5 rfl; have z4 := H3.o.free 3 rfl 5; have H4 := kq (show St _ _ (_ :: _ :: _ :: .cells D2 #[.int .i64 (1 + x4), .int .i64 a, .int .i64 (-1), .bool bar9, .int .i64 e1_0, .int .i64 e1_1, .int .i64 0, .int .i64 0, .slice none 0 0, .slice none 0 0, .slice none 0 0, .int .i64 8, .int .i64 8, .slice ta1 T1.length tc1, .slice ta2 T2.length tc2, .int .i64 0, .slice none 0 0, .int .i64 x1] 34 :: _) _ _ from ((H3.o.set 3 rfl 4 (.int .i64 e1_0)).set 3 rfl 5 (.int .i64 e1_1))); go_simp
   refine hK.out _ _ (by (try dsimp only); exact ⟨H4.o.cell 5 rfl 0 rfl, H4.o.cell 5 rfl 1 rfl, H4.o.cell 5 rfl 2 rfl⟩) ?_; clear hK K hHeld; intro hHeld; try simp only [pz]
   clear z1 z2 z3 z4; generalize ((k1.setCell ⟨D2, 4, none⟩ (.int .i64 e1_0)).setCell ⟨D2, 5, none⟩ (.int .i64 e1_1)) = k1 at *; refine wpAnyH_done (by kernel_rfl) ?_ _; try clear hHeld
   go_wp2_with fail
   have H3 := kq (H4.o.grow (Below.refl _ _) (Own.nil _ _)); have H4 := kq (H3.o.grow (Below.refl _ _) (Own.nil _ _)); have H3 := kq (H4.o.grow (Below.refl _ _) (Own.nil _ _)); have H4 := kq (H3.o.arrNilE 61 2); have hfin := St.pickT (l0 := [_, _, _, _, _, _, _, _, _, _, _]) (T := l) (l' := [_, _, _, _, _, _, _, _, _]) H4.o [8, 7, 5, 4, 1, 2, 3, 0, 10] rfl (by decide); have hHOKT1 := HOKT1.o.l1; have hHOKT1 := HOKT2.o.l1
   go_meet
   exact ⟨⟨(1 + x4), a, (-1), bar9, e1_0, e1_1, 0, 0, none, 0, [], none, 0, [], none, 0, [], 8, 8, ta1, T1.length, tc1, tp1, ta2, T2.length, tc2, tp256, 0, none, 0, 0, [], x1⟩, R1, Sg.ln, HQ3.o, HQ2.o, hfin⟩
  have c1a : ((1 + x4 : Int) == (3)) = false := by simpa using c1
  have c1b : ((1 + x4 : Int) != (3)) = true := by simpa using c1
  have c1h := kq c1; clear c1; by_cases c1 : (1 + x4 : Int) = 4
  ·
   obtain ⟨c1c, c1d⟩ : (1 + x4 : Int) ≤ 4 ∧ (4 : Int) ≤ 1 + x4 := by omega
   have c1a : ((1 + x4 : Int) == (4)) = true := by simpa using c1
   have c1b : ((1 + x4 : Int) != (4)) = false := by simpa using c1
   have c1h := kq c1; clear c1; obtain ⟨D3, hD2⟩ := nK w1.heap.size; go_wp2_with fail
   have H3 := kq (H1.o.alloc #[.int .i64 4, .int .i64 1, .int .i64 7] 3 hD2); first | refine gK H3 ?_ | refine gL H3 ?_ | refine gC H3 ?_
   clear H3; intro w1 H3; clear hD2; refine (pickB_any B k _ 3 3 [4, 1, 7] _ (by omega) (by omega) (H3.o.tapeAt 5 rfl) (H3.o.lit 0 [4, 1, 7] rfl (by simp)).row (.inr ⟨_, rfl, H3.o.ne 0 5 rfl rfl (by decide) rfl rfl⟩)).mono ?_; rintro e w1 ⟨x2, rfl, hx1, htn, hgn, hsn⟩; have H4 := kq (H3.o.next 5 rfl htn hgn); clear htn hgn hsn; obtain ⟨x2a, x2b⟩ : (1 : Int) ≤ x2 ∧ x2 ≤ 7 := by simp at hx1; omega
   clear hx1; have z1 := H4.o.cell 2 rfl 15 rfl; have z2 := H4.o.free 2 rfl 15; go_wp2_with fail
   clear z1 z2; have H3 := kq (show St _ _ (_ :: _ :: .cells D2 #[.int .i64 (1 + x4), .int .i64 a, .int .i64 (-1), .bool bar9, .int .i64 0, .int .i64 0, .int .i64 0, .int .i64 0, .slice none 0 0, .slice none 0 0, .slice none 0 0, .int .i64 0, .int .i64 0, .slice none 0 0, .slice none 0 0, .int .i64 x2, .slice none 0 0, .int .i64 0] 34 :: _) _ _ from (H4.o.set 2 rfl 15 (.int .i64 x2))); have H4 := kq (H3.o.arrNilE 59 2); have H3 := kq (H4.o.arrNilE 59 2); have H4 := kq (H3.o.grow (Below.refl _ _) (Own.nil _ _)); have H3 := kq (H4.o.grow (Below.refl _ _) (Own.nil _ _)); have H4 := kq (H3.o.grow (Below.refl _ _) (Own.nil _ _)); have H3 := kq (H4.o.arrNilE 61 2); have hfin := St.pickT (l0 := [_, _, _, _, _, _, _, _, _, _, _, _]) (T := l) (l' := [_, _, _, _, _, _, _, _, _]) H3.o [9, 8, 4, 5, 1, 2, 3, 0, 11] rfl (by decide)
   go_meet
   exact ⟨⟨(1 + x4), a, (-1), bar9, 0, 0, 0, 0, none, 0, [], none, 0, [], none, 0, [], 0, 0, none, 0, 0, [], none, 0, 0, [], x2, none, 0, 0, [], 0⟩, rs, Sg.ln, TQ.nilT _ _, TQ.nilT _ _, hfin⟩
  have c1a : ((1 + x4 : Int) == (4)) = false := by simpa using c1
  have c1b : ((1 + x4 : Int) != (4)) = true := by simpa using c1
  have c1h := kq c1; clear c1; by_cases c1 : (1 + x4 : Int) = 6
  ·
   obtain ⟨c1c, c1d⟩ : (1 + x4 : Int) ≤ 6 ∧ (6 : Int) ≤ 1 + x4 := by omega
   have c1a : ((1 + x4 : Int) == (6)) = true := by simpa using c1
   have c1b : ((1 + x4 : Int) != (6)) = false := by simpa using c1
   have c1h := kq c1; clear c1; by_cases c2 : (0 : Int) ≤ b
   ·
    go_wp2_with fail
    refine (nextB_any B k _ _ (by omega) (H1.o.tapeAt 4 rfl)).mono ?_; rintro e w1 ⟨x2, rfl, x2a, x2b, htn, hgn, hsn⟩; have H3 := kq (H1.o.next 4 rfl htn hgn); clear htn hgn hsn
    rcases eqZ x2 0 with ⟨c2a, c2b, c2c, c2d, c2h⟩ | ⟨c2a, c2b, c2h⟩
    ·
     have z1 := H3.o.cell 1 rfl 2 rfl; have z2 := H3.o.free 1 rfl 2; go_upto_region 16 with fail
     clear z1 z2; have H4 := kq (show St _ _ (_ :: .cells D2 #[.int .i64 (1 + x4), .int .i64 a, .int .i64 b, .bool bar9, .int .i64 0, .int .i64 0, .int .i64 0, .int .i64 0, .slice none 0 0, .slice none 0 0, .slice none 0 0, .int .i64 0, .int .i64 0, .slice none 0 0, .slice none 0 0, .int .i64 0, .slice none 0 0, .int .i64 0] 34 :: _) _ _ from (H3.o.set 1 rfl 2 (.int .i64 b))); first | refine gK H4 ?_ | refine gL H4 ?_ | refine gC H4 ?_
     clear H4; intro w1 H4; have z1 := H4.o.cell 1 rfl 2 rfl; go_wp2_with fail
     clear z1; refine (ops_any B k true _ (H4.o.tapeAt 4 rfl)).mono ?_; rintro e w1 ⟨v1, L1, rfl, hoi, hl1, hl2, ho, ht, hg⟩; obtain ⟨ln1, hln1⟩ : ∃ q, L1.length = q := ⟨_, rfl⟩; rw [hln1] at ho hl1 hl2; have HLNL1 := kq hln1; have H5 := kq (St.addE2 H4.o (H4.o.next 4 rfl ht hg) ho); obtain ⟨g3, c2, hva⟩ := arr_pos ho (by omega); subst hva; have HOL1 := kq hoi; obtain ⟨ln1a, ln1b⟩ := And.intro hl1 hl2; clear ho ht hg hoi hln1 hl1 hl2; have z1 := H5.o.cell 2 rfl 16 rfl; have z2 := H5.o.free 2 rfl 16; have z3 := H5.o.cell 2 rfl 17 rfl; have z4 := H5.o.free 2 rfl 17; go_wp2_with fail
     clear z1 z2 z3 z4; have H4 := kq (show St _ _ (_ :: _ :: .cells D2 #[.int .i64 (1 + x4), .int .i64 a, .int .i64 b, .bool bar9, .int .i64 0, .int .i64 0, .int .i64 0, .int .i64 0, .slice none 0 0, .slice none 0 0, .slice none 0 0, .int .i64 0, .int .i64 0, .slice none 0 0, .slice none 0 0, .int .i64 0, .slice (some ⟨g3, 0, none⟩) ln1 c2, .int .i64 x1] 34 :: _) _ _ from ((H5.o.set 2 rfl 16 (.slice (some ⟨g3, 0, none⟩) ln1 c2)).set 2 rfl 17 (.int .i64 x1))); have H5 := kq (H4.o.arrNilE 59 2); have H4 := kq (H5.o.arrNilE 59 2); have H5 := kq (H4.o.grow (Below.refl _ _) (Own.nil _ _)); have H4 := kq (H5.o.grow (Below.refl _ _) (Own.nil _ _)); have H5 := kq (H4.o.grow (Below.refl _ _) (Own.nil _ _)); have hfin := St.pickT (l0 := [_, _, _, _, _, _, _, _, _, _, _]) (T := l) (l' := [_, _, _, _, _, _, _, _, _]) H5.o [8, 7, 3, 4, 0, 1, 2, 5, 10] rfl (by decide)
     go_meet
     exact ⟨⟨(1 + x4), a, b, bar9, 0, 0, 0, 0, none, 0, [], none, 0, [], none, 0, [], 0, 0, none, 0, 0, [], none, 0, 0, [], 0, (some ⟨g3, 0, none⟩), ln1, c2, L1, x1⟩, rs, Sg.ln, TQ.nilT _ _, TQ.nilT _ _, hfin⟩
    have z1 := H3.o.cell 1 rfl 2 rfl; go_wp2_with fail
    clear z1; refine (ops_any B k false _ (H3.o.tapeAt 4 rfl)).mono ?_; rintro e w1 ⟨v1, L1, rfl, hoi, hl1, hl2, ho, ht, hg⟩; obtain ⟨ln1, hln1⟩ : ∃ q, L1.length = q := ⟨_, rfl⟩; rw [hln1] at ho hl1 hl2; have HLNL1 := kq hln1; have H4 := kq (St.addE2 H3.o (H3.o.next 4 rfl ht hg) ho); obtain ⟨g3, c2, hva⟩ := arr_pos ho (by omega); subst hva; have HOL1 := kq hoi; obtain ⟨ln1a, ln1b⟩ := And.intro hl1 hl2; clear ho ht hg hoi hln1 hl1 hl2; have z1 := H4.o.cell 2 rfl 16 rfl; have z2 := H4.o.free 2 rfl 16; have z3 := H4.o.cell 2 rfl 17 rfl; have z4 := H4.o.free 2 rfl 17; go_wp2_with fail
    clear z1 z2 z3 z4; have H3 := kq (show St _ _ (_ :: _ :: .cells D2 #[.int .i64 (1 + x4), .int .i64 a, .int .i64 (-1), .bool bar9, .int .i64 0, .int .i64 0, .int .i64 0, .int .i64 0, .slice none 0 0, .slice none 0 0, .slice none 0 0, .int .i64 0, .int .i64 0, .slice none 0 0, .slice none 0 0, .int .i64 0, .slice (some ⟨g3, 0, none⟩) ln1 c2, .int .i64 x1] 34 :: _) _ _ from ((H4.o.set 2 rfl 16 (.slice (some ⟨g3, 0, none⟩) ln1 c2)).set 2 rfl 17 (.int .i64 x1))); have H4 := kq (H3.o.arrNilE 59 2); have H3 := kq (H4.o.arrNilE 59 2); have H4 := kq (H3.o.grow (Below.refl _ _) (Own.nil _ _)); have H3 := kq (H4.o.grow (Below.refl _ _) (Own.nil _ _)); have H4 := kq (H3.o.grow (Below.refl _ _) (Own.nil _ _)); have hfin := St.pickT (l0 := [_, _, _, _, _, _, _, _, _, _, _]) (T := l) (l' := [_, _, _, _, _, _, _, _, _]) H4.o [8, 7, 3, 4, 0, 1, 2, 5, 10] rfl (by decide)
    go_meet
    exact ⟨⟨(1 + x4), a, (-1), bar9, 0, 0, 0, 0, none, 0, [], none, 0, [], none, 0, [], 0, 0, none, 0, 0, [], none, 0, 0, [], 0, (some ⟨g3, 0, none⟩), ln1, c2, L1, x1⟩, rs, Sg.ln, TQ.nilT _ _, TQ.nilT _ _, hfin⟩
   have z1 := H1.o.cell 1 rfl 2 rfl; go_wp2_with fail
   clear z1; refine (ops_any B k false _ (H1.o.tapeAt 4 rfl)).mono ?_; rintro e w1 ⟨v1, L1, rfl, hoi, hl1, hl2, ho, ht, hg⟩; obtain ⟨ln1, hln1⟩ : ∃ q, L1.length = q := ⟨_, rfl⟩; rw [hln1] at ho hl1 hl2; have HLNL1 := kq hln1; have H3 := kq (St.addE2 H1.o (H1.o.next 4 rfl ht hg) ho); obtain ⟨g3, c2, hva⟩ := arr_pos ho (by omega); subst hva; have HOL1 := kq hoi; obtain ⟨ln1a, ln1b⟩ := And.intro hl1 hl2; clear ho ht hg hoi hln1 hl1 hl2; have z1 := H3.o.cell 2 rfl 16 rfl; have z2 := H3.o.free 2 rfl 16; have z3 := H3.o.cell 2 rfl 17 rfl; have z4 := H3.o.free 2 rfl 17; go_wp2_with fail
   clear z1 z2 z3 z4; have H4 := kq (show St _ _ (_ :: _ :: .cells D2 #[.int .i64 (1 + x4), .int .i64 a, .int .i64 (-1), .bool bar9, .int .i64 0, .int .i64 0, .int .i64 0, .int .i64 0, .slice none 0 0, .slice none 0 0, .slice none 0 0, .int .i64 0, .int .i64 0, .slice none 0 0, .slice none 0 0, .int .i64 0, .slice (some ⟨g3, 0, none⟩) ln1 c2, .int .i64 x1] 34 :: _) _ _ from ((H3.o.set 2 rfl 16 (.slice (some ⟨g3, 0, none⟩) ln1 c2)).set 2 rfl 17 (.int .i64 x1))); have H3 := kq (H4.o.arrNilE 59 2); have H4 := kq (H3.o.arrNilE 59 2); have H3 := kq (H4.o.grow (Below.refl _ _) (Own.nil _ _)); have H4 := kq (H3.o.grow (Below.refl _ _) (Own.nil _ _)); have H3 := kq (H4.o.grow (Below.refl _ _) (Own.nil _ _)); have hfin := St.pickT (l0 := [_, _, _, _, _, _, _, _, _, _, _]) (T := l) (l' := [_, _, _, _, _, _, _, _, _]) H3.o [8, 7, 3, 4, 0, 1, 2, 5, 10] rfl (by decide)
   go_meet
   exact ⟨⟨(1 + x4), a, (-1), bar9, 0, 0, 0, 0, none, 0, [], none, 0, [], none, 0, [], 0, 0, none, 0, 0, [], none, 0, 0, [], 0, (some ⟨g3, 0, none⟩), ln1, c2, L1, x1⟩, rs, Sg.ln, TQ.nilT _ _, TQ.nilT _ _, hfin⟩
  have c1a : ((1 + x4 : Int) == (6)) = false := by simpa using c1
  have c1b : ((1 + x4 : Int) != (6)) = true := by simpa using c1
  have c1h := kq c1; clear c1; go_wp2_with fail
  have H3 := kq (H1.o.arrNilE 59 2); have H1 := kq (H3.o.arrNilE 59 2); have H3 := kq (H1.o.grow (Below.refl _ _) (Own.nil _ _)); have H1 := kq (H3.o.grow (Below.refl _ _) (Own.nil _ _)); have H3 := kq (H1.o.grow (Below.refl _ _) (Own.nil _ _)); have H1 := kq (H3.o.arrNilE 61 2); have hfin := St.pickT (l0 := [_, _, _, _, _, _, _, _, _, _, _]) (T := l) (l' := [_, _, _, _, _, _, _, _, _]) H1.o [8, 7, 4, 5, 1, 2, 3, 0, 10] rfl (by decide)
  go_meet
  exact ⟨⟨(1 + x4), a, (-1), bar9, 0, 0, 0, 0, none, 0, [], none, 0, [], none, 0, [], 0, 0, none, 0, 0, [], none, 0, 0, [], 0, none, 0, 0, [], 0⟩, rs, Sg.ln, TQ.nilT _ _, TQ.nilT _ _, hfin⟩
 case rest =>
  obtain ⟨s9, R9, hl9, hx9, hy9, hst⟩ := hcut; obtain ⟨u1, rfl⟩ : ∃ u1 : World, u1 = wc := ⟨_, rfl⟩; have H1 := kq hst; clear hst; have HL9 := kq hl9; have HX9 := kq hx9; have HY9 := kq hy9; clear hl9 hx9 hy9; obtain ⟨A9, hA9⟩ : ∃ z : Array Value, s9.val = z := ⟨_, rfl⟩; have H3 := H1; rw [hA9] at H3; have HA9 := kq hA9.symm; clear hA9; have z1 := cs18 H3.o 0 rfl; have z19 := H3.o.loadStg 1 rfl (by rw [HA9.o]; rfl)
  go_wp2_with (first | (refine loadArm z19 (by rfl) (by rfl) ?_) | (refine storeArm (H3.o.rowAt 0 rfl) (cs' := A9) (by rw [HA9.o]; first | rfl | kernel_rfl) (by rw [HA9.o]; first | rfl | kernel_rfl) (by rw [HA9.o]; first | rfl | kernel_rfl) (by rfl) (by rfl) (by rfl) ?_))
  clear z1 z19; have H1 := kq (show St _ _ (.cells (D1 + 1) A9 34 :: _) _ _ from (H3.o.setRow 0 rfl A9)); have hfin : St B W (s9.parts ++ .tape k :: l) R9 _ := St.pickT (l0 := [_, _]) (l' := []) H1.o [] rfl (by decide); refine bodyPost_ret (v := .agg A9) ?_ rfl ⟨s9, R9, by rw [HA9.o], HL9.o, HX9.o, HY9.o, hfin⟩; exact results_cell_row rfl _ _ (D1 + 1) 34 _ (0, 0) _ (by rfl) (H1.o.rowAt 0 rfl) Tryz.underlying34 rfl (by have hz : (Tryz.prog.info? 34).map (·.size) = some 18 := (by kernel_rfl); rw [hz, HA9.o]; rfl)
end Go.Proofs.YteejjnhlfgjlaaaGreat
