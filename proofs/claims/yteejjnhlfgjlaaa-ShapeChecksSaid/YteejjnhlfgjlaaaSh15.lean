/-
 The law's stages and shapes: bins and small.
-/
import Derived.Test.YteejjnhlfgjlaaaSg
import Derived.Test.YteejjnhlfgjlaaaKE
import Derived.Test.YteejjnhlfgjlaaaKH
namespace Go.Proofs.Yteejjnhlfgjlaaa
open Go.RowKit
attribute [local go_sem ↓] Go.wp_at_zero Go.wp_at_succ
set_option linter.unusedVariables false
set_option linter.unusedSimpArgs false

set_option maxRecDepth 100000 in
set_option maxHeartbeats 1600000 in
theorem bins_any15 (n : Int) (W : World) : Calls Try.prog 36 #[.int .i64 n] W fun e w' => ∃ A : Array Value, e = .returned (.agg A) ∧ A = #[.int .i64 4, .int .i64 0, .int .i64 (-1), .bool false, .int .i64 0, .int .i64 0, .int .i64 0, .int .i64 0, .slice none 0 0, .slice none 0 0, .slice none 0 0, .int .i64 0, .int .i64 0, .slice none 0 0, .slice none 0 0, .int .i64 n, .slice none 0 0, .int .i64 0] ∧ Below W.heap.size W w' := by
 obtain ⟨B, hB⟩ : ∃ B, W.heap.size = B := ⟨_, rfl⟩; have HI0 := hid (St.init hB)
 go_enter Try.func36, Try.ntmps36
 go_upto_region 1 with fail
 have H1 := hid (HI0.out.alloc #[.int .i64 0, .int .i64 0, .int .i64 0, .bool false, .int .i64 0, .int .i64 0, .int .i64 0, .int .i64 0, .slice none 0 0, .slice none 0 0, .slice none 0 0, .int .i64 0, .int .i64 0, .slice none 0 0, .slice none 0 0, .int .i64 0, .slice none 0 0, .int .i64 0] 33 hB); first | refine gK H1 ?_ | refine gL H1 ?_ | refine gC H1 ?_
 clear H1; intro w2 H1; obtain ⟨z3, z4, z5, z6, z7, z8, z9, z1, z2, z10, z11, z12, z13, z16, z14, z15, z17, z18⟩ := cs18 H1.out 0 rfl
 go_wp2_with (refine storeArm (H1.out.rowAt 0 rfl) (cs' := #[.int .i64 4, .int .i64 0, .int .i64 (-1), .bool false, .int .i64 0, .int .i64 0, .int .i64 0, .int .i64 0, .slice none 0 0, .slice none 0 0, .slice none 0 0, .int .i64 0, .int .i64 0, .slice none 0 0, .slice none 0 0, .int .i64 n, .slice none 0 0, .int .i64 0]) (by first | rfl | kernel_rfl) (by first | rfl | kernel_rfl) (by first | rfl | kernel_rfl) (by rfl) (by rfl) (by rfl) ?_)
 clear z3 z4 z5 z6 z7 z8 z9 z1 z2 z10 z11 z12 z13 z16 z14 z15 z17 z18; have H2 := hid (show St _ _ (.cells B #[.int .i64 4, .int .i64 0, .int .i64 (-1), .bool false, .int .i64 0, .int .i64 0, .int .i64 0, .int .i64 0, .slice none 0 0, .slice none 0 0, .slice none 0 0, .int .i64 0, .int .i64 0, .slice none 0 0, .slice none 0 0, .int .i64 n, .slice none 0 0, .int .i64 0] 33 :: _) _ _ from (H1.out.setRow 0 rfl #[.int .i64 4, .int .i64 0, .int .i64 (-1), .bool false, .int .i64 0, .int .i64 0, .int .i64 0, .int .i64 0, .slice none 0 0, .slice none 0 0, .slice none 0 0, .int .i64 0, .int .i64 0, .slice none 0 0, .slice none 0 0, .int .i64 n, .slice none 0 0, .int .i64 0])); refine bodyPost_ret (v := .agg #[.int .i64 4, .int .i64 0, .int .i64 (-1), .bool false, .int .i64 0, .int .i64 0, .int .i64 0, .int .i64 0, .slice none 0 0, .slice none 0 0, .slice none 0 0, .int .i64 0, .int .i64 0, .slice none 0 0, .slice none 0 0, .int .i64 n, .slice none 0 0, .int .i64 0]) ?_ rfl ⟨_, rfl, rfl, H2.out.bl⟩; exact results_cell_row rfl _ _ B 33 _ (0, 0) _ (by rfl) (H2.out.rowAt 0 rfl) Try.underlying33 rfl (by have hz : (Try.prog.info? 33).map (·.size) = some 18 := (by kernel_rfl); exact hz)

set_option maxRecDepth 100000 in
set_option maxHeartbeats 1600000 in
theorem small_any {B : Nat} {W w0 : World} {l : List Ch} {rs : List Ro} (k : Nat) (hst0 : St B W (.tape k :: l) rs w0) : Calls Try.prog 6 #[.pointer (some ⟨k, 0, none⟩)] w0 fun e w' => ∃ x y z : Int, e = .returned (.agg #[.int .i64 x, .int .i64 y, .int .i64 z]) ∧ (1 ≤ x ∧ x ≤ 6) ∧ (1 ≤ y ∧ y ≤ 5) ∧ (1 ≤ z ∧ z ≤ 65535) ∧ St B W (.tape k :: l) rs w' := by
 have HI0 := hid hst0; clear hst0
 go_enter Try.func6, Try.ntmps6
 obtain ⟨D1, hD1⟩ : ∃ D, w0.heap.size = D := ⟨_, rfl⟩; go_upto_region 1 with fail
 have H1 := hid (HI0.out.alloc #[.int .i64 0, .int .i64 0, .int .i64 0] 24 hD1); first | refine gK H1 ?_ | refine gL H1 ?_ | refine gC H1 ?_
 clear H1; intro w1 H1; clear hD1; go_wp2_with fail
 refine (nextB_any B k _ _ (by omega) (H1.out.tapeAt 1 rfl)).mono ?_; rintro e w1 ⟨x1, rfl, x1a, x1b, htn, hgn, hsn⟩; have H2 := hid (H1.out.next 1 rfl htn hgn); clear htn hgn hsn; go_wp2_with fail
 refine (nextB_any B k _ _ (by omega) (H2.out.tapeAt 1 rfl)).mono ?_; rintro e w1 ⟨x2, rfl, x2a, x2b, htn, hgn, hsn⟩; have H1 := hid (H2.out.next 1 rfl htn hgn); clear htn hgn hsn; obtain ⟨D2, hD1⟩ : ∃ D, w1.heap.size = D := ⟨_, rfl⟩; go_wp2_with fail
 have H32 := hid (H1.out.alloc #[.int .i64 255, .int .i64 65535, .int .i64 1] 3 hD1); first | refine gK H32 ?_ | refine gL H32 ?_ | refine gC H32 ?_
 clear H32; intro w1 H32; clear hD1; refine (pickB_any B k _ 3 3 [255, 65535, 1] _ (by omega) (by omega) (H32.out.tapeAt 2 rfl) (H32.out.lit 0 [255, 65535, 1] rfl (by simp)).row (.inr ⟨_, rfl, H32.out.ne 0 2 rfl rfl (by decide) rfl rfl⟩)).mono ?_; rintro e w1 ⟨x3, rfl, hx1, htn, hgn, hsn⟩; have H1 := hid (H32.out.next 2 rfl htn hgn); clear htn hgn hsn; obtain ⟨x3a, x3b⟩ : (1 : Int) ≤ x3 ∧ x3 ≤ 65535 := by simp at hx1; omega
 clear hx1; obtain ⟨z1, z2, z3, z4, z5, z6⟩ := H1.out.f3 1 rfl; go_wp2_with fail
 clear z1 z2 z3 z4 z5 z6; have H2 := hid (show St _ _ (_ :: .cells D1 #[.int .i64 (1 + x1), .int .i64 (1 + x2), .int .i64 x3] 24 :: _) _ _ from (((H1.out.set 1 rfl 0 (.int .i64 (1 + x1))).set 1 rfl 1 (.int .i64 (1 + x2))).set 1 rfl 2 (.int .i64 x3))); have hfin := St.pickT (l0 := [_, _, _]) (T := l) (l' := [_]) H2.out [2] rfl (by decide); obtain ⟨q1, q2, q3⟩ := H2.out.c3 1 rfl; refine bodyPost_ret (v := .agg #[.int .i64 (1 + x1), .int .i64 (1 + x2), .int .i64 x3]) ?_ rfl ⟨_, _, _, rfl, by omega, by omega, by omega, hfin⟩; simp [results, Try.results6, go_sem, q1, q2, q3]
end Go.Proofs.Yteejjnhlfgjlaaa
