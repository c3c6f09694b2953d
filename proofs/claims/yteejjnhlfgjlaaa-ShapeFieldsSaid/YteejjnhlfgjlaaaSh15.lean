/-
 The law's stages and shapes: bins and small.
-/
import Derived.Test.YteejjnhlfgjlaaaSg
import Derived.Test.YteejjnhlfgjlaaaKE
import Derived.Test.YteejjnhlfgjlaaaKH
namespace Go.Proofs.Yteejjnhlfgjlaaa
open Go.RowKit
attribute [local go_sem ↓] Go.wp_at_zero Go.wp_at_succ
set_option linter.unusedVariables false
set_option linter.unusedSimpArgs false

set_option maxRecDepth 100000 in
set_option maxHeartbeats 1600000 in
theorem bins_any15 (n : Int) (W : World) : Calls Try.prog 36 #[.int .i64 n] W fun e w' => ∃ A : Array Value, e = .returned (.agg A) ∧ A = #[.int .i64 4, .int .i64 0, .int .i64 (-1), .bool false, .int .i64 0, .int .i64 0, .int .i64 0, .int .i64 0, .slice none 0 0, .slice none 0 0, .slice none 0 0, .int .i64 0, .int .i64 0, .slice none 0 0, .slice none 0 0, .int .i64 n, .slice none 0 0, .int .i64 0] ∧ Below W.heap.size W w' := by
 obtain ⟨B, hB⟩ : ∃ B, W.heap.size = B := ⟨_, rfl⟩
 have HI0 := hid (St.init hB)
 go_enter Try.func36, Try.ntmps36
 go_upto_region 1 with fail
 have H1 := hid (HI0.out.alloc #[.int .i64 0, .int .i64 0, .int .i64 0, .bool false, .int .i64 0, .int .i64 0, .int .i64 0, .int .i64 0, .slice none 0 0, .slice none 0 0, .slice none 0 0, .int .i64 0, .int .i64 0, .slice none 0 0, .slice none 0 0, .int .i64 0, .slice none 0 0, .int .i64 0] 33 hB)
 first | refine gen_code H1.out ?_ | refine gen_list H1.out ?_ | refine gen_calls H1.out ?_
 intro w2 hG
 clear H1
 have H1 := hid hG
 clear hG
 obtain ⟨z3, z4, z5, z6, z7, z8, z9, z10, z11, z12, z13, z14, z15, z16, z17, z18, z19, z20⟩ := cs18 H1.out 0 rfl
 go_wp2_with (refine storeArm (H1.out.rowAt 0 rfl) (cs' := #[.int .i64 4, .int .i64 0, .int .i64 (-1), .bool false, .int .i64 0, .int .i64 0, .int .i64 0, .int .i64 0, .slice none 0 0, .slice none 0 0, .slice none 0 0, .int .i64 0, .int .i64 0, .slice none 0 0, .slice none 0 0, .int .i64 n, .slice none 0 0, .int .i64 0]) (by first | rfl | kernel_rfl) (by first | rfl | kernel_rfl) (by first | rfl | kernel_rfl) (by rfl) (by rfl) (by rfl) ?_)
 clear z3 z4 z5 z6 z7 z8 z9 z10 z11 z12 z13 z14 z15 z16 z17 z18 z19 z20
 have H21 := hid (show St _ _ (.cells B #[.int .i64 4, .int .i64 0, .int .i64 (-1), .bool false, .int .i64 0, .int .i64 0, .int .i64 0, .int .i64 0, .slice none 0 0, .slice none 0 0, .slice none 0 0, .int .i64 0, .int .i64 0, .slice none 0 0, .slice none 0 0, .int .i64 n, .slice none 0 0, .int .i64 0] 33 :: _) _ _ from (H1.out.setRow 0 rfl #[.int .i64 4, .int .i64 0, .int .i64 (-1), .bool false, .int .i64 0, .int .i64 0, .int .i64 0, .int .i64 0, .slice none 0 0, .slice none 0 0, .slice none 0 0, .int .i64 0, .int .i64 0, .slice none 0 0, .slice none 0 0, .int .i64 n, .slice none 0 0, .int .i64 0]))
 refine bodyPost_ret (v := .agg #[.int .i64 4, .int .i64 0, .int .i64 (-1), .bool false, .int .i64 0, .int .i64 0, .int .i64 0, .int .i64 0, .slice none 0 0, .slice none 0 0, .slice none 0 0, .int .i64 0, .int .i64 0, .slice none 0 0, .slice none 0 0, .int .i64 n, .slice none 0 0, .int .i64 0]) ?_ rfl ⟨_, rfl, rfl, by first | exact H21.out.below | exact H21.out.below'⟩
 exact results_cell_row rfl _ _ B 33 _ (0, 0) _ (by rfl) (H21.out.rowAt 0 rfl) Try.underlying33 rfl (by have hz : (Try.prog.info? 33).map (·.size) = some 18 := (by kernel_rfl); exact hz)

set_option maxRecDepth 100000 in
set_option maxHeartbeats 1600000 in
theorem small_any {B : Nat} {W w0 : World} {l : List Ch} {rs : List Ro} (k : Nat) (hst0 : St B W (.tape k :: l) rs w0) : Calls Try.prog 6 #[.pointer (some ⟨k, 0, none⟩)] w0 fun e w' => ∃ x y z : Int, e = .returned (.agg #[.int .i64 x, .int .i64 y, .int .i64 z]) ∧ (1 ≤ x ∧ x ≤ 6) ∧ (1 ≤ y ∧ y ≤ 5) ∧ (1 ≤ z ∧ z ≤ 65535) ∧ St B W (.tape k :: l) rs w' := by
 have HI0 := hid hst0
 clear hst0
 go_enter Try.func6, Try.ntmps6
 obtain ⟨D22, hD22⟩ : ∃ D, w0.heap.size = D := ⟨_, rfl⟩
 go_upto_region 1 with fail
 have H23 := hid (HI0.out.alloc #[.int .i64 0, .int .i64 0, .int .i64 0] 24 hD22)
 first | refine gen_code H23.out ?_ | refine gen_list H23.out ?_ | refine gen_calls H23.out ?_
 intro w24 hG
 clear H23
 have H23 := hid hG
 clear hG
 clear hD22
 go_wp2_with fail
 refine (nextB_any B k _ _ (by omega) (H23.out.tapeAt 1 rfl)).mono ?_
 rintro e w26 ⟨x25, rfl, x25a, x25b, htn, hgn, hsn⟩
 have H27 := hid (H23.out.next 1 rfl htn hgn)
 clear htn hgn hsn
 go_wp2_with fail
 refine (nextB_any B k _ _ (by omega) (H27.out.tapeAt 1 rfl)).mono ?_
 rintro e w29 ⟨x28, rfl, x28a, x28b, htn, hgn, hsn⟩
 have H30 := hid (H27.out.next 1 rfl htn hgn)
 clear htn hgn hsn
 obtain ⟨D31, hD31⟩ : ∃ D, w29.heap.size = D := ⟨_, rfl⟩
 go_wp2_with fail
 have H32 := hid (H30.out.alloc #[.int .i64 255, .int .i64 65535, .int .i64 1] 3 hD31)
 first | refine gen_code H32.out ?_ | refine gen_list H32.out ?_ | refine gen_calls H32.out ?_
 intro w33 hG
 clear H32
 have H32 := hid hG
 clear hG
 clear hD31
 refine (pickB_any B k _ 3 3 [255, 65535, 1] _ (by omega) (by omega) (H32.out.tapeAt 2 rfl) (H32.out.lit 0 [255, 65535, 1] rfl (by simp)).row (.inr ⟨_, rfl, H32.out.ne 0 2 rfl rfl (by decide) rfl rfl⟩)).mono ?_
 rintro e w35 ⟨x34, rfl, hx34, htn, hgn, hsn⟩
 have H36 := hid (H32.out.next 2 rfl htn hgn)
 clear htn hgn hsn
 obtain ⟨x34a, x34b⟩ : (1 : Int) ≤ x34 ∧ x34 ≤ 65535 := by simp at hx34; omega
 clear hx34
 have z37 := H36.out.cell 1 rfl 0 rfl
 have z38 := H36.out.free 1 rfl 0
 have z39 := H36.out.cell 1 rfl 1 rfl
 have z40 := H36.out.free 1 rfl 1
 have z41 := H36.out.cell 1 rfl 2 rfl
 have z42 := H36.out.free 1 rfl 2
 go_wp2_with fail
 clear z37 z38 z39 z40 z41 z42
 have H43 := hid (show St _ _ (_ :: .cells D22 #[.int .i64 (1 + x25), .int .i64 (1 + x28), .int .i64 x34] 24 :: _) _ _ from (((H36.out.set 1 rfl 0 (.int .i64 (1 + x25))).set 1 rfl 1 (.int .i64 (1 + x28))).set 1 rfl 2 (.int .i64 x34)))
 have hfin := St.pickT (l0 := [_, _, _]) (T := l) (l' := [_]) H43.out [2] rfl (by decide)
 have q44 := H43.out.cell 1 rfl 0 rfl
 have q45 := H43.out.cell 1 rfl 1 rfl
 have q46 := H43.out.cell 1 rfl 2 rfl
 refine bodyPost_ret (v := .agg #[.int .i64 (1 + x25), .int .i64 (1 + x28), .int .i64 x34]) ?_ rfl ⟨_, _, _, rfl, by omega, by omega, by omega, hfin⟩
 simp [results, Try.results6, go_sem, q44, q45, q46]
end Go.Proofs.Yteejjnhlfgjlaaa
