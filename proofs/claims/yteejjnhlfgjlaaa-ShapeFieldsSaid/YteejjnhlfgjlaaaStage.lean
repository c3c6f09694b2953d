/-
 Contract: the tape's Stage: a stage and its memory, in the caller's memory.
-/
import Derived.Test.YteejjnhlfgjlaaaSg
import Derived.Test.YteejjnhlfgjlaaaKO
import Derived.Test.YteejjnhlfgjlaaaKE
import Derived.Test.YteejjnhlfgjlaaaKH
namespace Go.Proofs.Yteejjnhlfgjlaaa
open Go.RowKit
attribute [local go_sem ↓] Go.wp_at_zero Go.wp_at_succ
set_option linter.unusedVariables false
set_option linter.unusedSimpArgs false

set_option maxRecDepth 100000 in
set_option maxHeartbeats 12800000 in
theorem stage_any {B : Nat} {W w0 : World} {l : List Ch} {rs : List Ro} (k : Nat) (a sw sh sm b : Int) (hsw : 1 ≤ sw ∧ sw ≤ 100) (hsh : 1 ≤ sh ∧ sh ≤ 100) (hst0 : St B W (.tape k :: l) rs w0) :
    Calls Try.prog 7 #[.pointer (some ⟨k, 0, none⟩), .int .i64 a, .agg #[.int .i64 sw, .int .i64 sh, .int .i64 sm], .int .i64 b] w0 (SgPost B W k 40 l) := by
  have HI0 := hid hst0
  clear hst0
  obtain ⟨sw1, sw2⟩ := hsw
  obtain ⟨sh1, sh2'⟩ := hsh
  go_enter Try.func7, Try.ntmps7
  obtain ⟨D1, hD1⟩ : ∃ D, w0.heap.size = D := ⟨_, rfl⟩
  go_upto_region 1 with fail
  have H2 := hid (show St _ _ (.cells (D1 + 1) _ _ :: .cells D1 _ _ :: _) _ _ from ((HI0.out.alloc #[.int .i64 sw, .int .i64 sh, .int .i64 sm] 24 hD1).alloc #[.int .i64 0, .int .i64 0, .int .i64 0, .bool false, .int .i64 0, .int .i64 0, .int .i64 0, .int .i64 0, .slice none 0 0, .slice none 0 0, .slice none 0 0, .int .i64 0, .int .i64 0, .slice none 0 0, .slice none 0 0, .int .i64 0, .slice none 0 0, .int .i64 0] 33 (by first | exact hD1 | simp [hD1])))
  first | refine gen_code H2.out ?_ | refine gen_list H2.out ?_ | refine gen_calls H2.out ?_
  intro w3 hG
  clear H2
  have H2 := hid hG
  clear hG
  clear hD1
  go_wp2_with fail
  refine (nextB_any B k _ _ (by omega) (H2.out.tapeAt 2 rfl)).mono ?_
  rintro e w5 ⟨x4, rfl, x4a, x4b, htn, hgn, hsn⟩
  have H6 := hid (H2.out.next 2 rfl htn hgn)
  clear htn hgn hsn
  go_wp2_with fail
  refine (nextB_any B k _ _ (by omega) (H6.out.tapeAt 2 rfl)).mono ?_
  rintro e w8 ⟨x7, rfl, x7a, x7b, htn, hgn, hsn⟩
  have H9 := hid (H6.out.next 2 rfl htn hgn)
  clear htn hgn hsn
  obtain ⟨bar9, hbar9⟩ : ∃ q : Bool, ((x7 : Int) == 3) = q := ⟨_, rfl⟩
  obtain ⟨D10, hD10⟩ : ∃ D, w8.heap.size = D := ⟨_, rfl⟩
  have H11 := hid (H9.out.alloc #[.int .i64 0, .int .i64 0, .int .i64 0, .bool false, .int .i64 0, .int .i64 0, .int .i64 0, .int .i64 0, .slice none 0 0, .slice none 0 0, .slice none 0 0, .int .i64 0, .int .i64 0, .slice none 0 0, .slice none 0 0, .int .i64 0, .slice none 0 0, .int .i64 0] 33 hD10)
  go_upto_region 2 with (refine storeArm (H11.out.rowAt 0 rfl) (cs' := #[.int .i64 (1 + x4), .int .i64 a, .int .i64 (-1), .bool bar9, .int .i64 0, .int .i64 0, .int .i64 0, .int .i64 0, .slice none 0 0, .slice none 0 0, .slice none 0 0, .int .i64 0, .int .i64 0, .slice none 0 0, .slice none 0 0, .int .i64 0, .slice none 0 0, .int .i64 0]) (by first | rfl | kernel_rfl) (by first | rfl | kernel_rfl) (by first | rfl | kernel_rfl) (by rfl) (by rfl) (by rfl) ?_)
  clear H11
  have H12 := hid (show St B W (.cells D10 #[.int .i64 (1 + x4), .int .i64 a, .int .i64 (-1), .bool bar9, .int .i64 0, .int .i64 0, .int .i64 0, .int .i64 0, .slice none 0 0, .slice none 0 0, .slice none 0 0, .int .i64 0, .int .i64 0, .slice none 0 0, .slice none 0 0, .int .i64 0, .slice none 0 0, .int .i64 0] 33 :: .cells (D1 + 1) #[.int .i64 0, .int .i64 0, .int .i64 0, .bool false, .int .i64 0, .int .i64 0, .int .i64 0, .int .i64 0, .slice none 0 0, .slice none 0 0, .slice none 0 0, .int .i64 0, .int .i64 0, .slice none 0 0, .slice none 0 0, .int .i64 0, .slice none 0 0, .int .i64 0] 33 :: .cells D1 #[.int .i64 sw, .int .i64 sh, .int .i64 sm] 24 :: .tape k :: l) rs ((w8.alloc (.cells #[.int .i64 0, .int .i64 0, .int .i64 0, .bool false, .int .i64 0, .int .i64 0, .int .i64 0, .int .i64 0, .slice none 0 0, .slice none 0 0, .slice none 0 0, .int .i64 0, .int .i64 0, .slice none 0 0, .slice none 0 0, .int .i64 0, .slice none 0 0, .int .i64 0] 33)).setRow D10 #[.int .i64 (1 + x4), .int .i64 a, .int .i64 (-1), .bool bar9, .int .i64 0, .int .i64 0, .int .i64 0, .int .i64 0, .slice none 0 0, .slice none 0 0, .slice none 0 0, .int .i64 0, .int .i64 0, .slice none 0 0, .slice none 0 0, .int .i64 0, .slice none 0 0, .int .i64 0]) from ((H9.out.alloc #[.int .i64 0, .int .i64 0, .int .i64 0, .bool false, .int .i64 0, .int .i64 0, .int .i64 0, .int .i64 0, .slice none 0 0, .slice none 0 0, .slice none 0 0, .int .i64 0, .int .i64 0, .slice none 0 0, .slice none 0 0, .int .i64 0, .slice none 0 0, .int .i64 0] 33 hD10).setRow 0 rfl #[.int .i64 (1 + x4), .int .i64 a, .int .i64 (-1), .bool bar9, .int .i64 0, .int .i64 0, .int .i64 0, .int .i64 0, .slice none 0 0, .slice none 0 0, .slice none 0 0, .int .i64 0, .int .i64 0, .slice none 0 0, .slice none 0 0, .int .i64 0, .slice none 0 0, .int .i64 0]))
  first | refine gen_code H12.out ?_ | refine gen_list H12.out ?_ | refine gen_calls H12.out ?_
  intro w13 hG
  clear H12
  have H12 := hid hG
  clear hG
  clear hD10
  clear hbar9
  obtain ⟨D14, hD14⟩ : ∃ D, w13.heap.size = D := ⟨_, rfl⟩
  go_wp2_with fail
  have H15 := hid (H12.out.alloc #[.int .i64 255, .int .i64 65535, .int .i64 15] 3 hD14)
  first | refine gen_code H15.out ?_ | refine gen_list H15.out ?_ | refine gen_calls H15.out ?_
  intro w16 hG
  clear H15
  have H15 := hid hG
  clear hG
  clear hD14
  refine (pickB_any B k _ 3 3 [255, 65535, 15] _ (by omega) (by omega) (H15.out.tapeAt 4 rfl) (H15.out.lit 0 [255, 65535, 15] rfl (by simp)).row (.inr ⟨_, rfl, H15.out.ne 0 4 rfl rfl (by decide) rfl rfl⟩)).mono ?_
  rintro e w18 ⟨x17, rfl, hx17, htn, hgn, hsn⟩
  have H19 := hid (H15.out.next 4 rfl htn hgn)
  clear htn hgn hsn
  obtain ⟨x17a, x17b⟩ : (15 : Int) ≤ x17 ∧ x17 ≤ 65535 := by simp at hx17; omega
  clear hx17
  by_cases c20 : (1 + x4 : Int) = 1
  · obtain ⟨c20c, c20d⟩ : (1 + x4 : Int) ≤ 1 ∧ (1 : Int) ≤ 1 + x4 := by omega
    have c20a : ((1 + x4 : Int) == (1)) = true := by simpa using c20
    have c20b : ((1 + x4 : Int) != (1)) = false := by simpa using c20
    have c20h := hid c20
    clear c20
    have z21 := H19.out.cell 1 rfl 0 rfl
    go_upto_region 5 with fail
    clear z21
    have H22 := hid H19.out.drew
    refine wp_region_held_drew (S := (fun w' => w'.cell? ⟨D1, 0, none⟩ = some (.int .i64 sw) ∧ w'.cell? ⟨D1, 1, none⟩ = some (.int .i64 sh) ∧ w'.cell? ⟨D1, 2, none⟩ = some (.int .i64 sm))) (by kernel_rfl) ⟨H22.out.cell 3 rfl 0 rfl, H22.out.cell 3 rfl 1 rfl, H22.out.cell 3 rfl 2 rfl⟩ (fun hHeld => ?_)
    generalize w18.drew = k23 at *
    refine tkA 0 ?_
    try simp only [Act.put, p1, p2, p3, p4, p5, p6]
    refine tkA 3 ?_
    try simp only [Act.put, p1, p2, p3, p4, p5, p6]
    refine tkA 6 ?_
    try simp only [Act.put, p1, p2, p3, p4, p5, p6]
    refine tkA 7 ?_
    try simp only [Act.put, p1, p2, p3, p4, p5, p6]
    refine tkA 9 ?_
    try simp only [Act.put, p1, p2, p3, p4, p5, p6]
    refine tkA 10 ?_
    try simp only [Act.put, p1, p2, p3, p4, p5, p6]
    refine tkA 11 ?_
    try simp only [Act.put, p1, p2, p3, p4, p5, p6]
    refine wpAnyH_ready (rs := [1, 4]) (by kernel_rfl) (by simp) (AllReadyH.cons (o := _) rfl (fun K hK => ?_) (AllReadyH.cons (o := _) rfl (fun K hK => ?_) AllReadyH.nil))
    · obtain ⟨D24, hD24⟩ : ∃ D, k23.heap.size = D := ⟨_, rfl⟩
      have H25 := hid (H22.out.alloc #[.int .i64 1, .int .i64 3, .int .i64 2, .int .i64 5] 3 hD24)
      go_simp
      refine hK.out _ _ ?_ (fun hHeld2 => ?_)
      focus ((try dsimp only); (exact ⟨H25.out.cell 4 rfl 0 rfl, H25.out.cell 4 rfl 1 rfl, H25.out.cell 4 rfl 2 rfl⟩))
      clear hK K hHeld
      try simp only [Act.put, p1, p2, p3, p4, p5, p6]
      clear hD24
      generalize (k23.alloc (.cells #[.int .i64 1, .int .i64 3, .int .i64 2, .int .i64 5] 3)) = k26 at *
      have hHeld := hHeld2
      clear hHeld2
      refine wpAnyH_ready (rs := [2, 4]) (by kernel_rfl) (by simp) (AllReadyH.cons (o := _) rfl (fun K hK => ?_) (AllReadyH.cons (o := _) rfl (fun K hK => ?_) AllReadyH.nil))
      · go_simp
        go_at_call 20
        refine (pickB_any B k _ 4 4 [1, 3, 2, 5] _ (by omega) (by omega) (H25.out.tapeAt 5 rfl) (H25.out.lit 0 [1, 3, 2, 5] rfl (by simp)).row (.inr ⟨_, rfl, H25.out.ne 0 5 rfl rfl (by decide) rfl rfl⟩)).mono ?_
        rintro e w28 ⟨x27, rfl, hx27, htn, hgn, hsn⟩
        have H29 := hid (H25.out.next 5 rfl htn hgn)
        clear htn hgn hsn
        obtain ⟨x27a, x27b⟩ : (1 : Int) ≤ x27 ∧ x27 ≤ 5 := by simp at hx27; omega
        clear hx27
        refine hK.out _ _ ?_ (fun hHeld2 => ?_)
        focus ((try dsimp only); (exact ⟨H29.out.cell 4 rfl 0 rfl, H29.out.cell 4 rfl 1 rfl, H29.out.cell 4 rfl 2 rfl⟩))
        clear hK K
        try simp only [Act.put, p1, p2, p3, p4, p5, p6]
        clear hHeld
        have hHeld := hHeld2
        clear hHeld2
        refine tkA 13 ?_
        try simp only [Act.put, p1, p2, p3, p4, p5, p6]
        refine wpAnyH_ready (rs := [4]) (by kernel_rfl) (by simp) (AllReadyH.cons (o := _) rfl (fun K hK => ?_) AllReadyH.nil)
        obtain ⟨D30, hD30⟩ : ∃ D, w28.heap.size = D := ⟨_, rfl⟩
        have H31 := hid (H29.out.alloc #[.int .i64 1, .int .i64 3, .int .i64 2] 3 hD30)
        go_simp
        refine hK.out _ _ ?_ (fun hHeld2 => ?_)
        focus ((try dsimp only); (exact ⟨H31.out.cell 5 rfl 0 rfl, H31.out.cell 5 rfl 1 rfl, H31.out.cell 5 rfl 2 rfl⟩))
        clear hK K hHeld
        try simp only [Act.put, p1, p2, p3, p4, p5, p6]
        clear hD30
        generalize (w28.alloc (.cells #[.int .i64 1, .int .i64 3, .int .i64 2] 3)) = k32 at *
        have hHeld := hHeld2
        clear hHeld2
        refine wpAnyH_ready (rs := [5]) (by kernel_rfl) (by simp) (AllReadyH.cons (o := _) rfl (fun K hK => ?_) AllReadyH.nil)
        go_simp
        go_at_call 20
        refine (pickB_any B k _ 3 3 [1, 3, 2] _ (by omega) (by omega) (H31.out.tapeAt 6 rfl) (H31.out.lit 0 [1, 3, 2] rfl (by simp)).row (.inr ⟨_, rfl, H31.out.ne 0 6 rfl rfl (by decide) rfl rfl⟩)).mono ?_
        rintro e w34 ⟨x33, rfl, hx33, htn, hgn, hsn⟩
        have H35 := hid (H31.out.next 6 rfl htn hgn)
        clear htn hgn hsn
        obtain ⟨x33a, x33b⟩ : (1 : Int) ≤ x33 ∧ x33 ≤ 3 := by simp at hx33; omega
        clear hx33
        refine hK.out _ _ ?_ (fun hHeld2 => ?_)
        focus ((try dsimp only); (exact ⟨H35.out.cell 5 rfl 0 rfl, H35.out.cell 5 rfl 1 rfl, H35.out.cell 5 rfl 2 rfl⟩))
        clear hK K
        try simp only [Act.put, p1, p2, p3, p4, p5, p6]
        clear hHeld
        have hHeld := hHeld2
        clear hHeld2
        refine wpAnyH_ready (rs := [8]) (by kernel_rfl) (by simp) (AllReadyH.cons (o := _) rfl (fun K hK => ?_) AllReadyH.nil)
        go_simp
        go_at_call 19
        refine (nextB_any B k _ _ (by omega) (H35.out.tapeAt 6 rfl)).mono ?_
        rintro e w37 ⟨x36, rfl, x36a, x36b, htn, hgn, hsn⟩
        have H38 := hid (H35.out.next 6 rfl htn hgn)
        clear htn hgn hsn
        refine hK.out _ _ ?_ (fun hHeld2 => ?_)
        focus ((try dsimp only); (exact ⟨H38.out.cell 5 rfl 0 rfl, H38.out.cell 5 rfl 1 rfl, H38.out.cell 5 rfl 2 rfl⟩))
        clear hK K
        try simp only [Act.put, p1, p2, p3, p4, p5, p6]
        clear hHeld
        have hHeld := hHeld2
        clear hHeld2
        refine wpAnyH_ready (rs := [12]) (by kernel_rfl) (by simp) (AllReadyH.cons (o := _) rfl (fun K hK => ?_) AllReadyH.nil)
        go_simp
        go_at_call 21
        refine (edge_any B k _ _ (H38.out.tapeAt 6 rfl)).mono ?_
        rintro e w40 ⟨e39_0, e39_1, rfl, ht, hg⟩
        have H41 := hid (H38.out.next 6 rfl ht hg)
        clear ht hg
        refine hK.out _ _ ?_ (fun hHeld2 => ?_)
        focus ((try dsimp only); (exact ⟨H41.out.cell 5 rfl 0 rfl, H41.out.cell 5 rfl 1 rfl, H41.out.cell 5 rfl 2 rfl⟩))
        clear hK K
        try simp only [Act.put, p1, p2, p3, p4, p5, p6]
        clear hHeld
        have hHeld := hHeld2
        clear hHeld2
        refine wpAnyH_ready (rs := [14]) (by kernel_rfl) (by simp) (AllReadyH.cons (o := _) rfl (fun K hK => ?_) AllReadyH.nil)
        have z42 := H41.out.cell 3 rfl 6 rfl
        have z43 := H41.out.free 3 rfl 6
        have H44 := hid (show St _ _ (_ :: _ :: _ :: .cells D10 #[.int .i64 (1 + x4), .int .i64 a, .int .i64 (-1), .bool bar9, .int .i64 0, .int .i64 0, .int .i64 x27, .int .i64 0, .slice none 0 0, .slice none 0 0, .slice none 0 0, .int .i64 0, .int .i64 0, .slice none 0 0, .slice none 0 0, .int .i64 0, .slice none 0 0, .int .i64 0] 33 :: _) _ _ from (H41.out.set 3 rfl 6 (.int .i64 x27)))
        go_simp
        refine hK.out _ _ ?_ (fun hHeld2 => ?_)
        focus ((try dsimp only); (exact ⟨H44.out.cell 5 rfl 0 rfl, H44.out.cell 5 rfl 1 rfl, H44.out.cell 5 rfl 2 rfl⟩))
        clear hK K hHeld
        try simp only [Act.put, p1, p2, p3, p4, p5, p6]
        clear z42 z43
        generalize (w40.setCell ⟨D10, 6, none⟩ (.int .i64 x27)) = k45 at *
        have hHeld := hHeld2
        clear hHeld2
        refine tkA 15 ?_
        try simp only [Act.put, p1, p2, p3, p4, p5, p6]
        refine wpAnyH_ready (rs := [16]) (by kernel_rfl) (by simp) (AllReadyH.cons (o := _) rfl (fun K hK => ?_) AllReadyH.nil)
        have z46 := H44.out.cell 3 rfl 7 rfl
        have z47 := H44.out.free 3 rfl 7
        have H48 := hid (show St _ _ (_ :: _ :: _ :: .cells D10 #[.int .i64 (1 + x4), .int .i64 a, .int .i64 (-1), .bool bar9, .int .i64 0, .int .i64 0, .int .i64 x27, .int .i64 x33, .slice none 0 0, .slice none 0 0, .slice none 0 0, .int .i64 0, .int .i64 0, .slice none 0 0, .slice none 0 0, .int .i64 0, .slice none 0 0, .int .i64 0] 33 :: _) _ _ from (H44.out.set 3 rfl 7 (.int .i64 x33)))
        go_simp
        refine hK.out _ _ ?_ (fun hHeld2 => ?_)
        focus ((try dsimp only); (exact ⟨H48.out.cell 5 rfl 0 rfl, H48.out.cell 5 rfl 1 rfl, H48.out.cell 5 rfl 2 rfl⟩))
        clear hK K hHeld
        try simp only [Act.put, p1, p2, p3, p4, p5, p6]
        clear z46 z47
        generalize (k45.setCell ⟨D10, 7, none⟩ (.int .i64 x33)) = k49 at *
        have hHeld := hHeld2
        clear hHeld2
        refine tkA 17 ?_
        try simp only [Act.put, p1, p2, p3, p4, p5, p6]
        refine wpAnyH_ready (rs := [18]) (by kernel_rfl) (by simp) (AllReadyH.cons (o := _) rfl (fun K hK => ?_) AllReadyH.nil)
        have z50 := H48.out.cell 3 rfl 17 rfl
        have z51 := H48.out.free 3 rfl 17
        have H52 := hid (show St _ _ (_ :: _ :: _ :: .cells D10 #[.int .i64 (1 + x4), .int .i64 a, .int .i64 (-1), .bool bar9, .int .i64 0, .int .i64 0, .int .i64 x27, .int .i64 x33, .slice none 0 0, .slice none 0 0, .slice none 0 0, .int .i64 0, .int .i64 0, .slice none 0 0, .slice none 0 0, .int .i64 0, .slice none 0 0, .int .i64 x17] 33 :: _) _ _ from (H48.out.set 3 rfl 17 (.int .i64 x17)))
        go_simp
        refine hK.out _ _ ?_ (fun hHeld2 => ?_)
        focus ((try dsimp only); (exact ⟨H52.out.cell 5 rfl 0 rfl, H52.out.cell 5 rfl 1 rfl, H52.out.cell 5 rfl 2 rfl⟩))
        clear hK K hHeld
        try simp only [Act.put, p1, p2, p3, p4, p5, p6]
        clear z50 z51
        generalize (k49.setCell ⟨D10, 17, none⟩ (.int .i64 x17)) = k53 at *
        have hHeld := hHeld2
        clear hHeld2
        refine tkA 19 ?_
        try simp only [Act.put, p1, p2, p3, p4, p5, p6]
        refine wpAnyH_ready (rs := [20]) (by kernel_rfl) (by simp) (AllReadyH.cons (o := _) rfl (fun K hK => ?_) AllReadyH.nil)
        have z54 := H52.out.cell 3 rfl 11 rfl
        have z55 := H52.out.free 3 rfl 11
        have H56 := hid (show St _ _ (_ :: _ :: _ :: .cells D10 #[.int .i64 (1 + x4), .int .i64 a, .int .i64 (-1), .bool bar9, .int .i64 0, .int .i64 0, .int .i64 x27, .int .i64 x33, .slice none 0 0, .slice none 0 0, .slice none 0 0, .int .i64 x36, .int .i64 0, .slice none 0 0, .slice none 0 0, .int .i64 0, .slice none 0 0, .int .i64 x17] 33 :: _) _ _ from (H52.out.set 3 rfl 11 (.int .i64 x36)))
        go_simp
        refine hK.out _ _ ?_ (fun hHeld2 => ?_)
        focus ((try dsimp only); (exact ⟨H56.out.cell 5 rfl 0 rfl, H56.out.cell 5 rfl 1 rfl, H56.out.cell 5 rfl 2 rfl⟩))
        clear hK K hHeld
        try simp only [Act.put, p1, p2, p3, p4, p5, p6]
        clear z54 z55
        generalize (k53.setCell ⟨D10, 11, none⟩ (.int .i64 x36)) = k57 at *
        have hHeld := hHeld2
        clear hHeld2
        refine tkA 21 ?_
        try simp only [Act.put, p1, p2, p3, p4, p5, p6]
        refine wpAnyH_ready (rs := [22]) (by kernel_rfl) (by simp) (AllReadyH.cons (o := _) rfl (fun K hK => ?_) AllReadyH.nil)
        have z58 := H56.out.cell 3 rfl 4 rfl
        have z59 := H56.out.free 3 rfl 4
        have z60 := H56.out.cell 3 rfl 5 rfl
        have z61 := H56.out.free 3 rfl 5
        have H62 := hid (show St _ _ (_ :: _ :: _ :: .cells D10 #[.int .i64 (1 + x4), .int .i64 a, .int .i64 (-1), .bool bar9, .int .i64 e39_0, .int .i64 e39_1, .int .i64 x27, .int .i64 x33, .slice none 0 0, .slice none 0 0, .slice none 0 0, .int .i64 x36, .int .i64 0, .slice none 0 0, .slice none 0 0, .int .i64 0, .slice none 0 0, .int .i64 x17] 33 :: _) _ _ from ((H56.out.set 3 rfl 4 (.int .i64 e39_0)).set 3 rfl 5 (.int .i64 e39_1)))
        go_simp
        refine hK.out _ _ ?_ (fun hHeld2 => ?_)
        focus ((try dsimp only); (exact ⟨H62.out.cell 5 rfl 0 rfl, H62.out.cell 5 rfl 1 rfl, H62.out.cell 5 rfl 2 rfl⟩))
        clear hK K hHeld
        try simp only [Act.put, p1, p2, p3, p4, p5, p6]
        clear z58 z59 z60 z61
        generalize ((k57.setCell ⟨D10, 4, none⟩ (.int .i64 e39_0)).setCell ⟨D10, 5, none⟩ (.int .i64 e39_1)) = k63 at *
        have hHeld := hHeld2
        clear hHeld2
        refine wpAnyH_done (by kernel_rfl) ?_ _
        try clear hHeld
        obtain ⟨pr, hpr⟩ : ∃ z, x27 * x33 = z := ⟨_, rfl⟩
        obtain ⟨pr1, pr2⟩ : 0 ≤ pr ∧ pr ≤ 15 := by have g1 := Int.mul_le_mul (show x27 ≤ 5 by omega) (show x33 ≤ 3 by omega) (by omega) (by omega); have g2 := Int.mul_nonneg (show 0 ≤ x27 by omega) (show 0 ≤ x33 by omega); omega
        have wpr : IntKind.i64.wrap (x27 * x33) = pr := by rw [hpr]; exact IntWalk.i64_in _ (by omega)
        clear hpr
        have z64 := H62.out.cell 3 rfl 6 rfl
        have z65 := H62.out.cell 3 rfl 7 rfl
        go_wp2_with fail
        clear z64 z65
        refine (weights_any B k _ _ (by omega) (H62.out.tapeAt 6 rfl)).mono ?_
        rintro e w66 ⟨wv67, wl68, rfl, hlen, hin, ho, ht, hg⟩
        have H69 := hid (H62.out.add (H62.out.next 6 rfl ht hg) ho)
        have HWLwl68 := hid hlen
        have HWBwl68 := hid hin
        obtain ⟨wv67a, wv67c, rfl, -⟩ := ho.slc
        clear hlen hin ho ht hg
        have z70 := H69.out.cell 4 rfl 8 rfl
        have z71 := H69.out.free 4 rfl 8
        go_upto_region 17 with fail
        clear z70 z71
        have H72 := hid (show St _ _ (_ :: _ :: _ :: _ :: .cells D10 #[.int .i64 (1 + x4), .int .i64 a, .int .i64 (-1), .bool bar9, .int .i64 e39_0, .int .i64 e39_1, .int .i64 x27, .int .i64 x33, .slice wv67a wl68.length wv67c, .slice none 0 0, .slice none 0 0, .int .i64 x36, .int .i64 0, .slice none 0 0, .slice none 0 0, .int .i64 0, .slice none 0 0, .int .i64 x17] 33 :: _) _ _ from (H69.out.set 4 rfl 8 (.slice wv67a wl68.length wv67c)))
        first | refine gen_code H72.out ?_ | refine gen_list H72.out ?_ | refine gen_calls H72.out ?_
        intro w73 hG
        clear H72
        have H72 := hid hG
        clear hG
        obtain ⟨A9, hA9⟩ : ∃ z : Array Value, #[.int .i64 (1 + x4), .int .i64 a, .int .i64 (-1), .bool bar9, .int .i64 e39_0, .int .i64 e39_1, .int .i64 x27, .int .i64 x33, .slice wv67a wl68.length wv67c, .slice none 0 0, .slice none 0 0, .int .i64 x36, .int .i64 0, .slice none 0 0, .slice none 0 0, .int .i64 0, .slice none 0 0, .int .i64 x17] = z := ⟨_, rfl⟩
        have H74 := H72; rw [hA9] at H74
        have HA9 := hid hA9.symm
        clear hA9
        obtain ⟨z75, z76, z77, z78, z79, z80, z81, z82, z83, z84, z85, z86, z87, z88, z89, z90, z91, z92⟩ := cs18 H74.out 5 rfl
        have z93 := H74.out.loadStg 4 rfl (by rw [HA9.out]; rfl)
        go_wp2_with (first | (refine loadArm z93 (by rfl) (by rfl) ?_) | (refine storeArm (H74.out.rowAt 5 rfl) (cs' := A9) (by rw [HA9.out]; first | rfl | kernel_rfl) (by rw [HA9.out]; first | rfl | kernel_rfl) (by rw [HA9.out]; first | rfl | kernel_rfl) (by rfl) (by rfl) (by rfl) ?_))
        clear z75 z76 z77 z78 z79 z80 z81 z82 z83 z84 z85 z86 z87 z88 z89 z90 z91 z92 z93
        have H94 := hid (show St _ _ (_ :: _ :: _ :: _ :: _ :: .cells (D1 + 1) A9 33 :: _) _ _ from (H74.out.setRow 5 rfl A9))
        have H95 := hid (H94.out.arrNilE 55 2)
        have H96 := hid (H95.out.arrNilE 55 2)
        have H97 := hid (H96.out.grow (Below.refl _ _) (Own.nil _ _))
        have H98 := hid (H97.out.grow (Below.refl _ _) (Own.nil _ _))
        have H99 := hid (H98.out.arrNilE 57 2)
        have hfin := St.pickT (l0 := [_, _, _, _, _, _, _, _, _, _, _, _, _]) (T := l) (l' := [_, _, _, _, _, _, _]) H99.out [3, 4, 5, 1, 2, 0, 12] rfl (by decide)
        refine bodyPost_ret (v := .agg A9) ?_ rfl ⟨⟨(1 + x4), a, (-1), bar9, e39_0, e39_1, x27, x33, wv67a, wv67c, wl68, none, 0, [], none, 0, [], x36, 0, none, 0, 0, [], none, 0, 0, [], 0, none, 0, 0, [], x17⟩, rs, by rw [HA9.out]; rfl, ⟨by (try simp only [List.length_nil]); have := HWLwl68.out; first | omega | (simp; omega), by (try simp only [List.length_nil]); have := HWLwl68.out; first | omega | (simp; omega), by (try simp only [List.length_nil]); have := HWLwl68.out; first | omega | (simp; omega), by (try simp only [List.length_nil]); have := HWLwl68.out; first | omega | (simp; omega), by (try simp only [List.length_nil]); have := HWLwl68.out; first | omega | (simp; omega), by (try simp only [List.length_nil]); have := HWLwl68.out; first | omega | (simp; omega)⟩, TQ.nilT _ _, TQ.nilT _ _, hfin⟩
        exact results_cell_row rfl _ _ (D1 + 1) 33 _ (0, 0) _ (by rfl) (H99.out.rowAt 10 rfl) Try.underlying33 rfl (by have hz : (Try.prog.info? 33).map (·.size) = some 18 := (by kernel_rfl); rw [hz, HA9.out]; rfl)
      · obtain ⟨D100, hD100⟩ : ∃ D, k26.heap.size = D := ⟨_, rfl⟩
        have H101 := hid (H25.out.alloc #[.int .i64 1, .int .i64 3, .int .i64 2] 3 hD100)
        go_simp
        refine hK.out _ _ ?_ (fun hHeld2 => ?_)
        focus ((try dsimp only); (exact ⟨H101.out.cell 5 rfl 0 rfl, H101.out.cell 5 rfl 1 rfl, H101.out.cell 5 rfl 2 rfl⟩))
        clear hK K hHeld
        try simp only [Act.put, p1, p2, p3, p4, p5, p6]
        clear hD100
        generalize (k26.alloc (.cells #[.int .i64 1, .int .i64 3, .int .i64 2] 3)) = k102 at *
        have hHeld := hHeld2
        clear hHeld2
        refine wpAnyH_ready (rs := [2]) (by kernel_rfl) (by simp) (AllReadyH.cons (o := _) rfl (fun K hK => ?_) AllReadyH.nil)
        go_simp
        go_at_call 20
        refine (pickB_any B k _ 4 4 [1, 3, 2, 5] _ (by omega) (by omega) (H101.out.tapeAt 6 rfl) (H101.out.lit 1 [1, 3, 2, 5] rfl (by simp)).row (.inr ⟨_, rfl, H101.out.ne 1 6 rfl rfl (by decide) rfl rfl⟩)).mono ?_
        rintro e w104 ⟨x103, rfl, hx103, htn, hgn, hsn⟩
        have H105 := hid (H101.out.next 6 rfl htn hgn)
        clear htn hgn hsn
        obtain ⟨x103a, x103b⟩ : (1 : Int) ≤ x103 ∧ x103 ≤ 5 := by simp at hx103; omega
        clear hx103
        refine hK.out _ _ ?_ (fun hHeld2 => ?_)
        focus ((try dsimp only); (exact ⟨H105.out.cell 5 rfl 0 rfl, H105.out.cell 5 rfl 1 rfl, H105.out.cell 5 rfl 2 rfl⟩))
        clear hK K
        try simp only [Act.put, p1, p2, p3, p4, p5, p6]
        clear hHeld
        have hHeld := hHeld2
        clear hHeld2
        refine tkA 13 ?_
        try simp only [Act.put, p1, p2, p3, p4, p5, p6]
        refine wpAnyH_ready (rs := [5]) (by kernel_rfl) (by simp) (AllReadyH.cons (o := _) rfl (fun K hK => ?_) AllReadyH.nil)
        go_simp
        go_at_call 20
        refine (pickB_any B k _ 3 3 [1, 3, 2] _ (by omega) (by omega) (H105.out.tapeAt 6 rfl) (H105.out.lit 0 [1, 3, 2] rfl (by simp)).row (.inr ⟨_, rfl, H105.out.ne 0 6 rfl rfl (by decide) rfl rfl⟩)).mono ?_
        rintro e w107 ⟨x106, rfl, hx106, htn, hgn, hsn⟩
        have H108 := hid (H105.out.next 6 rfl htn hgn)
        clear htn hgn hsn
        obtain ⟨x106a, x106b⟩ : (1 : Int) ≤ x106 ∧ x106 ≤ 3 := by simp at hx106; omega
        clear hx106
        refine hK.out _ _ ?_ (fun hHeld2 => ?_)
        focus ((try dsimp only); (exact ⟨H108.out.cell 5 rfl 0 rfl, H108.out.cell 5 rfl 1 rfl, H108.out.cell 5 rfl 2 rfl⟩))
        clear hK K
        try simp only [Act.put, p1, p2, p3, p4, p5, p6]
        clear hHeld
        have hHeld := hHeld2
        clear hHeld2
        refine wpAnyH_ready (rs := [8]) (by kernel_rfl) (by simp) (AllReadyH.cons (o := _) rfl (fun K hK => ?_) AllReadyH.nil)
        go_simp
        go_at_call 19
        refine (nextB_any B k _ _ (by omega) (H108.out.tapeAt 6 rfl)).mono ?_
        rintro e w110 ⟨x109, rfl, x109a, x109b, htn, hgn, hsn⟩
        have H111 := hid (H108.out.next 6 rfl htn hgn)
        clear htn hgn hsn
        refine hK.out _ _ ?_ (fun hHeld2 => ?_)
        focus ((try dsimp only); (exact ⟨H111.out.cell 5 rfl 0 rfl, H111.out.cell 5 rfl 1 rfl, H111.out.cell 5 rfl 2 rfl⟩))
        clear hK K
        try simp only [Act.put, p1, p2, p3, p4, p5, p6]
        clear hHeld
        have hHeld := hHeld2
        clear hHeld2
        refine wpAnyH_ready (rs := [12]) (by kernel_rfl) (by simp) (AllReadyH.cons (o := _) rfl (fun K hK => ?_) AllReadyH.nil)
        go_simp
        go_at_call 21
        refine (edge_any B k _ _ (H111.out.tapeAt 6 rfl)).mono ?_
        rintro e w113 ⟨e112_0, e112_1, rfl, ht, hg⟩
        have H114 := hid (H111.out.next 6 rfl ht hg)
        clear ht hg
        refine hK.out _ _ ?_ (fun hHeld2 => ?_)
        focus ((try dsimp only); (exact ⟨H114.out.cell 5 rfl 0 rfl, H114.out.cell 5 rfl 1 rfl, H114.out.cell 5 rfl 2 rfl⟩))
        clear hK K
        try simp only [Act.put, p1, p2, p3, p4, p5, p6]
        clear hHeld
        have hHeld := hHeld2
        clear hHeld2
        refine wpAnyH_ready (rs := [14]) (by kernel_rfl) (by simp) (AllReadyH.cons (o := _) rfl (fun K hK => ?_) AllReadyH.nil)
        have z115 := H114.out.cell 3 rfl 6 rfl
        have z116 := H114.out.free 3 rfl 6
        have H117 := hid (show St _ _ (_ :: _ :: _ :: .cells D10 #[.int .i64 (1 + x4), .int .i64 a, .int .i64 (-1), .bool bar9, .int .i64 0, .int .i64 0, .int .i64 x103, .int .i64 0, .slice none 0 0, .slice none 0 0, .slice none 0 0, .int .i64 0, .int .i64 0, .slice none 0 0, .slice none 0 0, .int .i64 0, .slice none 0 0, .int .i64 0] 33 :: _) _ _ from (H114.out.set 3 rfl 6 (.int .i64 x103)))
        go_simp
        refine hK.out _ _ ?_ (fun hHeld2 => ?_)
        focus ((try dsimp only); (exact ⟨H117.out.cell 5 rfl 0 rfl, H117.out.cell 5 rfl 1 rfl, H117.out.cell 5 rfl 2 rfl⟩))
        clear hK K hHeld
        try simp only [Act.put, p1, p2, p3, p4, p5, p6]
        clear z115 z116
        generalize (w113.setCell ⟨D10, 6, none⟩ (.int .i64 x103)) = k118 at *
        have hHeld := hHeld2
        clear hHeld2
        refine tkA 15 ?_
        try simp only [Act.put, p1, p2, p3, p4, p5, p6]
        refine wpAnyH_ready (rs := [16]) (by kernel_rfl) (by simp) (AllReadyH.cons (o := _) rfl (fun K hK => ?_) AllReadyH.nil)
        have z119 := H117.out.cell 3 rfl 7 rfl
        have z120 := H117.out.free 3 rfl 7
        have H121 := hid (show St _ _ (_ :: _ :: _ :: .cells D10 #[.int .i64 (1 + x4), .int .i64 a, .int .i64 (-1), .bool bar9, .int .i64 0, .int .i64 0, .int .i64 x103, .int .i64 x106, .slice none 0 0, .slice none 0 0, .slice none 0 0, .int .i64 0, .int .i64 0, .slice none 0 0, .slice none 0 0, .int .i64 0, .slice none 0 0, .int .i64 0] 33 :: _) _ _ from (H117.out.set 3 rfl 7 (.int .i64 x106)))
        go_simp
        refine hK.out _ _ ?_ (fun hHeld2 => ?_)
        focus ((try dsimp only); (exact ⟨H121.out.cell 5 rfl 0 rfl, H121.out.cell 5 rfl 1 rfl, H121.out.cell 5 rfl 2 rfl⟩))
        clear hK K hHeld
        try simp only [Act.put, p1, p2, p3, p4, p5, p6]
        clear z119 z120
        generalize (k118.setCell ⟨D10, 7, none⟩ (.int .i64 x106)) = k122 at *
        have hHeld := hHeld2
        clear hHeld2
        refine tkA 17 ?_
        try simp only [Act.put, p1, p2, p3, p4, p5, p6]
        refine wpAnyH_ready (rs := [18]) (by kernel_rfl) (by simp) (AllReadyH.cons (o := _) rfl (fun K hK => ?_) AllReadyH.nil)
        have z123 := H121.out.cell 3 rfl 17 rfl
        have z124 := H121.out.free 3 rfl 17
        have H125 := hid (show St _ _ (_ :: _ :: _ :: .cells D10 #[.int .i64 (1 + x4), .int .i64 a, .int .i64 (-1), .bool bar9, .int .i64 0, .int .i64 0, .int .i64 x103, .int .i64 x106, .slice none 0 0, .slice none 0 0, .slice none 0 0, .int .i64 0, .int .i64 0, .slice none 0 0, .slice none 0 0, .int .i64 0, .slice none 0 0, .int .i64 x17] 33 :: _) _ _ from (H121.out.set 3 rfl 17 (.int .i64 x17)))
        go_simp
        refine hK.out _ _ ?_ (fun hHeld2 => ?_)
        focus ((try dsimp only); (exact ⟨H125.out.cell 5 rfl 0 rfl, H125.out.cell 5 rfl 1 rfl, H125.out.cell 5 rfl 2 rfl⟩))
        clear hK K hHeld
        try simp only [Act.put, p1, p2, p3, p4, p5, p6]
        clear z123 z124
        generalize (k122.setCell ⟨D10, 17, none⟩ (.int .i64 x17)) = k126 at *
        have hHeld := hHeld2
        clear hHeld2
        refine tkA 19 ?_
        try simp only [Act.put, p1, p2, p3, p4, p5, p6]
        refine wpAnyH_ready (rs := [20]) (by kernel_rfl) (by simp) (AllReadyH.cons (o := _) rfl (fun K hK => ?_) AllReadyH.nil)
        have z127 := H125.out.cell 3 rfl 11 rfl
        have z128 := H125.out.free 3 rfl 11
        have H129 := hid (show St _ _ (_ :: _ :: _ :: .cells D10 #[.int .i64 (1 + x4), .int .i64 a, .int .i64 (-1), .bool bar9, .int .i64 0, .int .i64 0, .int .i64 x103, .int .i64 x106, .slice none 0 0, .slice none 0 0, .slice none 0 0, .int .i64 x109, .int .i64 0, .slice none 0 0, .slice none 0 0, .int .i64 0, .slice none 0 0, .int .i64 x17] 33 :: _) _ _ from (H125.out.set 3 rfl 11 (.int .i64 x109)))
        go_simp
        refine hK.out _ _ ?_ (fun hHeld2 => ?_)
        focus ((try dsimp only); (exact ⟨H129.out.cell 5 rfl 0 rfl, H129.out.cell 5 rfl 1 rfl, H129.out.cell 5 rfl 2 rfl⟩))
        clear hK K hHeld
        try simp only [Act.put, p1, p2, p3, p4, p5, p6]
        clear z127 z128
        generalize (k126.setCell ⟨D10, 11, none⟩ (.int .i64 x109)) = k130 at *
        have hHeld := hHeld2
        clear hHeld2
        refine tkA 21 ?_
        try simp only [Act.put, p1, p2, p3, p4, p5, p6]
        refine wpAnyH_ready (rs := [22]) (by kernel_rfl) (by simp) (AllReadyH.cons (o := _) rfl (fun K hK => ?_) AllReadyH.nil)
        have z131 := H129.out.cell 3 rfl 4 rfl
        have z132 := H129.out.free 3 rfl 4
        have z133 := H129.out.cell 3 rfl 5 rfl
        have z134 := H129.out.free 3 rfl 5
        have H135 := hid (show St _ _ (_ :: _ :: _ :: .cells D10 #[.int .i64 (1 + x4), .int .i64 a, .int .i64 (-1), .bool bar9, .int .i64 e112_0, .int .i64 e112_1, .int .i64 x103, .int .i64 x106, .slice none 0 0, .slice none 0 0, .slice none 0 0, .int .i64 x109, .int .i64 0, .slice none 0 0, .slice none 0 0, .int .i64 0, .slice none 0 0, .int .i64 x17] 33 :: _) _ _ from ((H129.out.set 3 rfl 4 (.int .i64 e112_0)).set 3 rfl 5 (.int .i64 e112_1)))
        go_simp
        refine hK.out _ _ ?_ (fun hHeld2 => ?_)
        focus ((try dsimp only); (exact ⟨H135.out.cell 5 rfl 0 rfl, H135.out.cell 5 rfl 1 rfl, H135.out.cell 5 rfl 2 rfl⟩))
        clear hK K hHeld
        try simp only [Act.put, p1, p2, p3, p4, p5, p6]
        clear z131 z132 z133 z134
        generalize ((k130.setCell ⟨D10, 4, none⟩ (.int .i64 e112_0)).setCell ⟨D10, 5, none⟩ (.int .i64 e112_1)) = k136 at *
        have hHeld := hHeld2
        clear hHeld2
        refine wpAnyH_done (by kernel_rfl) ?_ _
        try clear hHeld
        obtain ⟨pr, hpr⟩ : ∃ z, x103 * x106 = z := ⟨_, rfl⟩
        obtain ⟨pr1, pr2⟩ : 0 ≤ pr ∧ pr ≤ 15 := by have g1 := Int.mul_le_mul (show x103 ≤ 5 by omega) (show x106 ≤ 3 by omega) (by omega) (by omega); have g2 := Int.mul_nonneg (show 0 ≤ x103 by omega) (show 0 ≤ x106 by omega); omega
        have wpr : IntKind.i64.wrap (x103 * x106) = pr := by rw [hpr]; exact IntWalk.i64_in _ (by omega)
        clear hpr
        have z137 := H135.out.cell 3 rfl 6 rfl
        have z138 := H135.out.cell 3 rfl 7 rfl
        go_wp2_with fail
        clear z137 z138
        refine (weights_any B k _ _ (by omega) (H135.out.tapeAt 6 rfl)).mono ?_
        rintro e w139 ⟨wv140, wl141, rfl, hlen, hin, ho, ht, hg⟩
        have H142 := hid (H135.out.add (H135.out.next 6 rfl ht hg) ho)
        have HWLwl141 := hid hlen
        have HWBwl141 := hid hin
        obtain ⟨wv140a, wv140c, rfl, -⟩ := ho.slc
        clear hlen hin ho ht hg
        have z143 := H142.out.cell 4 rfl 8 rfl
        have z144 := H142.out.free 4 rfl 8
        go_upto_region 17 with fail
        clear z143 z144
        have H145 := hid (show St _ _ (_ :: _ :: _ :: _ :: .cells D10 #[.int .i64 (1 + x4), .int .i64 a, .int .i64 (-1), .bool bar9, .int .i64 e112_0, .int .i64 e112_1, .int .i64 x103, .int .i64 x106, .slice wv140a wl141.length wv140c, .slice none 0 0, .slice none 0 0, .int .i64 x109, .int .i64 0, .slice none 0 0, .slice none 0 0, .int .i64 0, .slice none 0 0, .int .i64 x17] 33 :: _) _ _ from (H142.out.set 4 rfl 8 (.slice wv140a wl141.length wv140c)))
        first | refine gen_code H145.out ?_ | refine gen_list H145.out ?_ | refine gen_calls H145.out ?_
        intro w146 hG
        clear H145
        have H145 := hid hG
        clear hG
        obtain ⟨A9, hA9⟩ : ∃ z : Array Value, #[.int .i64 (1 + x4), .int .i64 a, .int .i64 (-1), .bool bar9, .int .i64 e112_0, .int .i64 e112_1, .int .i64 x103, .int .i64 x106, .slice wv140a wl141.length wv140c, .slice none 0 0, .slice none 0 0, .int .i64 x109, .int .i64 0, .slice none 0 0, .slice none 0 0, .int .i64 0, .slice none 0 0, .int .i64 x17] = z := ⟨_, rfl⟩
        have H147 := H145; rw [hA9] at H147
        have HA9 := hid hA9.symm
        clear hA9
        obtain ⟨z148, z149, z150, z151, z152, z153, z154, z155, z156, z157, z158, z159, z160, z161, z162, z163, z164, z165⟩ := cs18 H147.out 5 rfl
        have z166 := H147.out.loadStg 4 rfl (by rw [HA9.out]; rfl)
        go_wp2_with (first | (refine loadArm z166 (by rfl) (by rfl) ?_) | (refine storeArm (H147.out.rowAt 5 rfl) (cs' := A9) (by rw [HA9.out]; first | rfl | kernel_rfl) (by rw [HA9.out]; first | rfl | kernel_rfl) (by rw [HA9.out]; first | rfl | kernel_rfl) (by rfl) (by rfl) (by rfl) ?_))
        clear z148 z149 z150 z151 z152 z153 z154 z155 z156 z157 z158 z159 z160 z161 z162 z163 z164 z165 z166
        have H167 := hid (show St _ _ (_ :: _ :: _ :: _ :: _ :: .cells (D1 + 1) A9 33 :: _) _ _ from (H147.out.setRow 5 rfl A9))
        have H168 := hid (H167.out.arrNilE 55 2)
        have H169 := hid (H168.out.arrNilE 55 2)
        have H170 := hid (H169.out.grow (Below.refl _ _) (Own.nil _ _))
        have H171 := hid (H170.out.grow (Below.refl _ _) (Own.nil _ _))
        have H172 := hid (H171.out.arrNilE 57 2)
        have hfin := St.pickT (l0 := [_, _, _, _, _, _, _, _, _, _, _, _, _]) (T := l) (l' := [_, _, _, _, _, _, _]) H172.out [3, 4, 5, 1, 2, 0, 12] rfl (by decide)
        refine bodyPost_ret (v := .agg A9) ?_ rfl ⟨⟨(1 + x4), a, (-1), bar9, e112_0, e112_1, x103, x106, wv140a, wv140c, wl141, none, 0, [], none, 0, [], x109, 0, none, 0, 0, [], none, 0, 0, [], 0, none, 0, 0, [], x17⟩, rs, by rw [HA9.out]; rfl, ⟨by (try simp only [List.length_nil]); have := HWLwl141.out; first | omega | (simp; omega), by (try simp only [List.length_nil]); have := HWLwl141.out; first | omega | (simp; omega), by (try simp only [List.length_nil]); have := HWLwl141.out; first | omega | (simp; omega), by (try simp only [List.length_nil]); have := HWLwl141.out; first | omega | (simp; omega), by (try simp only [List.length_nil]); have := HWLwl141.out; first | omega | (simp; omega), by (try simp only [List.length_nil]); have := HWLwl141.out; first | omega | (simp; omega)⟩, TQ.nilT _ _, TQ.nilT _ _, hfin⟩
        exact results_cell_row rfl _ _ (D1 + 1) 33 _ (0, 0) _ (by rfl) (H172.out.rowAt 10 rfl) Try.underlying33 rfl (by have hz : (Try.prog.info? 33).map (·.size) = some 18 := (by kernel_rfl); rw [hz, HA9.out]; rfl)
    · obtain ⟨D173, hD173⟩ : ∃ D, k23.heap.size = D := ⟨_, rfl⟩
      have H174 := hid (H22.out.alloc #[.int .i64 1, .int .i64 3, .int .i64 2] 3 hD173)
      go_simp
      refine hK.out _ _ ?_ (fun hHeld2 => ?_)
      focus ((try dsimp only); (exact ⟨H174.out.cell 4 rfl 0 rfl, H174.out.cell 4 rfl 1 rfl, H174.out.cell 4 rfl 2 rfl⟩))
      clear hK K hHeld
      try simp only [Act.put, p1, p2, p3, p4, p5, p6]
      clear hD173
      generalize (k23.alloc (.cells #[.int .i64 1, .int .i64 3, .int .i64 2] 3)) = k175 at *
      have hHeld := hHeld2
      clear hHeld2
      refine wpAnyH_ready (rs := [1]) (by kernel_rfl) (by simp) (AllReadyH.cons (o := _) rfl (fun K hK => ?_) AllReadyH.nil)
      obtain ⟨D176, hD176⟩ : ∃ D, k175.heap.size = D := ⟨_, rfl⟩
      have H177 := hid (H174.out.alloc #[.int .i64 1, .int .i64 3, .int .i64 2, .int .i64 5] 3 hD176)
      go_simp
      refine hK.out _ _ ?_ (fun hHeld2 => ?_)
      focus ((try dsimp only); (exact ⟨H177.out.cell 5 rfl 0 rfl, H177.out.cell 5 rfl 1 rfl, H177.out.cell 5 rfl 2 rfl⟩))
      clear hK K hHeld
      try simp only [Act.put, p1, p2, p3, p4, p5, p6]
      clear hD176
      generalize (k175.alloc (.cells #[.int .i64 1, .int .i64 3, .int .i64 2, .int .i64 5] 3)) = k178 at *
      have hHeld := hHeld2
      clear hHeld2
      refine wpAnyH_ready (rs := [2]) (by kernel_rfl) (by simp) (AllReadyH.cons (o := _) rfl (fun K hK => ?_) AllReadyH.nil)
      go_simp
      go_at_call 20
      refine (pickB_any B k _ 4 4 [1, 3, 2, 5] _ (by omega) (by omega) (H177.out.tapeAt 6 rfl) (H177.out.lit 0 [1, 3, 2, 5] rfl (by simp)).row (.inr ⟨_, rfl, H177.out.ne 0 6 rfl rfl (by decide) rfl rfl⟩)).mono ?_
      rintro e w180 ⟨x179, rfl, hx179, htn, hgn, hsn⟩
      have H181 := hid (H177.out.next 6 rfl htn hgn)
      clear htn hgn hsn
      obtain ⟨x179a, x179b⟩ : (1 : Int) ≤ x179 ∧ x179 ≤ 5 := by simp at hx179; omega
      clear hx179
      refine hK.out _ _ ?_ (fun hHeld2 => ?_)
      focus ((try dsimp only); (exact ⟨H181.out.cell 5 rfl 0 rfl, H181.out.cell 5 rfl 1 rfl, H181.out.cell 5 rfl 2 rfl⟩))
      clear hK K
      try simp only [Act.put, p1, p2, p3, p4, p5, p6]
      clear hHeld
      have hHeld := hHeld2
      clear hHeld2
      refine tkA 13 ?_
      try simp only [Act.put, p1, p2, p3, p4, p5, p6]
      refine wpAnyH_ready (rs := [5]) (by kernel_rfl) (by simp) (AllReadyH.cons (o := _) rfl (fun K hK => ?_) AllReadyH.nil)
      go_simp
      go_at_call 20
      refine (pickB_any B k _ 3 3 [1, 3, 2] _ (by omega) (by omega) (H181.out.tapeAt 6 rfl) (H181.out.lit 1 [1, 3, 2] rfl (by simp)).row (.inr ⟨_, rfl, H181.out.ne 1 6 rfl rfl (by decide) rfl rfl⟩)).mono ?_
      rintro e w183 ⟨x182, rfl, hx182, htn, hgn, hsn⟩
      have H184 := hid (H181.out.next 6 rfl htn hgn)
      clear htn hgn hsn
      obtain ⟨x182a, x182b⟩ : (1 : Int) ≤ x182 ∧ x182 ≤ 3 := by simp at hx182; omega
      clear hx182
      refine hK.out _ _ ?_ (fun hHeld2 => ?_)
      focus ((try dsimp only); (exact ⟨H184.out.cell 5 rfl 0 rfl, H184.out.cell 5 rfl 1 rfl, H184.out.cell 5 rfl 2 rfl⟩))
      clear hK K
      try simp only [Act.put, p1, p2, p3, p4, p5, p6]
      clear hHeld
      have hHeld := hHeld2
      clear hHeld2
      refine wpAnyH_ready (rs := [8]) (by kernel_rfl) (by simp) (AllReadyH.cons (o := _) rfl (fun K hK => ?_) AllReadyH.nil)
      go_simp
      go_at_call 19
      refine (nextB_any B k _ _ (by omega) (H184.out.tapeAt 6 rfl)).mono ?_
      rintro e w186 ⟨x185, rfl, x185a, x185b, htn, hgn, hsn⟩
      have H187 := hid (H184.out.next 6 rfl htn hgn)
      clear htn hgn hsn
      refine hK.out _ _ ?_ (fun hHeld2 => ?_)
      focus ((try dsimp only); (exact ⟨H187.out.cell 5 rfl 0 rfl, H187.out.cell 5 rfl 1 rfl, H187.out.cell 5 rfl 2 rfl⟩))
      clear hK K
      try simp only [Act.put, p1, p2, p3, p4, p5, p6]
      clear hHeld
      have hHeld := hHeld2
      clear hHeld2
      refine wpAnyH_ready (rs := [12]) (by kernel_rfl) (by simp) (AllReadyH.cons (o := _) rfl (fun K hK => ?_) AllReadyH.nil)
      go_simp
      go_at_call 21
      refine (edge_any B k _ _ (H187.out.tapeAt 6 rfl)).mono ?_
      rintro e w189 ⟨e188_0, e188_1, rfl, ht, hg⟩
      have H190 := hid (H187.out.next 6 rfl ht hg)
      clear ht hg
      refine hK.out _ _ ?_ (fun hHeld2 => ?_)
      focus ((try dsimp only); (exact ⟨H190.out.cell 5 rfl 0 rfl, H190.out.cell 5 rfl 1 rfl, H190.out.cell 5 rfl 2 rfl⟩))
      clear hK K
      try simp only [Act.put, p1, p2, p3, p4, p5, p6]
      clear hHeld
      have hHeld := hHeld2
      clear hHeld2
      refine wpAnyH_ready (rs := [14]) (by kernel_rfl) (by simp) (AllReadyH.cons (o := _) rfl (fun K hK => ?_) AllReadyH.nil)
      have z191 := H190.out.cell 3 rfl 6 rfl
      have z192 := H190.out.free 3 rfl 6
      have H193 := hid (show St _ _ (_ :: _ :: _ :: .cells D10 #[.int .i64 (1 + x4), .int .i64 a, .int .i64 (-1), .bool bar9, .int .i64 0, .int .i64 0, .int .i64 x179, .int .i64 0, .slice none 0 0, .slice none 0 0, .slice none 0 0, .int .i64 0, .int .i64 0, .slice none 0 0, .slice none 0 0, .int .i64 0, .slice none 0 0, .int .i64 0] 33 :: _) _ _ from (H190.out.set 3 rfl 6 (.int .i64 x179)))
      go_simp
      refine hK.out _ _ ?_ (fun hHeld2 => ?_)
      focus ((try dsimp only); (exact ⟨H193.out.cell 5 rfl 0 rfl, H193.out.cell 5 rfl 1 rfl, H193.out.cell 5 rfl 2 rfl⟩))
      clear hK K hHeld
      try simp only [Act.put, p1, p2, p3, p4, p5, p6]
      clear z191 z192
      generalize (w189.setCell ⟨D10, 6, none⟩ (.int .i64 x179)) = k194 at *
      have hHeld := hHeld2
      clear hHeld2
      refine tkA 15 ?_
      try simp only [Act.put, p1, p2, p3, p4, p5, p6]
      refine wpAnyH_ready (rs := [16]) (by kernel_rfl) (by simp) (AllReadyH.cons (o := _) rfl (fun K hK => ?_) AllReadyH.nil)
      have z195 := H193.out.cell 3 rfl 7 rfl
      have z196 := H193.out.free 3 rfl 7
      have H197 := hid (show St _ _ (_ :: _ :: _ :: .cells D10 #[.int .i64 (1 + x4), .int .i64 a, .int .i64 (-1), .bool bar9, .int .i64 0, .int .i64 0, .int .i64 x179, .int .i64 x182, .slice none 0 0, .slice none 0 0, .slice none 0 0, .int .i64 0, .int .i64 0, .slice none 0 0, .slice none 0 0, .int .i64 0, .slice none 0 0, .int .i64 0] 33 :: _) _ _ from (H193.out.set 3 rfl 7 (.int .i64 x182)))
      go_simp
      refine hK.out _ _ ?_ (fun hHeld2 => ?_)
      focus ((try dsimp only); (exact ⟨H197.out.cell 5 rfl 0 rfl, H197.out.cell 5 rfl 1 rfl, H197.out.cell 5 rfl 2 rfl⟩))
      clear hK K hHeld
      try simp only [Act.put, p1, p2, p3, p4, p5, p6]
      clear z195 z196
      generalize (k194.setCell ⟨D10, 7, none⟩ (.int .i64 x182)) = k198 at *
      have hHeld := hHeld2
      clear hHeld2
      refine tkA 17 ?_
      try simp only [Act.put, p1, p2, p3, p4, p5, p6]
      refine wpAnyH_ready (rs := [18]) (by kernel_rfl) (by simp) (AllReadyH.cons (o := _) rfl (fun K hK => ?_) AllReadyH.nil)
      have z199 := H197.out.cell 3 rfl 17 rfl
      have z200 := H197.out.free 3 rfl 17
      have H201 := hid (show St _ _ (_ :: _ :: _ :: .cells D10 #[.int .i64 (1 + x4), .int .i64 a, .int .i64 (-1), .bool bar9, .int .i64 0, .int .i64 0, .int .i64 x179, .int .i64 x182, .slice none 0 0, .slice none 0 0, .slice none 0 0, .int .i64 0, .int .i64 0, .slice none 0 0, .slice none 0 0, .int .i64 0, .slice none 0 0, .int .i64 x17] 33 :: _) _ _ from (H197.out.set 3 rfl 17 (.int .i64 x17)))
      go_simp
      refine hK.out _ _ ?_ (fun hHeld2 => ?_)
      focus ((try dsimp only); (exact ⟨H201.out.cell 5 rfl 0 rfl, H201.out.cell 5 rfl 1 rfl, H201.out.cell 5 rfl 2 rfl⟩))
      clear hK K hHeld
      try simp only [Act.put, p1, p2, p3, p4, p5, p6]
      clear z199 z200
      generalize (k198.setCell ⟨D10, 17, none⟩ (.int .i64 x17)) = k202 at *
      have hHeld := hHeld2
      clear hHeld2
      refine tkA 19 ?_
      try simp only [Act.put, p1, p2, p3, p4, p5, p6]
      refine wpAnyH_ready (rs := [20]) (by kernel_rfl) (by simp) (AllReadyH.cons (o := _) rfl (fun K hK => ?_) AllReadyH.nil)
      have z203 := H201.out.cell 3 rfl 11 rfl
      have z204 := H201.out.free 3 rfl 11
      have H205 := hid (show St _ _ (_ :: _ :: _ :: .cells D10 #[.int .i64 (1 + x4), .int .i64 a, .int .i64 (-1), .bool bar9, .int .i64 0, .int .i64 0, .int .i64 x179, .int .i64 x182, .slice none 0 0, .slice none 0 0, .slice none 0 0, .int .i64 x185, .int .i64 0, .slice none 0 0, .slice none 0 0, .int .i64 0, .slice none 0 0, .int .i64 x17] 33 :: _) _ _ from (H201.out.set 3 rfl 11 (.int .i64 x185)))
      go_simp
      refine hK.out _ _ ?_ (fun hHeld2 => ?_)
      focus ((try dsimp only); (exact ⟨H205.out.cell 5 rfl 0 rfl, H205.out.cell 5 rfl 1 rfl, H205.out.cell 5 rfl 2 rfl⟩))
      clear hK K hHeld
      try simp only [Act.put, p1, p2, p3, p4, p5, p6]
      clear z203 z204
      generalize (k202.setCell ⟨D10, 11, none⟩ (.int .i64 x185)) = k206 at *
      have hHeld := hHeld2
      clear hHeld2
      refine tkA 21 ?_
      try simp only [Act.put, p1, p2, p3, p4, p5, p6]
      refine wpAnyH_ready (rs := [22]) (by kernel_rfl) (by simp) (AllReadyH.cons (o := _) rfl (fun K hK => ?_) AllReadyH.nil)
      have z207 := H205.out.cell 3 rfl 4 rfl
      have z208 := H205.out.free 3 rfl 4
      have z209 := H205.out.cell 3 rfl 5 rfl
      have z210 := H205.out.free 3 rfl 5
      have H211 := hid (show St _ _ (_ :: _ :: _ :: .cells D10 #[.int .i64 (1 + x4), .int .i64 a, .int .i64 (-1), .bool bar9, .int .i64 e188_0, .int .i64 e188_1, .int .i64 x179, .int .i64 x182, .slice none 0 0, .slice none 0 0, .slice none 0 0, .int .i64 x185, .int .i64 0, .slice none 0 0, .slice none 0 0, .int .i64 0, .slice none 0 0, .int .i64 x17] 33 :: _) _ _ from ((H205.out.set 3 rfl 4 (.int .i64 e188_0)).set 3 rfl 5 (.int .i64 e188_1)))
      go_simp
      refine hK.out _ _ ?_ (fun hHeld2 => ?_)
      focus ((try dsimp only); (exact ⟨H211.out.cell 5 rfl 0 rfl, H211.out.cell 5 rfl 1 rfl, H211.out.cell 5 rfl 2 rfl⟩))
      clear hK K hHeld
      try simp only [Act.put, p1, p2, p3, p4, p5, p6]
      clear z207 z208 z209 z210
      generalize ((k206.setCell ⟨D10, 4, none⟩ (.int .i64 e188_0)).setCell ⟨D10, 5, none⟩ (.int .i64 e188_1)) = k212 at *
      have hHeld := hHeld2
      clear hHeld2
      refine wpAnyH_done (by kernel_rfl) ?_ _
      try clear hHeld
      obtain ⟨pr, hpr⟩ : ∃ z, x179 * x182 = z := ⟨_, rfl⟩
      obtain ⟨pr1, pr2⟩ : 0 ≤ pr ∧ pr ≤ 15 := by have g1 := Int.mul_le_mul (show x179 ≤ 5 by omega) (show x182 ≤ 3 by omega) (by omega) (by omega); have g2 := Int.mul_nonneg (show 0 ≤ x179 by omega) (show 0 ≤ x182 by omega); omega
      have wpr : IntKind.i64.wrap (x179 * x182) = pr := by rw [hpr]; exact IntWalk.i64_in _ (by omega)
      clear hpr
      have z213 := H211.out.cell 3 rfl 6 rfl
      have z214 := H211.out.cell 3 rfl 7 rfl
      go_wp2_with fail
      clear z213 z214
      refine (weights_any B k _ _ (by omega) (H211.out.tapeAt 6 rfl)).mono ?_
      rintro e w215 ⟨wv216, wl217, rfl, hlen, hin, ho, ht, hg⟩
      have H218 := hid (H211.out.add (H211.out.next 6 rfl ht hg) ho)
      have HWLwl217 := hid hlen
      have HWBwl217 := hid hin
      obtain ⟨wv216a, wv216c, rfl, -⟩ := ho.slc
      clear hlen hin ho ht hg
      have z219 := H218.out.cell 4 rfl 8 rfl
      have z220 := H218.out.free 4 rfl 8
      go_upto_region 17 with fail
      clear z219 z220
      have H221 := hid (show St _ _ (_ :: _ :: _ :: _ :: .cells D10 #[.int .i64 (1 + x4), .int .i64 a, .int .i64 (-1), .bool bar9, .int .i64 e188_0, .int .i64 e188_1, .int .i64 x179, .int .i64 x182, .slice wv216a wl217.length wv216c, .slice none 0 0, .slice none 0 0, .int .i64 x185, .int .i64 0, .slice none 0 0, .slice none 0 0, .int .i64 0, .slice none 0 0, .int .i64 x17] 33 :: _) _ _ from (H218.out.set 4 rfl 8 (.slice wv216a wl217.length wv216c)))
      first | refine gen_code H221.out ?_ | refine gen_list H221.out ?_ | refine gen_calls H221.out ?_
      intro w222 hG
      clear H221
      have H221 := hid hG
      clear hG
      obtain ⟨A9, hA9⟩ : ∃ z : Array Value, #[.int .i64 (1 + x4), .int .i64 a, .int .i64 (-1), .bool bar9, .int .i64 e188_0, .int .i64 e188_1, .int .i64 x179, .int .i64 x182, .slice wv216a wl217.length wv216c, .slice none 0 0, .slice none 0 0, .int .i64 x185, .int .i64 0, .slice none 0 0, .slice none 0 0, .int .i64 0, .slice none 0 0, .int .i64 x17] = z := ⟨_, rfl⟩
      have H223 := H221; rw [hA9] at H223
      have HA9 := hid hA9.symm
      clear hA9
      obtain ⟨z224, z225, z226, z227, z228, z229, z230, z231, z232, z233, z234, z235, z236, z237, z238, z239, z240, z241⟩ := cs18 H223.out 5 rfl
      have z242 := H223.out.loadStg 4 rfl (by rw [HA9.out]; rfl)
      go_wp2_with (first | (refine loadArm z242 (by rfl) (by rfl) ?_) | (refine storeArm (H223.out.rowAt 5 rfl) (cs' := A9) (by rw [HA9.out]; first | rfl | kernel_rfl) (by rw [HA9.out]; first | rfl | kernel_rfl) (by rw [HA9.out]; first | rfl | kernel_rfl) (by rfl) (by rfl) (by rfl) ?_))
      clear z224 z225 z226 z227 z228 z229 z230 z231 z232 z233 z234 z235 z236 z237 z238 z239 z240 z241 z242
      have H243 := hid (show St _ _ (_ :: _ :: _ :: _ :: _ :: .cells (D1 + 1) A9 33 :: _) _ _ from (H223.out.setRow 5 rfl A9))
      have H244 := hid (H243.out.arrNilE 55 2)
      have H245 := hid (H244.out.arrNilE 55 2)
      have H246 := hid (H245.out.grow (Below.refl _ _) (Own.nil _ _))
      have H247 := hid (H246.out.grow (Below.refl _ _) (Own.nil _ _))
      have H248 := hid (H247.out.arrNilE 57 2)
      have hfin := St.pickT (l0 := [_, _, _, _, _, _, _, _, _, _, _, _, _]) (T := l) (l' := [_, _, _, _, _, _, _]) H248.out [3, 4, 5, 1, 2, 0, 12] rfl (by decide)
      refine bodyPost_ret (v := .agg A9) ?_ rfl ⟨⟨(1 + x4), a, (-1), bar9, e188_0, e188_1, x179, x182, wv216a, wv216c, wl217, none, 0, [], none, 0, [], x185, 0, none, 0, 0, [], none, 0, 0, [], 0, none, 0, 0, [], x17⟩, rs, by rw [HA9.out]; rfl, ⟨by (try simp only [List.length_nil]); have := HWLwl217.out; first | omega | (simp; omega), by (try simp only [List.length_nil]); have := HWLwl217.out; first | omega | (simp; omega), by (try simp only [List.length_nil]); have := HWLwl217.out; first | omega | (simp; omega), by (try simp only [List.length_nil]); have := HWLwl217.out; first | omega | (simp; omega), by (try simp only [List.length_nil]); have := HWLwl217.out; first | omega | (simp; omega), by (try simp only [List.length_nil]); have := HWLwl217.out; first | omega | (simp; omega)⟩, TQ.nilT _ _, TQ.nilT _ _, hfin⟩
      exact results_cell_row rfl _ _ (D1 + 1) 33 _ (0, 0) _ (by rfl) (H248.out.rowAt 10 rfl) Try.underlying33 rfl (by have hz : (Try.prog.info? 33).map (·.size) = some 18 := (by kernel_rfl); rw [hz, HA9.out]; rfl)
  · have c20a : ((1 + x4 : Int) == (1)) = false := by simpa using c20
    have c20b : ((1 + x4 : Int) != (1)) = true := by simpa using c20
    have c20h := hid c20
    clear c20
    by_cases c249 : (1 + x4 : Int) = 2
    · obtain ⟨c249c, c249d⟩ : (1 + x4 : Int) ≤ 2 ∧ (2 : Int) ≤ 1 + x4 := by omega
      have c249a : ((1 + x4 : Int) == (2)) = true := by simpa using c249
      have c249b : ((1 + x4 : Int) != (2)) = false := by simpa using c249
      have c249h := hid c249
      clear c249
      have z250 := H19.out.cell 1 rfl 0 rfl
      go_upto_region 8 with fail
      clear z250
      have H251 := hid H19.out.drew
      refine wp_region_held_drew (S := (fun w' => w'.cell? ⟨D1, 0, none⟩ = some (.int .i64 sw) ∧ w'.cell? ⟨D1, 1, none⟩ = some (.int .i64 sh) ∧ w'.cell? ⟨D1, 2, none⟩ = some (.int .i64 sm))) (by kernel_rfl) ⟨H251.out.cell 3 rfl 0 rfl, H251.out.cell 3 rfl 1 rfl, H251.out.cell 3 rfl 2 rfl⟩ (fun hHeld => ?_)
      generalize w18.drew = k252 at *
      refine tkA 0 ?_
      try simp only [Act.put, p1, p2, p3, p4, p5, p6]
      refine tkA 1 ?_
      try simp only [Act.put, p1, p2, p3, p4, p5, p6]
      refine tkA 5 ?_
      try simp only [Act.put, p1, p2, p3, p4, p5, p6]
      refine tkA 6 ?_
      try simp only [Act.put, p1, p2, p3, p4, p5, p6]
      refine tkA 10 ?_
      try simp only [Act.put, p1, p2, p3, p4, p5, p6]
      refine tkA 11 ?_
      try simp only [Act.put, p1, p2, p3, p4, p5, p6]
      refine tkA 13 ?_
      try simp only [Act.put, p1, p2, p3, p4, p5, p6]
      refine tkA 15 ?_
      try simp only [Act.put, p1, p2, p3, p4, p5, p6]
      refine tkA 16 ?_
      try simp only [Act.put, p1, p2, p3, p4, p5, p6]
      refine tkA 17 ?_
      try simp only [Act.put, p1, p2, p3, p4, p5, p6]
      refine wpAnyH_ready (rs := [2]) (by kernel_rfl) (by simp) (AllReadyH.cons (o := _) rfl (fun K hK => ?_) AllReadyH.nil)
      go_simp
      go_at_call 19
      refine (nextB_any B k _ _ (by omega) (H251.out.tapeAt 4 rfl)).mono ?_
      rintro e w254 ⟨x253, rfl, x253a, x253b, htn, hgn, hsn⟩
      have H255 := hid (H251.out.next 4 rfl htn hgn)
      clear htn hgn hsn
      have wnx253 : IntKind.i64.wrap (1 + x253) = 1 + x253 := IntWalk.i64_in _ (by omega)
      refine hK.out _ _ ?_ (fun hHeld2 => ?_)
      focus ((try dsimp only); (exact ⟨H255.out.cell 3 rfl 0 rfl, H255.out.cell 3 rfl 1 rfl, H255.out.cell 3 rfl 2 rfl⟩))
      clear hK K
      try simp only [Act.put, p1, p2, p3, p4, p5, p6]
      clear hHeld
      have hHeld := hHeld2
      clear hHeld2
      refine tkA 3 ?_
      try simp only [Act.put, p1, p2, p3, p4, p5, p6]
      refine wpAnyH_ready (rs := [4]) (by kernel_rfl) (by simp) (AllReadyH.cons (o := _) rfl (fun K hK => ?_) AllReadyH.nil)
      go_simp
      go_at_call 22
      refine (weights_any B k _ _ (by omega) (H255.out.tapeAt 4 rfl)).mono ?_
      rintro e w256 ⟨wv257, wl258, rfl, hlen, hin, ho, ht, hg⟩
      have H259 := hid (H255.out.add (H255.out.next 4 rfl ht hg) ho)
      have HWLwl258 := hid hlen
      have HWBwl258 := hid hin
      obtain ⟨wv257a, wv257c, rfl, -⟩ := ho.slc
      clear hlen hin ho ht hg
      refine hK.out _ _ ?_ (fun hHeld2 => ?_)
      focus ((try dsimp only); (exact ⟨H259.out.cell 4 rfl 0 rfl, H259.out.cell 4 rfl 1 rfl, H259.out.cell 4 rfl 2 rfl⟩))
      clear hK K
      try simp only [Act.put, p1, p2, p3, p4, p5, p6]
      clear hHeld
      have hHeld := hHeld2
      clear hHeld2
      refine tkA 19 ?_
      try simp only [Act.put, p1, p2, p3, p4, p5, p6]
      refine wpAnyH_ready (rs := [7]) (by kernel_rfl) (by simp) (AllReadyH.cons (o := _) rfl (fun K hK => ?_) AllReadyH.nil)
      go_simp
      go_at_call 19
      refine (nextB_any B k _ _ (by omega) (H259.out.tapeAt 5 rfl)).mono ?_
      rintro e w261 ⟨x260, rfl, x260a, x260b, htn, hgn, hsn⟩
      have H262 := hid (H259.out.next 5 rfl htn hgn)
      clear htn hgn hsn
      have wnx260 : IntKind.i64.wrap (1 + x260) = 1 + x260 := IntWalk.i64_in _ (by omega)
      refine hK.out _ _ ?_ (fun hHeld2 => ?_)
      focus ((try dsimp only); (exact ⟨H262.out.cell 4 rfl 0 rfl, H262.out.cell 4 rfl 1 rfl, H262.out.cell 4 rfl 2 rfl⟩))
      clear hK K
      try simp only [Act.put, p1, p2, p3, p4, p5, p6]
      clear hHeld
      have hHeld := hHeld2
      clear hHeld2
      refine tkA 8 ?_
      try simp only [Act.put, p1, p2, p3, p4, p5, p6]
      refine wpAnyH_ready (rs := [9]) (by kernel_rfl) (by simp) (AllReadyH.cons (o := _) rfl (fun K hK => ?_) AllReadyH.nil)
      go_simp
      go_at_call 22
      refine (weights_any B k _ _ (by omega) (H262.out.tapeAt 5 rfl)).mono ?_
      rintro e w263 ⟨wv264, wl265, rfl, hlen, hin, ho, ht, hg⟩
      have H266 := hid (H262.out.add (H262.out.next 5 rfl ht hg) ho)
      have HWLwl265 := hid hlen
      have HWBwl265 := hid hin
      obtain ⟨wv264a, wv264c, rfl, -⟩ := ho.slc
      clear hlen hin ho ht hg
      refine hK.out _ _ ?_ (fun hHeld2 => ?_)
      focus ((try dsimp only); (exact ⟨H266.out.cell 5 rfl 0 rfl, H266.out.cell 5 rfl 1 rfl, H266.out.cell 5 rfl 2 rfl⟩))
      clear hK K
      try simp only [Act.put, p1, p2, p3, p4, p5, p6]
      clear hHeld
      have hHeld := hHeld2
      clear hHeld2
      refine wpAnyH_ready (rs := [12]) (by kernel_rfl) (by simp) (AllReadyH.cons (o := _) rfl (fun K hK => ?_) AllReadyH.nil)
      go_simp
      go_at_call 19
      refine (nextB_any B k _ _ (by omega) (H266.out.tapeAt 6 rfl)).mono ?_
      rintro e w268 ⟨x267, rfl, x267a, x267b, htn, hgn, hsn⟩
      have H269 := hid (H266.out.next 6 rfl htn hgn)
      clear htn hgn hsn
      refine hK.out _ _ ?_ (fun hHeld2 => ?_)
      focus ((try dsimp only); (exact ⟨H269.out.cell 5 rfl 0 rfl, H269.out.cell 5 rfl 1 rfl, H269.out.cell 5 rfl 2 rfl⟩))
      clear hK K
      try simp only [Act.put, p1, p2, p3, p4, p5, p6]
      clear hHeld
      have hHeld := hHeld2
      clear hHeld2
      refine wpAnyH_ready (rs := [14]) (by kernel_rfl) (by simp) (AllReadyH.cons (o := _) rfl (fun K hK => ?_) AllReadyH.nil)
      go_simp
      go_at_call 19
      refine (nextB_any B k _ _ (by omega) (H269.out.tapeAt 6 rfl)).mono ?_
      rintro e w271 ⟨x270, rfl, x270a, x270b, htn, hgn, hsn⟩
      have H272 := hid (H269.out.next 6 rfl htn hgn)
      clear htn hgn hsn
      refine hK.out _ _ ?_ (fun hHeld2 => ?_)
      focus ((try dsimp only); (exact ⟨H272.out.cell 5 rfl 0 rfl, H272.out.cell 5 rfl 1 rfl, H272.out.cell 5 rfl 2 rfl⟩))
      clear hK K
      try simp only [Act.put, p1, p2, p3, p4, p5, p6]
      clear hHeld
      have hHeld := hHeld2
      clear hHeld2
      refine wpAnyH_ready (rs := [18]) (by kernel_rfl) (by simp) (AllReadyH.cons (o := _) rfl (fun K hK => ?_) AllReadyH.nil)
      go_simp
      go_at_call 21
      refine (edge_any B k _ _ (H272.out.tapeAt 6 rfl)).mono ?_
      rintro e w274 ⟨e273_0, e273_1, rfl, ht, hg⟩
      have H275 := hid (H272.out.next 6 rfl ht hg)
      clear ht hg
      refine hK.out _ _ ?_ (fun hHeld2 => ?_)
      focus ((try dsimp only); (exact ⟨H275.out.cell 5 rfl 0 rfl, H275.out.cell 5 rfl 1 rfl, H275.out.cell 5 rfl 2 rfl⟩))
      clear hK K
      try simp only [Act.put, p1, p2, p3, p4, p5, p6]
      clear hHeld
      have hHeld := hHeld2
      clear hHeld2
      refine wpAnyH_ready (rs := [20]) (by kernel_rfl) (by simp) (AllReadyH.cons (o := _) rfl (fun K hK => ?_) AllReadyH.nil)
      have z276 := H275.out.cell 3 rfl 9 rfl
      have z277 := H275.out.free 3 rfl 9
      have H278 := hid (show St _ _ (_ :: _ :: _ :: .cells D10 #[.int .i64 (1 + x4), .int .i64 a, .int .i64 (-1), .bool bar9, .int .i64 0, .int .i64 0, .int .i64 0, .int .i64 0, .slice none 0 0, .slice wv257a wl258.length wv257c, .slice none 0 0, .int .i64 0, .int .i64 0, .slice none 0 0, .slice none 0 0, .int .i64 0, .slice none 0 0, .int .i64 0] 33 :: _) _ _ from (H275.out.set 3 rfl 9 (.slice wv257a wl258.length wv257c)))
      go_simp
      refine hK.out _ _ ?_ (fun hHeld2 => ?_)
      focus ((try dsimp only); (exact ⟨H278.out.cell 5 rfl 0 rfl, H278.out.cell 5 rfl 1 rfl, H278.out.cell 5 rfl 2 rfl⟩))
      clear hK K hHeld
      try simp only [Act.put, p1, p2, p3, p4, p5, p6]
      clear z276 z277
      generalize (w274.setCell ⟨D10, 9, none⟩ (.slice wv257a wl258.length wv257c)) = k279 at *
      have hHeld := hHeld2
      clear hHeld2
      refine tkA 21 ?_
      try simp only [Act.put, p1, p2, p3, p4, p5, p6]
      refine wpAnyH_ready (rs := [22]) (by kernel_rfl) (by simp) (AllReadyH.cons (o := _) rfl (fun K hK => ?_) AllReadyH.nil)
      have z280 := H278.out.cell 3 rfl 10 rfl
      have z281 := H278.out.free 3 rfl 10
      have H282 := hid (show St _ _ (_ :: _ :: _ :: .cells D10 #[.int .i64 (1 + x4), .int .i64 a, .int .i64 (-1), .bool bar9, .int .i64 0, .int .i64 0, .int .i64 0, .int .i64 0, .slice none 0 0, .slice wv257a wl258.length wv257c, .slice wv264a wl265.length wv264c, .int .i64 0, .int .i64 0, .slice none 0 0, .slice none 0 0, .int .i64 0, .slice none 0 0, .int .i64 0] 33 :: _) _ _ from (H278.out.set 3 rfl 10 (.slice wv264a wl265.length wv264c)))
      go_simp
      refine hK.out _ _ ?_ (fun hHeld2 => ?_)
      focus ((try dsimp only); (exact ⟨H282.out.cell 5 rfl 0 rfl, H282.out.cell 5 rfl 1 rfl, H282.out.cell 5 rfl 2 rfl⟩))
      clear hK K hHeld
      try simp only [Act.put, p1, p2, p3, p4, p5, p6]
      clear z280 z281
      generalize (k279.setCell ⟨D10, 10, none⟩ (.slice wv264a wl265.length wv264c)) = k283 at *
      have hHeld := hHeld2
      clear hHeld2
      refine tkA 23 ?_
      try simp only [Act.put, p1, p2, p3, p4, p5, p6]
      refine wpAnyH_ready (rs := [24]) (by kernel_rfl) (by simp) (AllReadyH.cons (o := _) rfl (fun K hK => ?_) AllReadyH.nil)
      have z284 := H282.out.cell 3 rfl 17 rfl
      have z285 := H282.out.free 3 rfl 17
      have H286 := hid (show St _ _ (_ :: _ :: _ :: .cells D10 #[.int .i64 (1 + x4), .int .i64 a, .int .i64 (-1), .bool bar9, .int .i64 0, .int .i64 0, .int .i64 0, .int .i64 0, .slice none 0 0, .slice wv257a wl258.length wv257c, .slice wv264a wl265.length wv264c, .int .i64 0, .int .i64 0, .slice none 0 0, .slice none 0 0, .int .i64 0, .slice none 0 0, .int .i64 x17] 33 :: _) _ _ from (H282.out.set 3 rfl 17 (.int .i64 x17)))
      go_simp
      refine hK.out _ _ ?_ (fun hHeld2 => ?_)
      focus ((try dsimp only); (exact ⟨H286.out.cell 5 rfl 0 rfl, H286.out.cell 5 rfl 1 rfl, H286.out.cell 5 rfl 2 rfl⟩))
      clear hK K hHeld
      try simp only [Act.put, p1, p2, p3, p4, p5, p6]
      clear z284 z285
      generalize (k283.setCell ⟨D10, 17, none⟩ (.int .i64 x17)) = k287 at *
      have hHeld := hHeld2
      clear hHeld2
      refine tkA 25 ?_
      try simp only [Act.put, p1, p2, p3, p4, p5, p6]
      refine wpAnyH_ready (rs := [26]) (by kernel_rfl) (by simp) (AllReadyH.cons (o := _) rfl (fun K hK => ?_) AllReadyH.nil)
      have z288 := H286.out.cell 3 rfl 11 rfl
      have z289 := H286.out.free 3 rfl 11
      have H290 := hid (show St _ _ (_ :: _ :: _ :: .cells D10 #[.int .i64 (1 + x4), .int .i64 a, .int .i64 (-1), .bool bar9, .int .i64 0, .int .i64 0, .int .i64 0, .int .i64 0, .slice none 0 0, .slice wv257a wl258.length wv257c, .slice wv264a wl265.length wv264c, .int .i64 x267, .int .i64 0, .slice none 0 0, .slice none 0 0, .int .i64 0, .slice none 0 0, .int .i64 x17] 33 :: _) _ _ from (H286.out.set 3 rfl 11 (.int .i64 x267)))
      go_simp
      refine hK.out _ _ ?_ (fun hHeld2 => ?_)
      focus ((try dsimp only); (exact ⟨H290.out.cell 5 rfl 0 rfl, H290.out.cell 5 rfl 1 rfl, H290.out.cell 5 rfl 2 rfl⟩))
      clear hK K hHeld
      try simp only [Act.put, p1, p2, p3, p4, p5, p6]
      clear z288 z289
      generalize (k287.setCell ⟨D10, 11, none⟩ (.int .i64 x267)) = k291 at *
      have hHeld := hHeld2
      clear hHeld2
      refine tkA 27 ?_
      try simp only [Act.put, p1, p2, p3, p4, p5, p6]
      refine wpAnyH_ready (rs := [28]) (by kernel_rfl) (by simp) (AllReadyH.cons (o := _) rfl (fun K hK => ?_) AllReadyH.nil)
      have z292 := H290.out.cell 3 rfl 12 rfl
      have z293 := H290.out.free 3 rfl 12
      have H294 := hid (show St _ _ (_ :: _ :: _ :: .cells D10 #[.int .i64 (1 + x4), .int .i64 a, .int .i64 (-1), .bool bar9, .int .i64 0, .int .i64 0, .int .i64 0, .int .i64 0, .slice none 0 0, .slice wv257a wl258.length wv257c, .slice wv264a wl265.length wv264c, .int .i64 x267, .int .i64 x270, .slice none 0 0, .slice none 0 0, .int .i64 0, .slice none 0 0, .int .i64 x17] 33 :: _) _ _ from (H290.out.set 3 rfl 12 (.int .i64 x270)))
      go_simp
      refine hK.out _ _ ?_ (fun hHeld2 => ?_)
      focus ((try dsimp only); (exact ⟨H294.out.cell 5 rfl 0 rfl, H294.out.cell 5 rfl 1 rfl, H294.out.cell 5 rfl 2 rfl⟩))
      clear hK K hHeld
      try simp only [Act.put, p1, p2, p3, p4, p5, p6]
      clear z292 z293
      generalize (k291.setCell ⟨D10, 12, none⟩ (.int .i64 x270)) = k295 at *
      have hHeld := hHeld2
      clear hHeld2
      refine tkA 29 ?_
      try simp only [Act.put, p1, p2, p3, p4, p5, p6]
      refine wpAnyH_ready (rs := [30]) (by kernel_rfl) (by simp) (AllReadyH.cons (o := _) rfl (fun K hK => ?_) AllReadyH.nil)
      have z296 := H294.out.cell 3 rfl 4 rfl
      have z297 := H294.out.free 3 rfl 4
      have z298 := H294.out.cell 3 rfl 5 rfl
      have z299 := H294.out.free 3 rfl 5
      have H300 := hid (show St _ _ (_ :: _ :: _ :: .cells D10 #[.int .i64 (1 + x4), .int .i64 a, .int .i64 (-1), .bool bar9, .int .i64 e273_0, .int .i64 e273_1, .int .i64 0, .int .i64 0, .slice none 0 0, .slice wv257a wl258.length wv257c, .slice wv264a wl265.length wv264c, .int .i64 x267, .int .i64 x270, .slice none 0 0, .slice none 0 0, .int .i64 0, .slice none 0 0, .int .i64 x17] 33 :: _) _ _ from ((H294.out.set 3 rfl 4 (.int .i64 e273_0)).set 3 rfl 5 (.int .i64 e273_1)))
      go_simp
      refine hK.out _ _ ?_ (fun hHeld2 => ?_)
      focus ((try dsimp only); (exact ⟨H300.out.cell 5 rfl 0 rfl, H300.out.cell 5 rfl 1 rfl, H300.out.cell 5 rfl 2 rfl⟩))
      clear hK K hHeld
      try simp only [Act.put, p1, p2, p3, p4, p5, p6]
      clear z296 z297 z298 z299
      generalize ((k295.setCell ⟨D10, 4, none⟩ (.int .i64 e273_0)).setCell ⟨D10, 5, none⟩ (.int .i64 e273_1)) = k301 at *
      have hHeld := hHeld2
      clear hHeld2
      refine wpAnyH_done (by kernel_rfl) ?_ _
      try clear hHeld
      obtain ⟨A9, hA9⟩ : ∃ z : Array Value, #[.int .i64 (1 + x4), .int .i64 a, .int .i64 (-1), .bool bar9, .int .i64 e273_0, .int .i64 e273_1, .int .i64 0, .int .i64 0, .slice none 0 0, .slice wv257a wl258.length wv257c, .slice wv264a wl265.length wv264c, .int .i64 x267, .int .i64 x270, .slice none 0 0, .slice none 0 0, .int .i64 0, .slice none 0 0, .int .i64 x17] = z := ⟨_, rfl⟩
      have H302 := H300; rw [hA9] at H302
      have HA9 := hid hA9.symm
      clear hA9
      obtain ⟨z303, z304, z305, z306, z307, z308, z309, z310, z311, z312, z313, z314, z315, z316, z317, z318, z319, z320⟩ := cs18 H302.out 4 rfl
      have z321 := H302.out.loadStg 3 rfl (by rw [HA9.out]; rfl)
      go_wp2_with (first | (refine loadArm z321 (by rfl) (by rfl) ?_) | (refine storeArm (H302.out.rowAt 4 rfl) (cs' := A9) (by rw [HA9.out]; first | rfl | kernel_rfl) (by rw [HA9.out]; first | rfl | kernel_rfl) (by rw [HA9.out]; first | rfl | kernel_rfl) (by rfl) (by rfl) (by rfl) ?_))
      clear z303 z304 z305 z306 z307 z308 z309 z310 z311 z312 z313 z314 z315 z316 z317 z318 z319 z320 z321
      have H322 := hid (show St _ _ (_ :: _ :: _ :: _ :: .cells (D1 + 1) A9 33 :: _) _ _ from (H302.out.setRow 4 rfl A9))
      have H323 := hid (H322.out.arrNilE 55 2)
      have H324 := hid (H323.out.arrNilE 55 2)
      have H325 := hid (H324.out.grow (Below.refl _ _) (Own.nil _ _))
      have H326 := hid (H325.out.arrNilE 57 2)
      have hfin := St.pickT (l0 := [_, _, _, _, _, _, _, _, _, _, _]) (T := l) (l' := [_, _, _, _, _, _, _]) H326.out [2, 3, 1, 5, 4, 0, 10] rfl (by decide)
      refine bodyPost_ret (v := .agg A9) ?_ rfl ⟨⟨(1 + x4), a, (-1), bar9, e273_0, e273_1, 0, 0, none, 0, [], wv257a, wv257c, wl258, wv264a, wv264c, wl265, x267, x270, none, 0, 0, [], none, 0, 0, [], 0, none, 0, 0, [], x17⟩, rs, by rw [HA9.out]; rfl, ⟨by (try simp only [List.length_nil]); have := HWLwl258.out;  have := HWLwl265.out; first | omega | (simp; omega), by (try simp only [List.length_nil]); have := HWLwl258.out;  have := HWLwl265.out; first | omega | (simp; omega), by (try simp only [List.length_nil]); have := HWLwl258.out;  have := HWLwl265.out; first | omega | (simp; omega), by (try simp only [List.length_nil]); have := HWLwl258.out;  have := HWLwl265.out; first | omega | (simp; omega), by (try simp only [List.length_nil]); have := HWLwl258.out;  have := HWLwl265.out; first | omega | (simp; omega), by (try simp only [List.length_nil]); have := HWLwl258.out;  have := HWLwl265.out; first | omega | (simp; omega)⟩, TQ.nilT _ _, TQ.nilT _ _, hfin⟩
      exact results_cell_row rfl _ _ (D1 + 1) 33 _ (0, 0) _ (by rfl) (H326.out.rowAt 8 rfl) Try.underlying33 rfl (by have hz : (Try.prog.info? 33).map (·.size) = some 18 := (by kernel_rfl); rw [hz, HA9.out]; rfl)
    · have c249a : ((1 + x4 : Int) == (2)) = false := by simpa using c249
      have c249b : ((1 + x4 : Int) != (2)) = true := by simpa using c249
      have c249h := hid c249
      clear c249
      by_cases c327 : (1 + x4 : Int) = 3
      · obtain ⟨c327c, c327d⟩ : (1 + x4 : Int) ≤ 3 ∧ (3 : Int) ≤ 1 + x4 := by omega
        have c327a : ((1 + x4 : Int) == (3)) = true := by simpa using c327
        have c327b : ((1 + x4 : Int) != (3)) = false := by simpa using c327
        have c327h := hid c327
        clear c327
        have z328 := H19.out.cell 1 rfl 0 rfl
        go_upto_region 10 with fail
        clear z328
        have H329 := hid H19.out.drew
        refine wp_region_held_drew (S := (fun w' => w'.cell? ⟨D1, 0, none⟩ = some (.int .i64 sw) ∧ w'.cell? ⟨D1, 1, none⟩ = some (.int .i64 sh) ∧ w'.cell? ⟨D1, 2, none⟩ = some (.int .i64 sm))) (by kernel_rfl) ⟨H329.out.cell 3 rfl 0 rfl, H329.out.cell 3 rfl 1 rfl, H329.out.cell 3 rfl 2 rfl⟩ (fun hHeld => ?_)
        generalize w18.drew = k330 at *
        refine tkA 0 ?_
        try simp only [Act.put, p1, p2, p3, p4, p5, p6]
        refine tkA 1 ?_
        try simp only [Act.put, p1, p2, p3, p4, p5, p6]
        refine tkA 2 ?_
        try simp only [Act.put, p1, p2, p3, p4, p5, p6]
        refine tkA 4 ?_
        try simp only [Act.put, p1, p2, p3, p4, p5, p6]
        refine tkA 5 ?_
        try simp only [Act.put, p1, p2, p3, p4, p5, p6]
        refine tkA 6 ?_
        try simp only [Act.put, p1, p2, p3, p4, p5, p6]
        refine tkA 8 ?_
        try simp only [Act.put, p1, p2, p3, p4, p5, p6]
        refine tkA 9 ?_
        try simp only [Act.put, p1, p2, p3, p4, p5, p6]
        refine tkA 10 ?_
        try simp only [Act.put, p1, p2, p3, p4, p5, p6]
        refine tkA 11 ?_
        try simp only [Act.put, p1, p2, p3, p4, p5, p6]
        refine wpAnyH_ready (rs := [3]) (by kernel_rfl) (by simp) (AllReadyH.cons (o := _) rfl (fun K hK => ?_) AllReadyH.nil)
        go_simp
        go_at_call 23
        refine (table_any B k sw _ (by omega) (H329.out.tapeAt 4 rfl)).mono ?_
        rintro e w331 ⟨v333, T334, rfl, hok, ho, ht, hg⟩
        obtain ⟨tp335, R336, ta339, tc340, rfl, htd, htq, hmo, hst⟩ := St.addTT H329.out (H329.out.next 4 rfl ht hg) ho
        obtain ⟨T334l0, T334l1⟩ : 1 ≤ T334.length ∧ T334.length ≤ 6 := ⟨hok.l0, hok.l1⟩
        have HOKT334 := hid hok
        have HQ337 := hid htq
        have HD338 := hid htd
        have H332 := hid hst
        clear htd htq hmo hst ho ht hg hok
        refine hK.out _ _ ?_ (fun hHeld2 => ?_)
        focus ((try dsimp only); (exact ⟨H332.out.cell 4 rfl 0 rfl, H332.out.cell 4 rfl 1 rfl, H332.out.cell 4 rfl 2 rfl⟩))
        clear hK K
        try simp only [Act.put, p1, p2, p3, p4, p5, p6]
        clear hHeld
        have hHeld := hHeld2
        clear hHeld2
        refine tkA 13 ?_
        try simp only [Act.put, p1, p2, p3, p4, p5, p6]
        refine wpAnyH_ready (rs := [7]) (by kernel_rfl) (by simp) (AllReadyH.cons (o := _) rfl (fun K hK => ?_) AllReadyH.nil)
        go_simp
        go_at_call 23
        refine (table_any B k sh _ (by omega) (H332.out.tapeAt 5 rfl)).mono ?_
        rintro e w341 ⟨v343, T344, rfl, hok, ho, ht, hg⟩
        obtain ⟨tp345, R346, ta349, tc350, rfl, htd, htq, hmo, hst⟩ := St.addTT H332.out (H332.out.next 5 rfl ht hg) ho
        obtain ⟨T344l0, T344l1⟩ : 1 ≤ T344.length ∧ T344.length ≤ 6 := ⟨hok.l0, hok.l1⟩
        have HOKT344 := hid hok
        have HQ347 := hid htq
        have HD348 := hid htd
        have H342 := hid hst
        have HQ351 := hid (hmo _ HQ337.out)
        clear htd htq hmo hst ho ht hg hok
        refine hK.out _ _ ?_ (fun hHeld2 => ?_)
        focus ((try dsimp only); (exact ⟨H342.out.cell 5 rfl 0 rfl, H342.out.cell 5 rfl 1 rfl, H342.out.cell 5 rfl 2 rfl⟩))
        clear hK K
        try simp only [Act.put, p1, p2, p3, p4, p5, p6]
        clear hHeld
        have hHeld := hHeld2
        clear hHeld2
        refine wpAnyH_ready (rs := [12]) (by kernel_rfl) (by simp) (AllReadyH.cons (o := _) rfl (fun K hK => ?_) AllReadyH.nil)
        go_simp
        go_at_call 21
        refine (edge_any B k _ _ (H342.out.tapeAt 6 rfl)).mono ?_
        rintro e w353 ⟨e352_0, e352_1, rfl, ht, hg⟩
        have H354 := hid (H342.out.next 6 rfl ht hg)
        clear ht hg
        refine hK.out _ _ ?_ (fun hHeld2 => ?_)
        focus ((try dsimp only); (exact ⟨H354.out.cell 5 rfl 0 rfl, H354.out.cell 5 rfl 1 rfl, H354.out.cell 5 rfl 2 rfl⟩))
        clear hK K
        try simp only [Act.put, p1, p2, p3, p4, p5, p6]
        clear hHeld
        have hHeld := hHeld2
        clear hHeld2
        refine wpAnyH_ready (rs := [14]) (by kernel_rfl) (by simp) (AllReadyH.cons (o := _) rfl (fun K hK => ?_) AllReadyH.nil)
        have z355 := H354.out.cell 3 rfl 13 rfl
        have z356 := H354.out.free 3 rfl 13
        have H357 := hid (show St _ _ (_ :: _ :: _ :: .cells D10 #[.int .i64 (1 + x4), .int .i64 a, .int .i64 (-1), .bool bar9, .int .i64 0, .int .i64 0, .int .i64 0, .int .i64 0, .slice none 0 0, .slice none 0 0, .slice none 0 0, .int .i64 0, .int .i64 0, .slice ta339 T334.length tc340, .slice none 0 0, .int .i64 0, .slice none 0 0, .int .i64 0] 33 :: _) _ _ from (H354.out.set 3 rfl 13 (.slice ta339 T334.length tc340)))
        go_simp
        refine hK.out _ _ ?_ (fun hHeld2 => ?_)
        focus ((try dsimp only); (exact ⟨H357.out.cell 5 rfl 0 rfl, H357.out.cell 5 rfl 1 rfl, H357.out.cell 5 rfl 2 rfl⟩))
        clear hK K hHeld
        try simp only [Act.put, p1, p2, p3, p4, p5, p6]
        clear z355 z356
        generalize (w353.setCell ⟨D10, 13, none⟩ (.slice ta339 T334.length tc340)) = k358 at *
        have hHeld := hHeld2
        clear hHeld2
        refine tkA 15 ?_
        try simp only [Act.put, p1, p2, p3, p4, p5, p6]
        refine wpAnyH_ready (rs := [16]) (by kernel_rfl) (by simp) (AllReadyH.cons (o := _) rfl (fun K hK => ?_) AllReadyH.nil)
        have z359 := H357.out.cell 3 rfl 14 rfl
        have z360 := H357.out.free 3 rfl 14
        have H361 := hid (show St _ _ (_ :: _ :: _ :: .cells D10 #[.int .i64 (1 + x4), .int .i64 a, .int .i64 (-1), .bool bar9, .int .i64 0, .int .i64 0, .int .i64 0, .int .i64 0, .slice none 0 0, .slice none 0 0, .slice none 0 0, .int .i64 0, .int .i64 0, .slice ta339 T334.length tc340, .slice ta349 T344.length tc350, .int .i64 0, .slice none 0 0, .int .i64 0] 33 :: _) _ _ from (H357.out.set 3 rfl 14 (.slice ta349 T344.length tc350)))
        go_simp
        refine hK.out _ _ ?_ (fun hHeld2 => ?_)
        focus ((try dsimp only); (exact ⟨H361.out.cell 5 rfl 0 rfl, H361.out.cell 5 rfl 1 rfl, H361.out.cell 5 rfl 2 rfl⟩))
        clear hK K hHeld
        try simp only [Act.put, p1, p2, p3, p4, p5, p6]
        clear z359 z360
        generalize (k358.setCell ⟨D10, 14, none⟩ (.slice ta349 T344.length tc350)) = k362 at *
        have hHeld := hHeld2
        clear hHeld2
        refine tkA 17 ?_
        try simp only [Act.put, p1, p2, p3, p4, p5, p6]
        refine wpAnyH_ready (rs := [18]) (by kernel_rfl) (by simp) (AllReadyH.cons (o := _) rfl (fun K hK => ?_) AllReadyH.nil)
        have z363 := H361.out.cell 3 rfl 17 rfl
        have z364 := H361.out.free 3 rfl 17
        have H365 := hid (show St _ _ (_ :: _ :: _ :: .cells D10 #[.int .i64 (1 + x4), .int .i64 a, .int .i64 (-1), .bool bar9, .int .i64 0, .int .i64 0, .int .i64 0, .int .i64 0, .slice none 0 0, .slice none 0 0, .slice none 0 0, .int .i64 0, .int .i64 0, .slice ta339 T334.length tc340, .slice ta349 T344.length tc350, .int .i64 0, .slice none 0 0, .int .i64 x17] 33 :: _) _ _ from (H361.out.set 3 rfl 17 (.int .i64 x17)))
        go_simp
        refine hK.out _ _ ?_ (fun hHeld2 => ?_)
        focus ((try dsimp only); (exact ⟨H365.out.cell 5 rfl 0 rfl, H365.out.cell 5 rfl 1 rfl, H365.out.cell 5 rfl 2 rfl⟩))
        clear hK K hHeld
        try simp only [Act.put, p1, p2, p3, p4, p5, p6]
        clear z363 z364
        generalize (k362.setCell ⟨D10, 17, none⟩ (.int .i64 x17)) = k366 at *
        have hHeld := hHeld2
        clear hHeld2
        refine tkA 19 ?_
        try simp only [Act.put, p1, p2, p3, p4, p5, p6]
        refine wpAnyH_ready (rs := [20]) (by kernel_rfl) (by simp) (AllReadyH.cons (o := _) rfl (fun K hK => ?_) AllReadyH.nil)
        have z367 := H365.out.cell 3 rfl 11 rfl
        have z368 := H365.out.free 3 rfl 11
        have H369 := hid (show St _ _ (_ :: _ :: _ :: .cells D10 #[.int .i64 (1 + x4), .int .i64 a, .int .i64 (-1), .bool bar9, .int .i64 0, .int .i64 0, .int .i64 0, .int .i64 0, .slice none 0 0, .slice none 0 0, .slice none 0 0, .int .i64 8, .int .i64 0, .slice ta339 T334.length tc340, .slice ta349 T344.length tc350, .int .i64 0, .slice none 0 0, .int .i64 x17] 33 :: _) _ _ from (H365.out.set 3 rfl 11 (.int .i64 8)))
        go_simp
        refine hK.out _ _ ?_ (fun hHeld2 => ?_)
        focus ((try dsimp only); (exact ⟨H369.out.cell 5 rfl 0 rfl, H369.out.cell 5 rfl 1 rfl, H369.out.cell 5 rfl 2 rfl⟩))
        clear hK K hHeld
        try simp only [Act.put, p1, p2, p3, p4, p5, p6]
        clear z367 z368
        generalize (k366.setCell ⟨D10, 11, none⟩ (.int .i64 8)) = k370 at *
        have hHeld := hHeld2
        clear hHeld2
        refine tkA 21 ?_
        try simp only [Act.put, p1, p2, p3, p4, p5, p6]
        refine wpAnyH_ready (rs := [22]) (by kernel_rfl) (by simp) (AllReadyH.cons (o := _) rfl (fun K hK => ?_) AllReadyH.nil)
        have z371 := H369.out.cell 3 rfl 12 rfl
        have z372 := H369.out.free 3 rfl 12
        have H373 := hid (show St _ _ (_ :: _ :: _ :: .cells D10 #[.int .i64 (1 + x4), .int .i64 a, .int .i64 (-1), .bool bar9, .int .i64 0, .int .i64 0, .int .i64 0, .int .i64 0, .slice none 0 0, .slice none 0 0, .slice none 0 0, .int .i64 8, .int .i64 8, .slice ta339 T334.length tc340, .slice ta349 T344.length tc350, .int .i64 0, .slice none 0 0, .int .i64 x17] 33 :: _) _ _ from (H369.out.set 3 rfl 12 (.int .i64 8)))
        go_simp
        refine hK.out _ _ ?_ (fun hHeld2 => ?_)
        focus ((try dsimp only); (exact ⟨H373.out.cell 5 rfl 0 rfl, H373.out.cell 5 rfl 1 rfl, H373.out.cell 5 rfl 2 rfl⟩))
        clear hK K hHeld
        try simp only [Act.put, p1, p2, p3, p4, p5, p6]
        clear z371 z372
        generalize (k370.setCell ⟨D10, 12, none⟩ (.int .i64 8)) = k374 at *
        have hHeld := hHeld2
        clear hHeld2
        refine tkA 23 ?_
        try simp only [Act.put, p1, p2, p3, p4, p5, p6]
        refine wpAnyH_ready (rs := [24]) (by kernel_rfl) (by simp) (AllReadyH.cons (o := _) rfl (fun K hK => ?_) AllReadyH.nil)
        have z375 := H373.out.cell 3 rfl 4 rfl
        have z376 := H373.out.free 3 rfl 4
        have z377 := H373.out.cell 3 rfl 5 rfl
        have z378 := H373.out.free 3 rfl 5
        have H379 := hid (show St _ _ (_ :: _ :: _ :: .cells D10 #[.int .i64 (1 + x4), .int .i64 a, .int .i64 (-1), .bool bar9, .int .i64 e352_0, .int .i64 e352_1, .int .i64 0, .int .i64 0, .slice none 0 0, .slice none 0 0, .slice none 0 0, .int .i64 8, .int .i64 8, .slice ta339 T334.length tc340, .slice ta349 T344.length tc350, .int .i64 0, .slice none 0 0, .int .i64 x17] 33 :: _) _ _ from ((H373.out.set 3 rfl 4 (.int .i64 e352_0)).set 3 rfl 5 (.int .i64 e352_1)))
        go_simp
        refine hK.out _ _ ?_ (fun hHeld2 => ?_)
        focus ((try dsimp only); (exact ⟨H379.out.cell 5 rfl 0 rfl, H379.out.cell 5 rfl 1 rfl, H379.out.cell 5 rfl 2 rfl⟩))
        clear hK K hHeld
        try simp only [Act.put, p1, p2, p3, p4, p5, p6]
        clear z375 z376 z377 z378
        generalize ((k374.setCell ⟨D10, 4, none⟩ (.int .i64 e352_0)).setCell ⟨D10, 5, none⟩ (.int .i64 e352_1)) = k380 at *
        have hHeld := hHeld2
        clear hHeld2
        refine wpAnyH_done (by kernel_rfl) ?_ _
        try clear hHeld
        obtain ⟨A9, hA9⟩ : ∃ z : Array Value, #[.int .i64 (1 + x4), .int .i64 a, .int .i64 (-1), .bool bar9, .int .i64 e352_0, .int .i64 e352_1, .int .i64 0, .int .i64 0, .slice none 0 0, .slice none 0 0, .slice none 0 0, .int .i64 8, .int .i64 8, .slice ta339 T334.length tc340, .slice ta349 T344.length tc350, .int .i64 0, .slice none 0 0, .int .i64 x17] = z := ⟨_, rfl⟩
        have H381 := H379; rw [hA9] at H381
        have HA9 := hid hA9.symm
        clear hA9
        obtain ⟨z382, z383, z384, z385, z386, z387, z388, z389, z390, z391, z392, z393, z394, z395, z396, z397, z398, z399⟩ := cs18 H381.out 4 rfl
        have z400 := H381.out.loadStg 3 rfl (by rw [HA9.out]; rfl)
        go_wp2_with (first | (refine loadArm z400 (by rfl) (by rfl) ?_) | (refine storeArm (H381.out.rowAt 4 rfl) (cs' := A9) (by rw [HA9.out]; first | rfl | kernel_rfl) (by rw [HA9.out]; first | rfl | kernel_rfl) (by rw [HA9.out]; first | rfl | kernel_rfl) (by rfl) (by rfl) (by rfl) ?_))
        clear z382 z383 z384 z385 z386 z387 z388 z389 z390 z391 z392 z393 z394 z395 z396 z397 z398 z399 z400
        have H401 := hid (show St _ _ (_ :: _ :: _ :: _ :: .cells (D1 + 1) A9 33 :: _) _ _ from (H381.out.setRow 4 rfl A9))
        have H402 := hid (H401.out.grow (Below.refl _ _) (Own.nil _ _))
        have H403 := hid (H402.out.grow (Below.refl _ _) (Own.nil _ _))
        have H404 := hid (H403.out.grow (Below.refl _ _) (Own.nil _ _))
        have H405 := hid (H404.out.arrNilE 57 2)
        have hfin := St.pickT (l0 := [_, _, _, _, _, _, _, _, _, _, _]) (T := l) (l' := [_, _, _, _, _, _, _]) H405.out [5, 4, 1, 2, 3, 0, 10] rfl (by decide)
        refine bodyPost_ret (v := .agg A9) ?_ rfl ⟨⟨(1 + x4), a, (-1), bar9, e352_0, e352_1, 0, 0, none, 0, [], none, 0, [], none, 0, [], 8, 8, ta339, T334.length, tc340, tp335, ta349, T344.length, tc350, tp345, 0, none, 0, 0, [], x17⟩, R346, by rw [HA9.out]; rfl, ⟨by (try simp only [List.length_nil]); have := HOKT334.out.l1;  have := HOKT344.out.l1; first | omega | (simp; omega), by (try simp only [List.length_nil]); have := HOKT334.out.l1;  have := HOKT344.out.l1; first | omega | (simp; omega), by (try simp only [List.length_nil]); have := HOKT334.out.l1;  have := HOKT344.out.l1; first | omega | (simp; omega), by (try simp only [List.length_nil]); have := HOKT334.out.l1;  have := HOKT344.out.l1; first | omega | (simp; omega), by (try simp only [List.length_nil]); have := HOKT334.out.l1;  have := HOKT344.out.l1; first | omega | (simp; omega), by (try simp only [List.length_nil]); have := HOKT334.out.l1;  have := HOKT344.out.l1; first | omega | (simp; omega)⟩, HQ351.out, HQ347.out, hfin⟩
        exact results_cell_row rfl _ _ (D1 + 1) 33 _ (0, 0) _ (by rfl) (H405.out.rowAt 8 rfl) Try.underlying33 rfl (by have hz : (Try.prog.info? 33).map (·.size) = some 18 := (by kernel_rfl); rw [hz, HA9.out]; rfl)
      · have c327a : ((1 + x4 : Int) == (3)) = false := by simpa using c327
        have c327b : ((1 + x4 : Int) != (3)) = true := by simpa using c327
        have c327h := hid c327
        clear c327
        by_cases c406 : (1 + x4 : Int) = 4
        · obtain ⟨c406c, c406d⟩ : (1 + x4 : Int) ≤ 4 ∧ (4 : Int) ≤ 1 + x4 := by omega
          have c406a : ((1 + x4 : Int) == (4)) = true := by simpa using c406
          have c406b : ((1 + x4 : Int) != (4)) = false := by simpa using c406
          have c406h := hid c406
          clear c406
          obtain ⟨D407, hD407⟩ : ∃ D, w18.heap.size = D := ⟨_, rfl⟩
          have z408 := H19.out.cell 1 rfl 0 rfl
          go_wp2_with fail
          clear z408
          have H409 := hid (H19.out.alloc #[.int .i64 4, .int .i64 1, .int .i64 7] 3 hD407)
          first | refine gen_code H409.out ?_ | refine gen_list H409.out ?_ | refine gen_calls H409.out ?_
          intro w410 hG
          clear H409
          have H409 := hid hG
          clear hG
          clear hD407
          refine (pickB_any B k _ 3 3 [4, 1, 7] _ (by omega) (by omega) (H409.out.tapeAt 5 rfl) (H409.out.lit 0 [4, 1, 7] rfl (by simp)).row (.inr ⟨_, rfl, H409.out.ne 0 5 rfl rfl (by decide) rfl rfl⟩)).mono ?_
          rintro e w412 ⟨x411, rfl, hx411, htn, hgn, hsn⟩
          have H413 := hid (H409.out.next 5 rfl htn hgn)
          clear htn hgn hsn
          obtain ⟨x411a, x411b⟩ : (1 : Int) ≤ x411 ∧ x411 ≤ 7 := by simp at hx411; omega
          clear hx411
          have z414 := H413.out.cell 2 rfl 15 rfl
          have z415 := H413.out.free 2 rfl 15
          go_upto_region 17 with fail
          clear z414 z415
          have H416 := hid (show St _ _ (_ :: _ :: .cells D10 #[.int .i64 (1 + x4), .int .i64 a, .int .i64 (-1), .bool bar9, .int .i64 0, .int .i64 0, .int .i64 0, .int .i64 0, .slice none 0 0, .slice none 0 0, .slice none 0 0, .int .i64 0, .int .i64 0, .slice none 0 0, .slice none 0 0, .int .i64 x411, .slice none 0 0, .int .i64 0] 33 :: _) _ _ from (H413.out.set 2 rfl 15 (.int .i64 x411)))
          first | refine gen_code H416.out ?_ | refine gen_list H416.out ?_ | refine gen_calls H416.out ?_
          intro w417 hG
          clear H416
          have H416 := hid hG
          clear hG
          obtain ⟨A9, hA9⟩ : ∃ z : Array Value, #[.int .i64 (1 + x4), .int .i64 a, .int .i64 (-1), .bool bar9, .int .i64 0, .int .i64 0, .int .i64 0, .int .i64 0, .slice none 0 0, .slice none 0 0, .slice none 0 0, .int .i64 0, .int .i64 0, .slice none 0 0, .slice none 0 0, .int .i64 x411, .slice none 0 0, .int .i64 0] = z := ⟨_, rfl⟩
          have H418 := H416; rw [hA9] at H418
          have HA9 := hid hA9.symm
          clear hA9
          obtain ⟨z419, z420, z421, z422, z423, z424, z425, z426, z427, z428, z429, z430, z431, z432, z433, z434, z435, z436⟩ := cs18 H418.out 3 rfl
          have z437 := H418.out.loadStg 2 rfl (by rw [HA9.out]; rfl)
          go_wp2_with (first | (refine loadArm z437 (by rfl) (by rfl) ?_) | (refine storeArm (H418.out.rowAt 3 rfl) (cs' := A9) (by rw [HA9.out]; first | rfl | kernel_rfl) (by rw [HA9.out]; first | rfl | kernel_rfl) (by rw [HA9.out]; first | rfl | kernel_rfl) (by rfl) (by rfl) (by rfl) ?_))
          clear z419 z420 z421 z422 z423 z424 z425 z426 z427 z428 z429 z430 z431 z432 z433 z434 z435 z436 z437
          have H438 := hid (show St _ _ (_ :: _ :: _ :: .cells (D1 + 1) A9 33 :: _) _ _ from (H418.out.setRow 3 rfl A9))
          have H439 := hid (H438.out.arrNilE 55 2)
          have H440 := hid (H439.out.arrNilE 55 2)
          have H441 := hid (H440.out.grow (Below.refl _ _) (Own.nil _ _))
          have H442 := hid (H441.out.grow (Below.refl _ _) (Own.nil _ _))
          have H443 := hid (H442.out.grow (Below.refl _ _) (Own.nil _ _))
          have H444 := hid (H443.out.arrNilE 57 2)
          have hfin := St.pickT (l0 := [_, _, _, _, _, _, _, _, _, _, _, _]) (T := l) (l' := [_, _, _, _, _, _, _]) H444.out [4, 5, 1, 2, 3, 0, 11] rfl (by decide)
          refine bodyPost_ret (v := .agg A9) ?_ rfl ⟨⟨(1 + x4), a, (-1), bar9, 0, 0, 0, 0, none, 0, [], none, 0, [], none, 0, [], 0, 0, none, 0, 0, [], none, 0, 0, [], x411, none, 0, 0, [], 0⟩, rs, by rw [HA9.out]; rfl, ⟨by (try simp only [List.length_nil]); first | omega | (simp; omega), by (try simp only [List.length_nil]); first | omega | (simp; omega), by (try simp only [List.length_nil]); first | omega | (simp; omega), by (try simp only [List.length_nil]); first | omega | (simp; omega), by (try simp only [List.length_nil]); first | omega | (simp; omega), by (try simp only [List.length_nil]); first | omega | (simp; omega)⟩, TQ.nilT _ _, TQ.nilT _ _, hfin⟩
          exact results_cell_row rfl _ _ (D1 + 1) 33 _ (0, 0) _ (by rfl) (H444.out.rowAt 9 rfl) Try.underlying33 rfl (by have hz : (Try.prog.info? 33).map (·.size) = some 18 := (by kernel_rfl); rw [hz, HA9.out]; rfl)
        · have c406a : ((1 + x4 : Int) == (4)) = false := by simpa using c406
          have c406b : ((1 + x4 : Int) != (4)) = true := by simpa using c406
          have c406h := hid c406
          clear c406
          by_cases c445 : (1 + x4 : Int) = 6
          · obtain ⟨c445c, c445d⟩ : (1 + x4 : Int) ≤ 6 ∧ (6 : Int) ≤ 1 + x4 := by omega
            have c445a : ((1 + x4 : Int) == (6)) = true := by simpa using c445
            have c445b : ((1 + x4 : Int) != (6)) = false := by simpa using c445
            have c445h := hid c445
            clear c445
            by_cases c446 : (0 : Int) ≤ b
            · skip
              have z447 := H19.out.cell 1 rfl 0 rfl
              go_wp2_with fail
              clear z447
              refine (nextB_any B k _ _ (by omega) (H19.out.tapeAt 4 rfl)).mono ?_
              rintro e w449 ⟨x448, rfl, x448a, x448b, htn, hgn, hsn⟩
              have H450 := hid (H19.out.next 4 rfl htn hgn)
              clear htn hgn hsn
              by_cases c451 : (x448 : Int) = 0
              · obtain ⟨c451c, c451d⟩ : (x448 : Int) ≤ 0 ∧ (0 : Int) ≤ x448 := by omega
                have c451a : ((x448 : Int) == (0)) = true := by simpa using c451
                have c451b : ((x448 : Int) != (0)) = false := by simpa using c451
                have c451h := hid c451
                clear c451
                have z452 := H450.out.cell 1 rfl 2 rfl
                have z453 := H450.out.free 1 rfl 2
                go_upto_region 16 with fail
                clear z452 z453
                have H454 := hid (show St _ _ (_ :: .cells D10 #[.int .i64 (1 + x4), .int .i64 a, .int .i64 b, .bool bar9, .int .i64 0, .int .i64 0, .int .i64 0, .int .i64 0, .slice none 0 0, .slice none 0 0, .slice none 0 0, .int .i64 0, .int .i64 0, .slice none 0 0, .slice none 0 0, .int .i64 0, .slice none 0 0, .int .i64 0] 33 :: _) _ _ from (H450.out.set 1 rfl 2 (.int .i64 b)))
                first | refine gen_code H454.out ?_ | refine gen_list H454.out ?_ | refine gen_calls H454.out ?_
                intro w455 hG
                clear H454
                have H454 := hid hG
                clear hG
                have z456 := H454.out.cell 1 rfl 2 rfl
                go_wp2_with fail
                clear z456
                refine (ops_any B k true _ (H454.out.tapeAt 4 rfl)).mono ?_
                rintro e w457 ⟨v459, L460, rfl, hoi, hl1, hl2, ho, ht, hg⟩
                obtain ⟨ln463, hln463⟩ : ∃ q, L460.length = q := ⟨_, rfl⟩
                rw [hln463] at ho hl1 hl2
                have HLNL460 := hid hln463
                have H458 := hid (St.addE2 H454.out (H454.out.next 4 rfl ht hg) ho)
                obtain ⟨g461, c462, hva⟩ := arr_pos ho (by omega)
                subst hva
                have HOL460 := hid hoi
                obtain ⟨ln463a, ln463b⟩ := And.intro hl1 hl2
                clear ho ht hg hoi hln463 hl1 hl2
                have z464 := H458.out.cell 2 rfl 16 rfl
                have z465 := H458.out.free 2 rfl 16
                have z466 := H458.out.cell 2 rfl 17 rfl
                have z467 := H458.out.free 2 rfl 17
                go_upto_region 17 with fail
                clear z464 z465 z466 z467
                have H468 := hid (show St _ _ (_ :: _ :: .cells D10 #[.int .i64 (1 + x4), .int .i64 a, .int .i64 b, .bool bar9, .int .i64 0, .int .i64 0, .int .i64 0, .int .i64 0, .slice none 0 0, .slice none 0 0, .slice none 0 0, .int .i64 0, .int .i64 0, .slice none 0 0, .slice none 0 0, .int .i64 0, .slice (some ⟨g461, 0, none⟩) ln463 c462, .int .i64 x17] 33 :: _) _ _ from ((H458.out.set 2 rfl 16 (.slice (some ⟨g461, 0, none⟩) ln463 c462)).set 2 rfl 17 (.int .i64 x17)))
                first | refine gen_code H468.out ?_ | refine gen_list H468.out ?_ | refine gen_calls H468.out ?_
                intro w469 hG
                clear H468
                have H468 := hid hG
                clear hG
                obtain ⟨A9, hA9⟩ : ∃ z : Array Value, #[.int .i64 (1 + x4), .int .i64 a, .int .i64 b, .bool bar9, .int .i64 0, .int .i64 0, .int .i64 0, .int .i64 0, .slice none 0 0, .slice none 0 0, .slice none 0 0, .int .i64 0, .int .i64 0, .slice none 0 0, .slice none 0 0, .int .i64 0, .slice (some ⟨g461, 0, none⟩) ln463 c462, .int .i64 x17] = z := ⟨_, rfl⟩
                have H470 := H468; rw [hA9] at H470
                have HA9 := hid hA9.symm
                clear hA9
                obtain ⟨z471, z472, z473, z474, z475, z476, z477, z478, z479, z480, z481, z482, z483, z484, z485, z486, z487, z488⟩ := cs18 H470.out 3 rfl
                have z489 := H470.out.loadStg 2 rfl (by rw [HA9.out]; rfl)
                go_wp2_with (first | (refine loadArm z489 (by rfl) (by rfl) ?_) | (refine storeArm (H470.out.rowAt 3 rfl) (cs' := A9) (by rw [HA9.out]; first | rfl | kernel_rfl) (by rw [HA9.out]; first | rfl | kernel_rfl) (by rw [HA9.out]; first | rfl | kernel_rfl) (by rfl) (by rfl) (by rfl) ?_))
                clear z471 z472 z473 z474 z475 z476 z477 z478 z479 z480 z481 z482 z483 z484 z485 z486 z487 z488 z489
                have H490 := hid (show St _ _ (_ :: _ :: _ :: .cells (D1 + 1) A9 33 :: _) _ _ from (H470.out.setRow 3 rfl A9))
                have H491 := hid (H490.out.arrNilE 55 2)
                have H492 := hid (H491.out.arrNilE 55 2)
                have H493 := hid (H492.out.grow (Below.refl _ _) (Own.nil _ _))
                have H494 := hid (H493.out.grow (Below.refl _ _) (Own.nil _ _))
                have H495 := hid (H494.out.grow (Below.refl _ _) (Own.nil _ _))
                have hfin := St.pickT (l0 := [_, _, _, _, _, _, _, _, _, _, _]) (T := l) (l' := [_, _, _, _, _, _, _]) H495.out [3, 4, 0, 1, 2, 5, 10] rfl (by decide)
                refine bodyPost_ret (v := .agg A9) ?_ rfl ⟨⟨(1 + x4), a, b, bar9, 0, 0, 0, 0, none, 0, [], none, 0, [], none, 0, [], 0, 0, none, 0, 0, [], none, 0, 0, [], 0, (some ⟨g461, 0, none⟩), ln463, c462, L460, x17⟩, rs, by rw [HA9.out]; rfl, ⟨by (try simp only [List.length_nil]); first | omega | (simp; omega), by (try simp only [List.length_nil]); first | omega | (simp; omega), by (try simp only [List.length_nil]); first | omega | (simp; omega), by (try simp only [List.length_nil]); first | omega | (simp; omega), by (try simp only [List.length_nil]); first | omega | (simp; omega), by (try simp only [List.length_nil]); first | omega | (simp; omega)⟩, TQ.nilT _ _, TQ.nilT _ _, hfin⟩
                exact results_cell_row rfl _ _ (D1 + 1) 33 _ (0, 0) _ (by rfl) (H495.out.rowAt 8 rfl) Try.underlying33 rfl (by have hz : (Try.prog.info? 33).map (·.size) = some 18 := (by kernel_rfl); rw [hz, HA9.out]; rfl)
              · have c451a : ((x448 : Int) == (0)) = false := by simpa using c451
                have c451b : ((x448 : Int) != (0)) = true := by simpa using c451
                have c451h := hid c451
                clear c451
                have z496 := H450.out.cell 1 rfl 2 rfl
                go_wp2_with fail
                clear z496
                refine (ops_any B k false _ (H450.out.tapeAt 4 rfl)).mono ?_
                rintro e w497 ⟨v499, L500, rfl, hoi, hl1, hl2, ho, ht, hg⟩
                obtain ⟨ln503, hln503⟩ : ∃ q, L500.length = q := ⟨_, rfl⟩
                rw [hln503] at ho hl1 hl2
                have HLNL500 := hid hln503
                have H498 := hid (St.addE2 H450.out (H450.out.next 4 rfl ht hg) ho)
                obtain ⟨g501, c502, hva⟩ := arr_pos ho (by omega)
                subst hva
                have HOL500 := hid hoi
                obtain ⟨ln503a, ln503b⟩ := And.intro hl1 hl2
                clear ho ht hg hoi hln503 hl1 hl2
                have z504 := H498.out.cell 2 rfl 16 rfl
                have z505 := H498.out.free 2 rfl 16
                have z506 := H498.out.cell 2 rfl 17 rfl
                have z507 := H498.out.free 2 rfl 17
                go_upto_region 17 with fail
                clear z504 z505 z506 z507
                have H508 := hid (show St _ _ (_ :: _ :: .cells D10 #[.int .i64 (1 + x4), .int .i64 a, .int .i64 (-1), .bool bar9, .int .i64 0, .int .i64 0, .int .i64 0, .int .i64 0, .slice none 0 0, .slice none 0 0, .slice none 0 0, .int .i64 0, .int .i64 0, .slice none 0 0, .slice none 0 0, .int .i64 0, .slice (some ⟨g501, 0, none⟩) ln503 c502, .int .i64 x17] 33 :: _) _ _ from ((H498.out.set 2 rfl 16 (.slice (some ⟨g501, 0, none⟩) ln503 c502)).set 2 rfl 17 (.int .i64 x17)))
                first | refine gen_code H508.out ?_ | refine gen_list H508.out ?_ | refine gen_calls H508.out ?_
                intro w509 hG
                clear H508
                have H508 := hid hG
                clear hG
                obtain ⟨A9, hA9⟩ : ∃ z : Array Value, #[.int .i64 (1 + x4), .int .i64 a, .int .i64 (-1), .bool bar9, .int .i64 0, .int .i64 0, .int .i64 0, .int .i64 0, .slice none 0 0, .slice none 0 0, .slice none 0 0, .int .i64 0, .int .i64 0, .slice none 0 0, .slice none 0 0, .int .i64 0, .slice (some ⟨g501, 0, none⟩) ln503 c502, .int .i64 x17] = z := ⟨_, rfl⟩
                have H510 := H508; rw [hA9] at H510
                have HA9 := hid hA9.symm
                clear hA9
                obtain ⟨z511, z512, z513, z514, z515, z516, z517, z518, z519, z520, z521, z522, z523, z524, z525, z526, z527, z528⟩ := cs18 H510.out 3 rfl
                have z529 := H510.out.loadStg 2 rfl (by rw [HA9.out]; rfl)
                go_wp2_with (first | (refine loadArm z529 (by rfl) (by rfl) ?_) | (refine storeArm (H510.out.rowAt 3 rfl) (cs' := A9) (by rw [HA9.out]; first | rfl | kernel_rfl) (by rw [HA9.out]; first | rfl | kernel_rfl) (by rw [HA9.out]; first | rfl | kernel_rfl) (by rfl) (by rfl) (by rfl) ?_))
                clear z511 z512 z513 z514 z515 z516 z517 z518 z519 z520 z521 z522 z523 z524 z525 z526 z527 z528 z529
                have H530 := hid (show St _ _ (_ :: _ :: _ :: .cells (D1 + 1) A9 33 :: _) _ _ from (H510.out.setRow 3 rfl A9))
                have H531 := hid (H530.out.arrNilE 55 2)
                have H532 := hid (H531.out.arrNilE 55 2)
                have H533 := hid (H532.out.grow (Below.refl _ _) (Own.nil _ _))
                have H534 := hid (H533.out.grow (Below.refl _ _) (Own.nil _ _))
                have H535 := hid (H534.out.grow (Below.refl _ _) (Own.nil _ _))
                have hfin := St.pickT (l0 := [_, _, _, _, _, _, _, _, _, _, _]) (T := l) (l' := [_, _, _, _, _, _, _]) H535.out [3, 4, 0, 1, 2, 5, 10] rfl (by decide)
                refine bodyPost_ret (v := .agg A9) ?_ rfl ⟨⟨(1 + x4), a, (-1), bar9, 0, 0, 0, 0, none, 0, [], none, 0, [], none, 0, [], 0, 0, none, 0, 0, [], none, 0, 0, [], 0, (some ⟨g501, 0, none⟩), ln503, c502, L500, x17⟩, rs, by rw [HA9.out]; rfl, ⟨by (try simp only [List.length_nil]); first | omega | (simp; omega), by (try simp only [List.length_nil]); first | omega | (simp; omega), by (try simp only [List.length_nil]); first | omega | (simp; omega), by (try simp only [List.length_nil]); first | omega | (simp; omega), by (try simp only [List.length_nil]); first | omega | (simp; omega), by (try simp only [List.length_nil]); first | omega | (simp; omega)⟩, TQ.nilT _ _, TQ.nilT _ _, hfin⟩
                exact results_cell_row rfl _ _ (D1 + 1) 33 _ (0, 0) _ (by rfl) (H535.out.rowAt 8 rfl) Try.underlying33 rfl (by have hz : (Try.prog.info? 33).map (·.size) = some 18 := (by kernel_rfl); rw [hz, HA9.out]; rfl)
            · skip
              have z536 := H19.out.cell 1 rfl 0 rfl
              have z537 := H19.out.cell 1 rfl 2 rfl
              go_wp2_with fail
              clear z536 z537
              refine (ops_any B k false _ (H19.out.tapeAt 4 rfl)).mono ?_
              rintro e w538 ⟨v540, L541, rfl, hoi, hl1, hl2, ho, ht, hg⟩
              obtain ⟨ln544, hln544⟩ : ∃ q, L541.length = q := ⟨_, rfl⟩
              rw [hln544] at ho hl1 hl2
              have HLNL541 := hid hln544
              have H539 := hid (St.addE2 H19.out (H19.out.next 4 rfl ht hg) ho)
              obtain ⟨g542, c543, hva⟩ := arr_pos ho (by omega)
              subst hva
              have HOL541 := hid hoi
              obtain ⟨ln544a, ln544b⟩ := And.intro hl1 hl2
              clear ho ht hg hoi hln544 hl1 hl2
              have z545 := H539.out.cell 2 rfl 16 rfl
              have z546 := H539.out.free 2 rfl 16
              have z547 := H539.out.cell 2 rfl 17 rfl
              have z548 := H539.out.free 2 rfl 17
              go_upto_region 17 with fail
              clear z545 z546 z547 z548
              have H549 := hid (show St _ _ (_ :: _ :: .cells D10 #[.int .i64 (1 + x4), .int .i64 a, .int .i64 (-1), .bool bar9, .int .i64 0, .int .i64 0, .int .i64 0, .int .i64 0, .slice none 0 0, .slice none 0 0, .slice none 0 0, .int .i64 0, .int .i64 0, .slice none 0 0, .slice none 0 0, .int .i64 0, .slice (some ⟨g542, 0, none⟩) ln544 c543, .int .i64 x17] 33 :: _) _ _ from ((H539.out.set 2 rfl 16 (.slice (some ⟨g542, 0, none⟩) ln544 c543)).set 2 rfl 17 (.int .i64 x17)))
              first | refine gen_code H549.out ?_ | refine gen_list H549.out ?_ | refine gen_calls H549.out ?_
              intro w550 hG
              clear H549
              have H549 := hid hG
              clear hG
              obtain ⟨A9, hA9⟩ : ∃ z : Array Value, #[.int .i64 (1 + x4), .int .i64 a, .int .i64 (-1), .bool bar9, .int .i64 0, .int .i64 0, .int .i64 0, .int .i64 0, .slice none 0 0, .slice none 0 0, .slice none 0 0, .int .i64 0, .int .i64 0, .slice none 0 0, .slice none 0 0, .int .i64 0, .slice (some ⟨g542, 0, none⟩) ln544 c543, .int .i64 x17] = z := ⟨_, rfl⟩
              have H551 := H549; rw [hA9] at H551
              have HA9 := hid hA9.symm
              clear hA9
              obtain ⟨z552, z553, z554, z555, z556, z557, z558, z559, z560, z561, z562, z563, z564, z565, z566, z567, z568, z569⟩ := cs18 H551.out 3 rfl
              have z570 := H551.out.loadStg 2 rfl (by rw [HA9.out]; rfl)
              go_wp2_with (first | (refine loadArm z570 (by rfl) (by rfl) ?_) | (refine storeArm (H551.out.rowAt 3 rfl) (cs' := A9) (by rw [HA9.out]; first | rfl | kernel_rfl) (by rw [HA9.out]; first | rfl | kernel_rfl) (by rw [HA9.out]; first | rfl | kernel_rfl) (by rfl) (by rfl) (by rfl) ?_))
              clear z552 z553 z554 z555 z556 z557 z558 z559 z560 z561 z562 z563 z564 z565 z566 z567 z568 z569 z570
              have H571 := hid (show St _ _ (_ :: _ :: _ :: .cells (D1 + 1) A9 33 :: _) _ _ from (H551.out.setRow 3 rfl A9))
              have H572 := hid (H571.out.arrNilE 55 2)
              have H573 := hid (H572.out.arrNilE 55 2)
              have H574 := hid (H573.out.grow (Below.refl _ _) (Own.nil _ _))
              have H575 := hid (H574.out.grow (Below.refl _ _) (Own.nil _ _))
              have H576 := hid (H575.out.grow (Below.refl _ _) (Own.nil _ _))
              have hfin := St.pickT (l0 := [_, _, _, _, _, _, _, _, _, _, _]) (T := l) (l' := [_, _, _, _, _, _, _]) H576.out [3, 4, 0, 1, 2, 5, 10] rfl (by decide)
              refine bodyPost_ret (v := .agg A9) ?_ rfl ⟨⟨(1 + x4), a, (-1), bar9, 0, 0, 0, 0, none, 0, [], none, 0, [], none, 0, [], 0, 0, none, 0, 0, [], none, 0, 0, [], 0, (some ⟨g542, 0, none⟩), ln544, c543, L541, x17⟩, rs, by rw [HA9.out]; rfl, ⟨by (try simp only [List.length_nil]); first | omega | (simp; omega), by (try simp only [List.length_nil]); first | omega | (simp; omega), by (try simp only [List.length_nil]); first | omega | (simp; omega), by (try simp only [List.length_nil]); first | omega | (simp; omega), by (try simp only [List.length_nil]); first | omega | (simp; omega), by (try simp only [List.length_nil]); first | omega | (simp; omega)⟩, TQ.nilT _ _, TQ.nilT _ _, hfin⟩
              exact results_cell_row rfl _ _ (D1 + 1) 33 _ (0, 0) _ (by rfl) (H576.out.rowAt 8 rfl) Try.underlying33 rfl (by have hz : (Try.prog.info? 33).map (·.size) = some 18 := (by kernel_rfl); rw [hz, HA9.out]; rfl)
          · have c445a : ((1 + x4 : Int) == (6)) = false := by simpa using c445
            have c445b : ((1 + x4 : Int) != (6)) = true := by simpa using c445
            have c445h := hid c445
            clear c445
            have z577 := H19.out.cell 1 rfl 0 rfl
            go_upto_region 17 with fail
            clear z577
            obtain ⟨A9, hA9⟩ : ∃ z : Array Value, #[.int .i64 (1 + x4), .int .i64 a, .int .i64 (-1), .bool bar9, .int .i64 0, .int .i64 0, .int .i64 0, .int .i64 0, .slice none 0 0, .slice none 0 0, .slice none 0 0, .int .i64 0, .int .i64 0, .slice none 0 0, .slice none 0 0, .int .i64 0, .slice none 0 0, .int .i64 0] = z := ⟨_, rfl⟩
            have H578 := H19; rw [hA9] at H578
            have HA9 := hid hA9.symm
            clear hA9
            obtain ⟨z579, z580, z581, z582, z583, z584, z585, z586, z587, z588, z589, z590, z591, z592, z593, z594, z595, z596⟩ := cs18 H578.out 2 rfl
            have z597 := H578.out.loadStg 1 rfl (by rw [HA9.out]; rfl)
            go_wp2_with (first | (refine loadArm z597 (by rfl) (by rfl) ?_) | (refine storeArm (H578.out.rowAt 2 rfl) (cs' := A9) (by rw [HA9.out]; first | rfl | kernel_rfl) (by rw [HA9.out]; first | rfl | kernel_rfl) (by rw [HA9.out]; first | rfl | kernel_rfl) (by rfl) (by rfl) (by rfl) ?_))
            clear z579 z580 z581 z582 z583 z584 z585 z586 z587 z588 z589 z590 z591 z592 z593 z594 z595 z596 z597
            have H598 := hid (show St _ _ (_ :: _ :: .cells (D1 + 1) A9 33 :: _) _ _ from (H578.out.setRow 2 rfl A9))
            have H599 := hid (H598.out.arrNilE 55 2)
            have H600 := hid (H599.out.arrNilE 55 2)
            have H601 := hid (H600.out.grow (Below.refl _ _) (Own.nil _ _))
            have H602 := hid (H601.out.grow (Below.refl _ _) (Own.nil _ _))
            have H603 := hid (H602.out.grow (Below.refl _ _) (Own.nil _ _))
            have H604 := hid (H603.out.arrNilE 57 2)
            have hfin := St.pickT (l0 := [_, _, _, _, _, _, _, _, _, _, _]) (T := l) (l' := [_, _, _, _, _, _, _]) H604.out [4, 5, 1, 2, 3, 0, 10] rfl (by decide)
            refine bodyPost_ret (v := .agg A9) ?_ rfl ⟨⟨(1 + x4), a, (-1), bar9, 0, 0, 0, 0, none, 0, [], none, 0, [], none, 0, [], 0, 0, none, 0, 0, [], none, 0, 0, [], 0, none, 0, 0, [], 0⟩, rs, by rw [HA9.out]; rfl, ⟨by (try simp only [List.length_nil]); first | omega | (simp; omega), by (try simp only [List.length_nil]); first | omega | (simp; omega), by (try simp only [List.length_nil]); first | omega | (simp; omega), by (try simp only [List.length_nil]); first | omega | (simp; omega), by (try simp only [List.length_nil]); first | omega | (simp; omega), by (try simp only [List.length_nil]); first | omega | (simp; omega)⟩, TQ.nilT _ _, TQ.nilT _ _, hfin⟩
            exact results_cell_row rfl _ _ (D1 + 1) 33 _ (0, 0) _ (by rfl) (H604.out.rowAt 8 rfl) Try.underlying33 rfl (by have hz : (Try.prog.info? 33).map (·.size) = some 18 := (by kernel_rfl); rw [hz, HA9.out]; rfl)
end Go.Proofs.Yteejjnhlfgjlaaa
