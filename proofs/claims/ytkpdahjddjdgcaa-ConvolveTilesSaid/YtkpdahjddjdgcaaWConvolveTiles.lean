/-
  The walk of ConvolveTiles: the tiles of convolutions are those of the reference.
-/
import Derived.Test.YtkpdahjddjdgcaaSane9
import Derived.Test.YtkpdahjddjdgcaaCvQTile
import Derived.Test.YtkpdahjddjdgcaaWeights
import Derived.Test.YtkpdahjddjdgcaaKG
import Derived.Test.YtkpdahjddjdgcaaKD
import Derived.Test.YtkpdahjddjdgcaaKX
namespace Go.Proofs.Ytkpdahjddjdgcaa
open Go.RowKit
attribute [local go_sem ↓] Go.wp_at_zero Go.wp_at_succ
set_option linter.unusedVariables false
set_option linter.unusedSimpArgs false

set_option maxRecDepth 100000 in
set_option maxHeartbeats 12800000 in
theorem walk_ConvolveTiles (a : Option Addr) (n c : Nat) (zs : List Int) (r0 r1 r2 r3 : Int) (W : World) (hr : RowIn .i64 W a n c zs) (_ : I64 r0) (_ : I64 r1) (_ : I64 r2) (_ : I64 r3) :
  Calls Try.prog 4 #[.slice a n c, .agg #[.int .i64 r0, .int .i64 r1, .int .i64 r2, .int .i64 r3]] W fun e w' => e = .returned (.bool true) ∧ Below W.heap.size W w' := by
 obtain ⟨B, hB⟩ : ∃ B, W.heap.size = B := ⟨_, rfl⟩
 have HI0 := hid (St.init hB)
 have HN := hid (nearRow hr hB)
 have HR := hid hr
 clear hr
 go_enter Try.func4, Try.ntmps4
 go_upto_region 1 with fail
 have H1 := hid (show St B W [.cells B #[.int .i64 r0, .int .i64 r1, .int .i64 r2, .int .i64 r3] 33] [] (W.alloc (.cells #[.int .i64 r0, .int .i64 r1, .int .i64 r2, .int .i64 r3] 33)) from (HI0.out.alloc #[.int .i64 r0, .int .i64 r1, .int .i64 r2, .int .i64 r3] 33 hB))
 first | refine gen_code H1.out ?_ | refine gen_list H1.out ?_ | refine gen_calls H1.out ?_
 intro w2 hG
 clear H1
 have H1 := hid hG
 clear hG
 go_wp2_with fail
 obtain ⟨K3, hK3⟩ : ∃ D, w2.heap.size = D := ⟨_, rfl⟩
 refine (newB_any B _ _ _ _ _ HR.out.len (H1.out.oldRow HR.out.row) HN.out H1.out.size).mono ?_
 rintro e w4 ⟨rfl, ht, hb, hs⟩
 rw [hK3] at ht ⊢
 have H5 := hid (H1.out.newTape ht hb hK3)
 clear ht hb hs hK3
 go_wp2_with fail
 go_loopw [6] (fun i wr => ∃ j : Nat, j ≤ 3 ∧ i = .int .i64 j ∧ St B W [.tape K3, .cells B #[.int .i64 r0, .int .i64 r1, .int .i64 r2, .int .i64 r3] 33] [] wr) (fun i _ => 3 - (intOf i).toNat)
 case atStart => exact ⟨0, by omega, rfl, H5.out.pick [0, 1] rfl (by decide)⟩
 case round =>
  obtain ⟨j, hj, rfl, hst⟩ := hrel
  obtain ⟨u6, rfl⟩ : ∃ u6 : World, u6 = wr := ⟨_, rfl⟩
  have H7 := hid hst
  clear hst
  by_cases c8 : (j : Int) < 3
  ·skip
   go_wp2_with fail
   refine (plane_any B K3 _ (H7.out.tapeAt 0 rfl)).mono ?_
   rintro e w10 ⟨pw9, ph9, pw91, pw92, ph91, ph92, pm9, pv9, ps9, rfl, hv, hm, ho, ht, hg⟩
   have H11 := hid (H7.out.add (H7.out.next 0 rfl ht hg) ho)
   have HVps9 := hid hv
   have HMps9 := hid hm
   obtain ⟨pv9a, pv9c, rfl, _⟩ := ho.slc
   clear hv hm ho ht hg
   obtain ⟨D12, hD12⟩ : ∃ D, w10.heap.size = D := ⟨_, rfl⟩
   go_upto_region 6 with fail
   have H13 := hid (show St B W [.cells D12 #[.int .i64 pw9, .int .i64 ph9, .int .i64 pm9, .slice pv9a ps9.length pv9c] 35, .own (.slice pv9a ps9.length pv9c) ps9, .tape K3, .cells B #[.int .i64 r0, .int .i64 r1, .int .i64 r2, .int .i64 r3] 33] [] (w10.alloc (.cells #[.int .i64 pw9, .int .i64 ph9, .int .i64 pm9, .slice pv9a ps9.length pv9c] 35)) from (H11.out.alloc #[.int .i64 pw9, .int .i64 ph9, .int .i64 pm9, .slice pv9a ps9.length pv9c] 35 hD12))
   first | refine gen_code H13.out ?_ | refine gen_list H13.out ?_ | refine gen_calls H13.out ?_
   intro w14 hG
   clear H13
   have H13 := hid hG
   clear hG
   clear hD12
   obtain ⟨D15, hD15⟩ : ∃ D, w14.heap.size = D := ⟨_, rfl⟩
   go_wp2_with fail
   have H16 := hid (show St B W [.cells D15 #[.int .i64 1, .int .i64 3, .int .i64 2, .int .i64 5, .int .i64 9] 3, .cells D12 #[.int .i64 pw9, .int .i64 ph9, .int .i64 pm9, .slice pv9a ps9.length pv9c] 35, .own (.slice pv9a ps9.length pv9c) ps9, .tape K3, .cells B #[.int .i64 r0, .int .i64 r1, .int .i64 r2, .int .i64 r3] 33] [] (w14.alloc (.cells #[.int .i64 1, .int .i64 3, .int .i64 2, .int .i64 5, .int .i64 9] 3)) from (H13.out.alloc #[.int .i64 1, .int .i64 3, .int .i64 2, .int .i64 5, .int .i64 9] 3 hD15))
   first | refine gen_code H16.out ?_ | refine gen_list H16.out ?_ | refine gen_calls H16.out ?_
   intro w17 hG
   clear H16
   have H16 := hid hG
   clear hG
   clear hD15
   refine (pickB_any B K3 _ 5 5 [1, 3, 2, 5, 9] _ (by omega) (by omega) (H16.out.tapeAt 3 rfl) (H16.out.lit 0 [1, 3, 2, 5, 9] rfl (by simp)).row (.inr ⟨_, rfl, H16.out.ne 0 3 rfl rfl (by decide) rfl rfl⟩)).mono ?_
   rintro e w19 ⟨x18, rfl, hx18, htn, hgn, hsn⟩
   have H20 := hid (H16.out.next 3 rfl htn hgn)
   clear htn hgn hsn
   obtain ⟨x181, x182⟩ : 1 ≤ x18 ∧ x18 ≤ 9 := by simp only [List.mem_cons, List.not_mem_nil, or_false] at hx18; omega
   clear hx18
   obtain ⟨D21, hD21⟩ : ∃ D, w19.heap.size = D := ⟨_, rfl⟩
   go_wp2_with fail
   have H22 := hid (show St B W [.cells D21 #[.int .i64 1, .int .i64 3, .int .i64 2] 3, .cells D15 #[.int .i64 1, .int .i64 3, .int .i64 2, .int .i64 5, .int .i64 9] 3, .cells D12 #[.int .i64 pw9, .int .i64 ph9, .int .i64 pm9, .slice pv9a ps9.length pv9c] 35, .own (.slice pv9a ps9.length pv9c) ps9, .tape K3, .cells B #[.int .i64 r0, .int .i64 r1, .int .i64 r2, .int .i64 r3] 33] [] (w19.alloc (.cells #[.int .i64 1, .int .i64 3, .int .i64 2] 3)) from (H20.out.alloc #[.int .i64 1, .int .i64 3, .int .i64 2] 3 hD21))
   first | refine gen_code H22.out ?_ | refine gen_list H22.out ?_ | refine gen_calls H22.out ?_
   intro w23 hG
   clear H22
   have H22 := hid hG
   clear hG
   clear hD21
   refine (pickB_any B K3 _ 3 3 [1, 3, 2] _ (by omega) (by omega) (H22.out.tapeAt 4 rfl) (H22.out.lit 0 [1, 3, 2] rfl (by simp)).row (.inr ⟨_, rfl, H22.out.ne 0 4 rfl rfl (by decide) rfl rfl⟩)).mono ?_
   rintro e w25 ⟨x24, rfl, hx24, htn, hgn, hsn⟩
   have H26 := hid (H22.out.next 4 rfl htn hgn)
   clear htn hgn hsn
   obtain ⟨x241, x242⟩ : 1 ≤ x24 ∧ x24 ≤ 3 := by simp only [List.mem_cons, List.not_mem_nil, or_false] at hx24; omega
   clear hx24
   go_upto_region 7 with fail
   have ab1 := Int.mul_nonneg (a := x18) (b := x24) (by omega) (by omega)
   have ab2 := Int.mul_le_mul (a := x18) (b := x24) (c := 9) (d := 3) (by omega) (by omega) (by omega) (by omega)
   obtain ⟨ab, hab⟩ : ∃ xx', x18 * x24 = xx' := ⟨_, rfl⟩
   rw [hab] at ab1 ab2
   have wab : IntKind.i64.wrap ab = ab := IntWalk.i64_in _ (by omega)
   go_cut [10, 11, 12, 13] (fun s s1 s2 s3 wx => ∃ (RE RQ : Nat) (wla : Option Addr) (wlc : Nat) (wls : List Int) (ep ef sh q0 q1 q2 q3 : Int), s = .slice wla wls.length wlc ∧ s1 = .pointer (some ⟨RE, 0, none⟩) ∧ s2 = .int .i64 sh ∧ s3 = .pointer (some ⟨RQ, 0, none⟩) ∧ St B W [.own (.slice wla wls.length wlc) wls, .cells RE #[.int .i64 ep, .int .i64 ef] 38, .cells RQ #[.int .i64 q0, .int .i64 q1, .int .i64 q2, .int .i64 q3] 33, .cells D21 #[.int .i64 1, .int .i64 3, .int .i64 2] 3, .cells D15 #[.int .i64 1, .int .i64 3, .int .i64 2, .int .i64 5, .int .i64 9] 3, .cells D12 #[.int .i64 pw9, .int .i64 ph9, .int .i64 pm9, .slice pv9a ps9.length pv9c] 35, .own (.slice pv9a ps9.length pv9c) ps9, .tape K3, .cells B #[.int .i64 r0, .int .i64 r1, .int .i64 r2, .int .i64 r3] 33] [] wx)
   case first =>
    go_upto_region 7 with fail
    have H27 := hid H26.out.drew
    refine wp_region_held_drew (S := (fun w' => w'.cell? ⟨D12, 0, none⟩ = some (.int .i64 pw9) ∧ w'.cell? ⟨D12, 1, none⟩ = some (.int .i64 ph9) ∧ w'.cell? ⟨D12, 2, none⟩ = some (.int .i64 pm9) ∧ w'.cell? ⟨D12, 3, none⟩ = some (.slice pv9a ps9.length pv9c))) (by kernel_rfl) ⟨H27.out.cell 2 rfl 0 rfl, H27.out.cell 2 rfl 1 rfl, H27.out.cell 2 rfl 2 rfl, H27.out.cell 2 rfl 3 rfl⟩ (fun hHeld => ?_)
    generalize w25.drew = k28 at *
    refine wpAnyH_take (i := 0) (oi := _) (v := ?_) rfl (by kernel_rfl) (by kernel_rfl) (by kernel_rfl) (fun _ _ _ h => h) (Or.inl ⟨by rfl, ?_⟩) (by assumption) ?_
    rotate_left
    focus (intro wS hSw; (try dsimp only at hSw); go_simp; (try with_reducible rfl))
    try simp only [Act.put, List.getElem_toArray, List.getElem_cons_zero, List.getElem_cons_succ, List.setIfInBounds_toArray, List.set_cons_zero, List.set_cons_succ]
    refine wpAnyH_take (i := 1) (oi := _) (v := ?_) rfl (by kernel_rfl) (by kernel_rfl) (by kernel_rfl) (fun _ _ _ h => h) (Or.inl ⟨by rfl, ?_⟩) (by assumption) ?_
    rotate_left
    focus (intro wS hSw; (try dsimp only at hSw); go_simp; (try with_reducible rfl))
    try simp only [Act.put, List.getElem_toArray, List.getElem_cons_zero, List.getElem_cons_succ, List.setIfInBounds_toArray, List.set_cons_zero, List.set_cons_succ]
    refine wpAnyH_take (i := 2) (oi := _) (v := ?_) rfl (by kernel_rfl) (by kernel_rfl) (by kernel_rfl) (fun _ _ _ h => h) (Or.inl ⟨by rfl, ?_⟩) (by assumption) ?_
    rotate_left
    focus (intro wS hSw; (try dsimp only at hSw); go_simp; (try with_reducible rfl))
    try simp only [Act.put, List.getElem_toArray, List.getElem_cons_zero, List.getElem_cons_succ, List.setIfInBounds_toArray, List.set_cons_zero, List.set_cons_succ]
    refine wpAnyH_take (i := 3) (oi := _) (v := ?_) rfl (by kernel_rfl) (by kernel_rfl) (by kernel_rfl) (fun _ _ _ h => h) (Or.inl ⟨by rfl, ?_⟩) (by assumption) ?_
    rotate_left
    focus (intro wS hSw; (try dsimp only at hSw); go_simp; (try with_reducible rfl))
    try simp only [Act.put, List.getElem_toArray, List.getElem_cons_zero, List.getElem_cons_succ, List.setIfInBounds_toArray, List.set_cons_zero, List.set_cons_succ]
    refine wpAnyH_take (i := 5) (oi := _) (v := ?_) rfl (by kernel_rfl) (by kernel_rfl) (by kernel_rfl) (fun _ _ _ h => h) (Or.inl ⟨by rfl, ?_⟩) (by assumption) ?_
    rotate_left
    focus (intro wS hSw; (try dsimp only at hSw); go_simp; (try with_reducible rfl))
    try simp only [Act.put, List.getElem_toArray, List.getElem_cons_zero, List.getElem_cons_succ, List.setIfInBounds_toArray, List.set_cons_zero, List.set_cons_succ]
    refine wpAnyH_take (i := 6) (oi := _) (v := ?_) rfl (by kernel_rfl) (by kernel_rfl) (by kernel_rfl) (fun _ _ _ h => h) (Or.inl ⟨by rfl, ?_⟩) (by assumption) ?_
    rotate_left
    focus (intro wS hSw; (try dsimp only at hSw); go_simp; (try with_reducible rfl))
    try simp only [Act.put, List.getElem_toArray, List.getElem_cons_zero, List.getElem_cons_succ, List.setIfInBounds_toArray, List.set_cons_zero, List.set_cons_succ]
    refine wpAnyH_take (i := 7) (oi := _) (v := ?_) rfl (by kernel_rfl) (by kernel_rfl) (by kernel_rfl) (fun _ _ _ h => h) (Or.inl ⟨by rfl, ?_⟩) (by assumption) ?_
    rotate_left
    focus (intro wS hSw; (try dsimp only at hSw); go_simp; (try with_reducible rfl))
    try simp only [Act.put, List.getElem_toArray, List.getElem_cons_zero, List.getElem_cons_succ, List.setIfInBounds_toArray, List.set_cons_zero, List.set_cons_succ]
    refine wpAnyH_take (i := 9) (oi := _) (v := ?_) rfl (by kernel_rfl) (by kernel_rfl) (by kernel_rfl) (fun _ _ _ h => h) (Or.inl ⟨by rfl, ?_⟩) (by assumption) ?_
    rotate_left
    focus (intro wS hSw; (try dsimp only at hSw); go_simp; (try with_reducible rfl))
    try simp only [Act.put, List.getElem_toArray, List.getElem_cons_zero, List.getElem_cons_succ, List.setIfInBounds_toArray, List.set_cons_zero, List.set_cons_succ]
    refine wpAnyH_take (i := 11) (oi := _) (v := ?_) rfl (by kernel_rfl) (by kernel_rfl) (by kernel_rfl) (fun _ _ _ h => h) (Or.inl ⟨by rfl, ?_⟩) (by assumption) ?_
    rotate_left
    focus (intro wS hSw; (try dsimp only at hSw); go_simp; (try with_reducible rfl))
    try simp only [Act.put, List.getElem_toArray, List.getElem_cons_zero, List.getElem_cons_succ, List.setIfInBounds_toArray, List.set_cons_zero, List.set_cons_succ]
    refine wpAnyH_take (i := 12) (oi := _) (v := ?_) rfl (by kernel_rfl) (by kernel_rfl) (by kernel_rfl) (fun _ _ _ h => h) (Or.inl ⟨by rfl, ?_⟩) (by assumption) ?_
    rotate_left
    focus (intro wS hSw; (try dsimp only at hSw); go_simp; (try with_reducible rfl))
    try simp only [Act.put, List.getElem_toArray, List.getElem_cons_zero, List.getElem_cons_succ, List.setIfInBounds_toArray, List.set_cons_zero, List.set_cons_succ]
    refine wpAnyH_take (i := 13) (oi := _) (v := ?_) rfl (by kernel_rfl) (by kernel_rfl) (by kernel_rfl) (fun _ _ _ h => h) (Or.inl ⟨by rfl, ?_⟩) (by assumption) ?_
    rotate_left
    focus (intro wS hSw; (try dsimp only at hSw); go_simp; (try with_reducible rfl))
    try simp only [Act.put, List.getElem_toArray, List.getElem_cons_zero, List.getElem_cons_succ, List.setIfInBounds_toArray, List.set_cons_zero, List.set_cons_succ]
    refine wpAnyH_take (i := 14) (oi := _) (v := ?_) rfl (by kernel_rfl) (by kernel_rfl) (by kernel_rfl) (fun _ _ _ h => h) (Or.inl ⟨by rfl, ?_⟩) (by assumption) ?_
    rotate_left
    focus (intro wS hSw; (try dsimp only at hSw); go_simp; (try with_reducible rfl))
    try simp only [Act.put, List.getElem_toArray, List.getElem_cons_zero, List.getElem_cons_succ, List.setIfInBounds_toArray, List.set_cons_zero, List.set_cons_succ]
    refine wpAnyH_take (i := 15) (oi := _) (v := ?_) rfl (by kernel_rfl) (by kernel_rfl) (by kernel_rfl) (fun _ _ _ h => h) (Or.inl ⟨by rfl, ?_⟩) (by assumption) ?_
    rotate_left
    focus (intro wS hSw; (try dsimp only at hSw); go_simp; (try with_reducible rfl))
    try simp only [Act.put, List.getElem_toArray, List.getElem_cons_zero, List.getElem_cons_succ, List.setIfInBounds_toArray, List.set_cons_zero, List.set_cons_succ]
    refine wpAnyH_ready (rs := [4, 17, 18]) (by kernel_rfl) (by simp) (AllReadyH.cons (o := _) rfl (fun K hK => ?_) (AllReadyH.cons (o := _) rfl (fun K hK => ?_) (AllReadyH.cons (o := _) rfl (fun K hK => ?_) AllReadyH.nil)))
    ·go_simp
     go_at_call 19
     refine (weights_any B K3 _ _ (by omega) (H27.out.tapeAt 4 rfl)).mono ?_
     rintro e w29 ⟨wv30, wl31, rfl, hlen, hin, ho, ht, hg⟩
     have H32 := hid (H27.out.add (H27.out.next 4 rfl ht hg) ho)
     have HWLwl31 := hid hlen
     have HWBwl31 := hid hin
     obtain ⟨wv30a, wv30c, rfl, _⟩ := ho.slc
     clear hlen hin ho ht hg
     refine hK.out _ _ ?_ (fun hHeld2 => ?_)
     focus ((try dsimp only); (exact ⟨H32.out.cell 3 rfl 0 rfl, H32.out.cell 3 rfl 1 rfl, H32.out.cell 3 rfl 2 rfl, H32.out.cell 3 rfl 3 rfl⟩))
     clear hK K
     try simp only [Act.put, List.getElem_toArray, List.getElem_cons_zero, List.getElem_cons_succ, List.setIfInBounds_toArray, List.set_cons_zero, List.set_cons_succ]
     clear hHeld
     have hHeld := hHeld2
     clear hHeld2
     refine wpAnyH_ready (rs := [8, 17, 18]) (by kernel_rfl) (by simp) (AllReadyH.cons (o := _) rfl (fun K hK => ?_) (AllReadyH.cons (o := _) rfl (fun K hK => ?_) (AllReadyH.cons (o := _) rfl (fun K hK => ?_) AllReadyH.nil)))
     ·go_simp
      go_at_call 25
      refine (edge_any B K3 _ _ (H32.out.tapeAt 5 rfl)).mono ?_
      rintro e w34 ⟨e33_0, e33_1, rfl, ht, hg⟩
      have H35 := hid (H32.out.next 5 rfl ht hg)
      clear ht hg
      refine hK.out _ _ ?_ (fun hHeld2 => ?_)
      focus ((try dsimp only); (exact ⟨H35.out.cell 3 rfl 0 rfl, H35.out.cell 3 rfl 1 rfl, H35.out.cell 3 rfl 2 rfl, H35.out.cell 3 rfl 3 rfl⟩))
      clear hK K
      try simp only [Act.put, List.getElem_toArray, List.getElem_cons_zero, List.getElem_cons_succ, List.setIfInBounds_toArray, List.set_cons_zero, List.set_cons_succ]
      clear hHeld
      have hHeld := hHeld2
      clear hHeld2
      refine wpAnyH_ready (rs := [10, 17, 18]) (by kernel_rfl) (by simp) (AllReadyH.cons (o := _) rfl (fun K hK => ?_) (AllReadyH.cons (o := _) rfl (fun K hK => ?_) (AllReadyH.cons (o := _) rfl (fun K hK => ?_) AllReadyH.nil)))
      ·go_simp
       go_at_call 18
       refine (nextB_any B K3 _ _ (by omega) (H35.out.tapeAt 5 rfl)).mono ?_
       rintro e w37 ⟨x36, rfl, x36a, x36b, htn, hgn, hsn⟩
       have H38 := hid (H35.out.next 5 rfl htn hgn)
       clear htn hgn hsn
       refine hK.out _ _ ?_ (fun hHeld2 => ?_)
       focus ((try dsimp only); (exact ⟨H38.out.cell 3 rfl 0 rfl, H38.out.cell 3 rfl 1 rfl, H38.out.cell 3 rfl 2 rfl, H38.out.cell 3 rfl 3 rfl⟩))
       clear hK K
       try simp only [Act.put, List.getElem_toArray, List.getElem_cons_zero, List.getElem_cons_succ, List.setIfInBounds_toArray, List.set_cons_zero, List.set_cons_succ]
       clear hHeld
       have hHeld := hHeld2
       clear hHeld2
       refine wpAnyH_ready (rs := [16, 17, 18]) (by kernel_rfl) (by simp) (AllReadyH.cons (o := _) rfl (fun K hK => ?_) (AllReadyH.cons (o := _) rfl (fun K hK => ?_) (AllReadyH.cons (o := _) rfl (fun K hK => ?_) AllReadyH.nil)))
       ·go_simp
        go_at_call 26
        refine (within_any B K3 _ _ _ (by omega) (by omega) (by omega) (by omega) (H38.out.tapeAt 5 rfl)).mono ?_
        rintro e w40 ⟨q39_0, q39_1, q39_2, q39_3, rfl, hq39, ht, hg⟩
        have H41 := hid (H38.out.next 5 rfl ht hg)
        have HWq39 := hid hq39
        clear hq39 ht hg
        refine hK.out _ _ ?_ (fun hHeld2 => ?_)
        focus ((try dsimp only); (exact ⟨H41.out.cell 3 rfl 0 rfl, H41.out.cell 3 rfl 1 rfl, H41.out.cell 3 rfl 2 rfl, H41.out.cell 3 rfl 3 rfl⟩))
        clear hK K
        try simp only [Act.put, List.getElem_toArray, List.getElem_cons_zero, List.getElem_cons_succ, List.setIfInBounds_toArray, List.set_cons_zero, List.set_cons_succ]
        clear hHeld
        have hHeld := hHeld2
        clear hHeld2
        refine wpAnyH_ready (rs := [17, 18]) (by kernel_rfl) (by simp) (AllReadyH.cons (o := _) rfl (fun K hK => ?_) (AllReadyH.cons (o := _) rfl (fun K hK => ?_) AllReadyH.nil))
        ·obtain ⟨D42, hD42⟩ : ∃ D, w40.heap.size = D := ⟨_, rfl⟩
         have H43 := hid (H41.out.alloc #[.int .i64 0, .int .i64 0] 38 hD42)
         go_simp
         refine hK.out _ _ ?_ (fun hHeld2 => ?_)
         focus ((try dsimp only); (exact ⟨H43.out.cell 4 rfl 0 rfl, H43.out.cell 4 rfl 1 rfl, H43.out.cell 4 rfl 2 rfl, H43.out.cell 4 rfl 3 rfl⟩))
         clear hK K hHeld
         try simp only [Act.put, List.getElem_toArray, List.getElem_cons_zero, List.getElem_cons_succ, List.setIfInBounds_toArray, List.set_cons_zero, List.set_cons_succ]
         clear hD42
         generalize (w40.alloc (.cells #[.int .i64 0, .int .i64 0] 38)) = k44 at *
         have hHeld := hHeld2
         clear hHeld2
         refine wpAnyH_ready (rs := [18]) (by kernel_rfl) (by simp) (AllReadyH.cons (o := _) rfl (fun K hK => ?_) AllReadyH.nil)
         obtain ⟨D45, hD45⟩ : ∃ D, k44.heap.size = D := ⟨_, rfl⟩
         have H46 := hid (H43.out.alloc #[.int .i64 0, .int .i64 0, .int .i64 0, .int .i64 0] 33 hD45)
         go_simp
         refine hK.out _ _ ?_ (fun hHeld2 => ?_)
         focus ((try dsimp only); (exact ⟨H46.out.cell 5 rfl 0 rfl, H46.out.cell 5 rfl 1 rfl, H46.out.cell 5 rfl 2 rfl, H46.out.cell 5 rfl 3 rfl⟩))
         clear hK K hHeld
         try simp only [Act.put, List.getElem_toArray, List.getElem_cons_zero, List.getElem_cons_succ, List.setIfInBounds_toArray, List.set_cons_zero, List.set_cons_succ]
         clear hD45
         generalize (k44.alloc (.cells #[.int .i64 0, .int .i64 0, .int .i64 0, .int .i64 0] 33)) = k47 at *
         have hHeld := hHeld2
         clear hHeld2
         refine wpAnyH_take (i := 19) (oi := _) (v := ?_) rfl (by kernel_rfl) (by kernel_rfl) (by kernel_rfl) (fun _ _ _ h => h) (Or.inl ⟨by rfl, ?_⟩) (by assumption) ?_
         rotate_left
         focus (intro wS hSw; (try dsimp only at hSw); go_simp; (try with_reducible rfl))
         try simp only [Act.put, List.getElem_toArray, List.getElem_cons_zero, List.getElem_cons_succ, List.setIfInBounds_toArray, List.set_cons_zero, List.set_cons_succ]
         refine wpAnyH_ready (rs := [20]) (by kernel_rfl) (by simp) (AllReadyH.cons (o := _) rfl (fun K hK => ?_) AllReadyH.nil)
         have z48 := H46.out.cell 1 rfl 0 rfl
         have z49 := H46.out.free 1 rfl 0
         have z50 := H46.out.cell 1 rfl 1 rfl
         have z51 := H46.out.free 1 rfl 1
         have H52 := hid (show St B W [.cells D45 #[.int .i64 0, .int .i64 0, .int .i64 0, .int .i64 0] 33, .cells D42 #[.int .i64 e33_0, .int .i64 e33_1] 38, .own (.slice wv30a wl31.length wv30c) wl31, .cells D21 #[.int .i64 1, .int .i64 3, .int .i64 2] 3, .cells D15 #[.int .i64 1, .int .i64 3, .int .i64 2, .int .i64 5, .int .i64 9] 3, .cells D12 #[.int .i64 pw9, .int .i64 ph9, .int .i64 pm9, .slice pv9a ps9.length pv9c] 35, .own (.slice pv9a ps9.length pv9c) ps9, .tape K3, .cells B #[.int .i64 r0, .int .i64 r1, .int .i64 r2, .int .i64 r3] 33] [] ((k47.setCell ⟨D42, 0, none⟩ (.int .i64 e33_0)).setCell ⟨D42, 1, none⟩ (.int .i64 e33_1)) from ((H46.out.set 1 rfl 0 (.int .i64 e33_0)).set 1 rfl 1 (.int .i64 e33_1)))
         go_simp
         refine hK.out _ _ ?_ (fun hHeld2 => ?_)
         focus ((try dsimp only); (exact ⟨H52.out.cell 5 rfl 0 rfl, H52.out.cell 5 rfl 1 rfl, H52.out.cell 5 rfl 2 rfl, H52.out.cell 5 rfl 3 rfl⟩))
         clear hK K hHeld
         try simp only [Act.put, List.getElem_toArray, List.getElem_cons_zero, List.getElem_cons_succ, List.setIfInBounds_toArray, List.set_cons_zero, List.set_cons_succ]
         clear z48 z49 z50 z51
         generalize ((k47.setCell ⟨D42, 0, none⟩ (.int .i64 e33_0)).setCell ⟨D42, 1, none⟩ (.int .i64 e33_1)) = k53 at *
         have hHeld := hHeld2
         clear hHeld2
         refine wpAnyH_take (i := 21) (oi := _) (v := ?_) rfl (by kernel_rfl) (by kernel_rfl) (by kernel_rfl) (fun _ _ _ h => h) (Or.inl ⟨by rfl, ?_⟩) (by assumption) ?_
         rotate_left
         focus (intro wS hSw; (try dsimp only at hSw); go_simp; (try with_reducible rfl))
         try simp only [Act.put, List.getElem_toArray, List.getElem_cons_zero, List.getElem_cons_succ, List.setIfInBounds_toArray, List.set_cons_zero, List.set_cons_succ]
         refine wpAnyH_ready (rs := [22]) (by kernel_rfl) (by simp) (AllReadyH.cons (o := _) rfl (fun K hK => ?_) AllReadyH.nil)
         have z54 := H52.out.cell 0 rfl 0 rfl
         have z55 := H52.out.free 0 rfl 0
         have z56 := H52.out.cell 0 rfl 1 rfl
         have z57 := H52.out.free 0 rfl 1
         have z58 := H52.out.cell 0 rfl 2 rfl
         have z59 := H52.out.free 0 rfl 2
         have z60 := H52.out.cell 0 rfl 3 rfl
         have z61 := H52.out.free 0 rfl 3
         have H62 := hid (show St B W [.cells D45 #[.int .i64 q39_0, .int .i64 q39_1, .int .i64 q39_2, .int .i64 q39_3] 33, .cells D42 #[.int .i64 e33_0, .int .i64 e33_1] 38, .own (.slice wv30a wl31.length wv30c) wl31, .cells D21 #[.int .i64 1, .int .i64 3, .int .i64 2] 3, .cells D15 #[.int .i64 1, .int .i64 3, .int .i64 2, .int .i64 5, .int .i64 9] 3, .cells D12 #[.int .i64 pw9, .int .i64 ph9, .int .i64 pm9, .slice pv9a ps9.length pv9c] 35, .own (.slice pv9a ps9.length pv9c) ps9, .tape K3, .cells B #[.int .i64 r0, .int .i64 r1, .int .i64 r2, .int .i64 r3] 33] [] ((((k53.setCell ⟨D45, 0, none⟩ (.int .i64 q39_0)).setCell ⟨D45, 1, none⟩ (.int .i64 q39_1)).setCell ⟨D45, 2, none⟩ (.int .i64 q39_2)).setCell ⟨D45, 3, none⟩ (.int .i64 q39_3)) from (H52.out.set4 0 rfl (.int .i64 q39_0) (.int .i64 q39_1) (.int .i64 q39_2) (.int .i64 q39_3)))
         go_simp
         refine hK.out _ _ ?_ (fun hHeld2 => ?_)
         focus ((try dsimp only); (exact ⟨H62.out.cell 5 rfl 0 rfl, H62.out.cell 5 rfl 1 rfl, H62.out.cell 5 rfl 2 rfl, H62.out.cell 5 rfl 3 rfl⟩))
         clear hK K hHeld
         try simp only [Act.put, List.getElem_toArray, List.getElem_cons_zero, List.getElem_cons_succ, List.setIfInBounds_toArray, List.set_cons_zero, List.set_cons_succ]
         clear z54 z55 z56 z57 z58 z59 z60 z61
         generalize ((((k53.setCell ⟨D45, 0, none⟩ (.int .i64 q39_0)).setCell ⟨D45, 1, none⟩ (.int .i64 q39_1)).setCell ⟨D45, 2, none⟩ (.int .i64 q39_2)).setCell ⟨D45, 3, none⟩ (.int .i64 q39_3)) = k63 at *
         have hHeld := hHeld2
         clear hHeld2
         refine wpAnyH_done (by kernel_rfl) ?_ _
         try clear hHeld
         go_wp2_with fail
         go_meet
         exact ⟨D42, D45, _, _, _, _, _, _, _, _, _, _, rfl, rfl, rfl, rfl, H62.out.pick [2, 1, 0, 3, 4, 5, 6, 7, 8] rfl (by decide)⟩
        ·obtain ⟨D64, hD64⟩ : ∃ D, w40.heap.size = D := ⟨_, rfl⟩
         have H65 := hid (H41.out.alloc #[.int .i64 0, .int .i64 0, .int .i64 0, .int .i64 0] 33 hD64)
         go_simp
         refine hK.out _ _ ?_ (fun hHeld2 => ?_)
         focus ((try dsimp only); (exact ⟨H65.out.cell 4 rfl 0 rfl, H65.out.cell 4 rfl 1 rfl, H65.out.cell 4 rfl 2 rfl, H65.out.cell 4 rfl 3 rfl⟩))
         clear hK K hHeld
         try simp only [Act.put, List.getElem_toArray, List.getElem_cons_zero, List.getElem_cons_succ, List.setIfInBounds_toArray, List.set_cons_zero, List.set_cons_succ]
         clear hD64
         generalize (w40.alloc (.cells #[.int .i64 0, .int .i64 0, .int .i64 0, .int .i64 0] 33)) = k66 at *
         have hHeld := hHeld2
         clear hHeld2
         refine wpAnyH_ready (rs := [17]) (by kernel_rfl) (by simp) (AllReadyH.cons (o := _) rfl (fun K hK => ?_) AllReadyH.nil)
         obtain ⟨D67, hD67⟩ : ∃ D, k66.heap.size = D := ⟨_, rfl⟩
         have H68 := hid (H65.out.alloc #[.int .i64 0, .int .i64 0] 38 hD67)
         go_simp
         refine hK.out _ _ ?_ (fun hHeld2 => ?_)
         focus ((try dsimp only); (exact ⟨H68.out.cell 5 rfl 0 rfl, H68.out.cell 5 rfl 1 rfl, H68.out.cell 5 rfl 2 rfl, H68.out.cell 5 rfl 3 rfl⟩))
         clear hK K hHeld
         try simp only [Act.put, List.getElem_toArray, List.getElem_cons_zero, List.getElem_cons_succ, List.setIfInBounds_toArray, List.set_cons_zero, List.set_cons_succ]
         clear hD67
         generalize (k66.alloc (.cells #[.int .i64 0, .int .i64 0] 38)) = k69 at *
         have hHeld := hHeld2
         clear hHeld2
         refine wpAnyH_take (i := 19) (oi := _) (v := ?_) rfl (by kernel_rfl) (by kernel_rfl) (by kernel_rfl) (fun _ _ _ h => h) (Or.inl ⟨by rfl, ?_⟩) (by assumption) ?_
         rotate_left
         focus (intro wS hSw; (try dsimp only at hSw); go_simp; (try with_reducible rfl))
         try simp only [Act.put, List.getElem_toArray, List.getElem_cons_zero, List.getElem_cons_succ, List.setIfInBounds_toArray, List.set_cons_zero, List.set_cons_succ]
         refine wpAnyH_ready (rs := [20]) (by kernel_rfl) (by simp) (AllReadyH.cons (o := _) rfl (fun K hK => ?_) AllReadyH.nil)
         have z70 := H68.out.cell 0 rfl 0 rfl
         have z71 := H68.out.free 0 rfl 0
         have z72 := H68.out.cell 0 rfl 1 rfl
         have z73 := H68.out.free 0 rfl 1
         have H74 := hid (show St B W [.cells D67 #[.int .i64 e33_0, .int .i64 e33_1] 38, .cells D64 #[.int .i64 0, .int .i64 0, .int .i64 0, .int .i64 0] 33, .own (.slice wv30a wl31.length wv30c) wl31, .cells D21 #[.int .i64 1, .int .i64 3, .int .i64 2] 3, .cells D15 #[.int .i64 1, .int .i64 3, .int .i64 2, .int .i64 5, .int .i64 9] 3, .cells D12 #[.int .i64 pw9, .int .i64 ph9, .int .i64 pm9, .slice pv9a ps9.length pv9c] 35, .own (.slice pv9a ps9.length pv9c) ps9, .tape K3, .cells B #[.int .i64 r0, .int .i64 r1, .int .i64 r2, .int .i64 r3] 33] [] ((k69.setCell ⟨D67, 0, none⟩ (.int .i64 e33_0)).setCell ⟨D67, 1, none⟩ (.int .i64 e33_1)) from ((H68.out.set 0 rfl 0 (.int .i64 e33_0)).set 0 rfl 1 (.int .i64 e33_1)))
         go_simp
         refine hK.out _ _ ?_ (fun hHeld2 => ?_)
         focus ((try dsimp only); (exact ⟨H74.out.cell 5 rfl 0 rfl, H74.out.cell 5 rfl 1 rfl, H74.out.cell 5 rfl 2 rfl, H74.out.cell 5 rfl 3 rfl⟩))
         clear hK K hHeld
         try simp only [Act.put, List.getElem_toArray, List.getElem_cons_zero, List.getElem_cons_succ, List.setIfInBounds_toArray, List.set_cons_zero, List.set_cons_succ]
         clear z70 z71 z72 z73
         generalize ((k69.setCell ⟨D67, 0, none⟩ (.int .i64 e33_0)).setCell ⟨D67, 1, none⟩ (.int .i64 e33_1)) = k75 at *
         have hHeld := hHeld2
         clear hHeld2
         refine wpAnyH_take (i := 21) (oi := _) (v := ?_) rfl (by kernel_rfl) (by kernel_rfl) (by kernel_rfl) (fun _ _ _ h => h) (Or.inl ⟨by rfl, ?_⟩) (by assumption) ?_
         rotate_left
         focus (intro wS hSw; (try dsimp only at hSw); go_simp; (try with_reducible rfl))
         try simp only [Act.put, List.getElem_toArray, List.getElem_cons_zero, List.getElem_cons_succ, List.setIfInBounds_toArray, List.set_cons_zero, List.set_cons_succ]
         refine wpAnyH_ready (rs := [22]) (by kernel_rfl) (by simp) (AllReadyH.cons (o := _) rfl (fun K hK => ?_) AllReadyH.nil)
         have z76 := H74.out.cell 1 rfl 0 rfl
         have z77 := H74.out.free 1 rfl 0
         have z78 := H74.out.cell 1 rfl 1 rfl
         have z79 := H74.out.free 1 rfl 1
         have z80 := H74.out.cell 1 rfl 2 rfl
         have z81 := H74.out.free 1 rfl 2
         have z82 := H74.out.cell 1 rfl 3 rfl
         have z83 := H74.out.free 1 rfl 3
         have H84 := hid (show St B W [.cells D67 #[.int .i64 e33_0, .int .i64 e33_1] 38, .cells D64 #[.int .i64 q39_0, .int .i64 q39_1, .int .i64 q39_2, .int .i64 q39_3] 33, .own (.slice wv30a wl31.length wv30c) wl31, .cells D21 #[.int .i64 1, .int .i64 3, .int .i64 2] 3, .cells D15 #[.int .i64 1, .int .i64 3, .int .i64 2, .int .i64 5, .int .i64 9] 3, .cells D12 #[.int .i64 pw9, .int .i64 ph9, .int .i64 pm9, .slice pv9a ps9.length pv9c] 35, .own (.slice pv9a ps9.length pv9c) ps9, .tape K3, .cells B #[.int .i64 r0, .int .i64 r1, .int .i64 r2, .int .i64 r3] 33] [] ((((k75.setCell ⟨D64, 0, none⟩ (.int .i64 q39_0)).setCell ⟨D64, 1, none⟩ (.int .i64 q39_1)).setCell ⟨D64, 2, none⟩ (.int .i64 q39_2)).setCell ⟨D64, 3, none⟩ (.int .i64 q39_3)) from (H74.out.set4 1 rfl (.int .i64 q39_0) (.int .i64 q39_1) (.int .i64 q39_2) (.int .i64 q39_3)))
         go_simp
         refine hK.out _ _ ?_ (fun hHeld2 => ?_)
         focus ((try dsimp only); (exact ⟨H84.out.cell 5 rfl 0 rfl, H84.out.cell 5 rfl 1 rfl, H84.out.cell 5 rfl 2 rfl, H84.out.cell 5 rfl 3 rfl⟩))
         clear hK K hHeld
         try simp only [Act.put, List.getElem_toArray, List.getElem_cons_zero, List.getElem_cons_succ, List.setIfInBounds_toArray, List.set_cons_zero, List.set_cons_succ]
         clear z76 z77 z78 z79 z80 z81 z82 z83
         generalize ((((k75.setCell ⟨D64, 0, none⟩ (.int .i64 q39_0)).setCell ⟨D64, 1, none⟩ (.int .i64 q39_1)).setCell ⟨D64, 2, none⟩ (.int .i64 q39_2)).setCell ⟨D64, 3, none⟩ (.int .i64 q39_3)) = k85 at *
         have hHeld := hHeld2
         clear hHeld2
         refine wpAnyH_done (by kernel_rfl) ?_ _
         try clear hHeld
         go_wp2_with fail
         go_meet
         exact ⟨D67, D64, _, _, _, _, _, _, _, _, _, _, rfl, rfl, rfl, rfl, H84.out.pick [2, 0, 1, 3, 4, 5, 6, 7, 8] rfl (by decide)⟩
       ·obtain ⟨D86, hD86⟩ : ∃ D, w37.heap.size = D := ⟨_, rfl⟩
        have H87 := hid (H38.out.alloc #[.int .i64 0, .int .i64 0] 38 hD86)
        go_simp
        refine hK.out _ _ ?_ (fun hHeld2 => ?_)
        focus ((try dsimp only); (exact ⟨H87.out.cell 4 rfl 0 rfl, H87.out.cell 4 rfl 1 rfl, H87.out.cell 4 rfl 2 rfl, H87.out.cell 4 rfl 3 rfl⟩))
        clear hK K hHeld
        try simp only [Act.put, List.getElem_toArray, List.getElem_cons_zero, List.getElem_cons_succ, List.setIfInBounds_toArray, List.set_cons_zero, List.set_cons_succ]
        clear hD86
        generalize (w37.alloc (.cells #[.int .i64 0, .int .i64 0] 38)) = k88 at *
        have hHeld := hHeld2
        clear hHeld2
        refine wpAnyH_ready (rs := [16, 18]) (by kernel_rfl) (by simp) (AllReadyH.cons (o := _) rfl (fun K hK => ?_) (AllReadyH.cons (o := _) rfl (fun K hK => ?_) AllReadyH.nil))
        ·go_simp
         go_at_call 26
         refine (within_any B K3 _ _ _ (by omega) (by omega) (by omega) (by omega) (H87.out.tapeAt 6 rfl)).mono ?_
         rintro e w90 ⟨q89_0, q89_1, q89_2, q89_3, rfl, hq89, ht, hg⟩
         have H91 := hid (H87.out.next 6 rfl ht hg)
         have HWq89 := hid hq89
         clear hq89 ht hg
         refine hK.out _ _ ?_ (fun hHeld2 => ?_)
         focus ((try dsimp only); (exact ⟨H91.out.cell 4 rfl 0 rfl, H91.out.cell 4 rfl 1 rfl, H91.out.cell 4 rfl 2 rfl, H91.out.cell 4 rfl 3 rfl⟩))
         clear hK K
         try simp only [Act.put, List.getElem_toArray, List.getElem_cons_zero, List.getElem_cons_succ, List.setIfInBounds_toArray, List.set_cons_zero, List.set_cons_succ]
         clear hHeld
         have hHeld := hHeld2
         clear hHeld2
         refine wpAnyH_ready (rs := [18]) (by kernel_rfl) (by simp) (AllReadyH.cons (o := _) rfl (fun K hK => ?_) AllReadyH.nil)
         obtain ⟨D92, hD92⟩ : ∃ D, w90.heap.size = D := ⟨_, rfl⟩
         have H93 := hid (H91.out.alloc #[.int .i64 0, .int .i64 0, .int .i64 0, .int .i64 0] 33 hD92)
         go_simp
         refine hK.out _ _ ?_ (fun hHeld2 => ?_)
         focus ((try dsimp only); (exact ⟨H93.out.cell 5 rfl 0 rfl, H93.out.cell 5 rfl 1 rfl, H93.out.cell 5 rfl 2 rfl, H93.out.cell 5 rfl 3 rfl⟩))
         clear hK K hHeld
         try simp only [Act.put, List.getElem_toArray, List.getElem_cons_zero, List.getElem_cons_succ, List.setIfInBounds_toArray, List.set_cons_zero, List.set_cons_succ]
         clear hD92
         generalize (w90.alloc (.cells #[.int .i64 0, .int .i64 0, .int .i64 0, .int .i64 0] 33)) = k94 at *
         have hHeld := hHeld2
         clear hHeld2
         refine wpAnyH_take (i := 19) (oi := _) (v := ?_) rfl (by kernel_rfl) (by kernel_rfl) (by kernel_rfl) (fun _ _ _ h => h) (Or.inl ⟨by rfl, ?_⟩) (by assumption) ?_
         rotate_left
         focus (intro wS hSw; (try dsimp only at hSw); go_simp; (try with_reducible rfl))
         try simp only [Act.put, List.getElem_toArray, List.getElem_cons_zero, List.getElem_cons_succ, List.setIfInBounds_toArray, List.set_cons_zero, List.set_cons_succ]
         refine wpAnyH_ready (rs := [20]) (by kernel_rfl) (by simp) (AllReadyH.cons (o := _) rfl (fun K hK => ?_) AllReadyH.nil)
         have z95 := H93.out.cell 1 rfl 0 rfl
         have z96 := H93.out.free 1 rfl 0
         have z97 := H93.out.cell 1 rfl 1 rfl
         have z98 := H93.out.free 1 rfl 1
         have H99 := hid (show St B W [.cells D92 #[.int .i64 0, .int .i64 0, .int .i64 0, .int .i64 0] 33, .cells D86 #[.int .i64 e33_0, .int .i64 e33_1] 38, .own (.slice wv30a wl31.length wv30c) wl31, .cells D21 #[.int .i64 1, .int .i64 3, .int .i64 2] 3, .cells D15 #[.int .i64 1, .int .i64 3, .int .i64 2, .int .i64 5, .int .i64 9] 3, .cells D12 #[.int .i64 pw9, .int .i64 ph9, .int .i64 pm9, .slice pv9a ps9.length pv9c] 35, .own (.slice pv9a ps9.length pv9c) ps9, .tape K3, .cells B #[.int .i64 r0, .int .i64 r1, .int .i64 r2, .int .i64 r3] 33] [] ((k94.setCell ⟨D86, 0, none⟩ (.int .i64 e33_0)).setCell ⟨D86, 1, none⟩ (.int .i64 e33_1)) from ((H93.out.set 1 rfl 0 (.int .i64 e33_0)).set 1 rfl 1 (.int .i64 e33_1)))
         go_simp
         refine hK.out _ _ ?_ (fun hHeld2 => ?_)
         focus ((try dsimp only); (exact ⟨H99.out.cell 5 rfl 0 rfl, H99.out.cell 5 rfl 1 rfl, H99.out.cell 5 rfl 2 rfl, H99.out.cell 5 rfl 3 rfl⟩))
         clear hK K hHeld
         try simp only [Act.put, List.getElem_toArray, List.getElem_cons_zero, List.getElem_cons_succ, List.setIfInBounds_toArray, List.set_cons_zero, List.set_cons_succ]
         clear z95 z96 z97 z98
         generalize ((k94.setCell ⟨D86, 0, none⟩ (.int .i64 e33_0)).setCell ⟨D86, 1, none⟩ (.int .i64 e33_1)) = k100 at *
         have hHeld := hHeld2
         clear hHeld2
         refine wpAnyH_take (i := 21) (oi := _) (v := ?_) rfl (by kernel_rfl) (by kernel_rfl) (by kernel_rfl) (fun _ _ _ h => h) (Or.inl ⟨by rfl, ?_⟩) (by assumption) ?_
         rotate_left
         focus (intro wS hSw; (try dsimp only at hSw); go_simp; (try with_reducible rfl))
         try simp only [Act.put, List.getElem_toArray, List.getElem_cons_zero, List.getElem_cons_succ, List.setIfInBounds_toArray, List.set_cons_zero, List.set_cons_succ]
         refine wpAnyH_ready (rs := [22]) (by kernel_rfl) (by simp) (AllReadyH.cons (o := _) rfl (fun K hK => ?_) AllReadyH.nil)
         have z101 := H99.out.cell 0 rfl 0 rfl
         have z102 := H99.out.free 0 rfl 0
         have z103 := H99.out.cell 0 rfl 1 rfl
         have z104 := H99.out.free 0 rfl 1
         have z105 := H99.out.cell 0 rfl 2 rfl
         have z106 := H99.out.free 0 rfl 2
         have z107 := H99.out.cell 0 rfl 3 rfl
         have z108 := H99.out.free 0 rfl 3
         have H109 := hid (show St B W [.cells D92 #[.int .i64 q89_0, .int .i64 q89_1, .int .i64 q89_2, .int .i64 q89_3] 33, .cells D86 #[.int .i64 e33_0, .int .i64 e33_1] 38, .own (.slice wv30a wl31.length wv30c) wl31, .cells D21 #[.int .i64 1, .int .i64 3, .int .i64 2] 3, .cells D15 #[.int .i64 1, .int .i64 3, .int .i64 2, .int .i64 5, .int .i64 9] 3, .cells D12 #[.int .i64 pw9, .int .i64 ph9, .int .i64 pm9, .slice pv9a ps9.length pv9c] 35, .own (.slice pv9a ps9.length pv9c) ps9, .tape K3, .cells B #[.int .i64 r0, .int .i64 r1, .int .i64 r2, .int .i64 r3] 33] [] ((((k100.setCell ⟨D92, 0, none⟩ (.int .i64 q89_0)).setCell ⟨D92, 1, none⟩ (.int .i64 q89_1)).setCell ⟨D92, 2, none⟩ (.int .i64 q89_2)).setCell ⟨D92, 3, none⟩ (.int .i64 q89_3)) from (H99.out.set4 0 rfl (.int .i64 q89_0) (.int .i64 q89_1) (.int .i64 q89_2) (.int .i64 q89_3)))
         go_simp
         refine hK.out _ _ ?_ (fun hHeld2 => ?_)
         focus ((try dsimp only); (exact ⟨H109.out.cell 5 rfl 0 rfl, H109.out.cell 5 rfl 1 rfl, H109.out.cell 5 rfl 2 rfl, H109.out.cell 5 rfl 3 rfl⟩))
         clear hK K hHeld
         try simp only [Act.put, List.getElem_toArray, List.getElem_cons_zero, List.getElem_cons_succ, List.setIfInBounds_toArray, List.set_cons_zero, List.set_cons_succ]
         clear z101 z102 z103 z104 z105 z106 z107 z108
         generalize ((((k100.setCell ⟨D92, 0, none⟩ (.int .i64 q89_0)).setCell ⟨D92, 1, none⟩ (.int .i64 q89_1)).setCell ⟨D92, 2, none⟩ (.int .i64 q89_2)).setCell ⟨D92, 3, none⟩ (.int .i64 q89_3)) = k110 at *
         have hHeld := hHeld2
         clear hHeld2
         refine wpAnyH_done (by kernel_rfl) ?_ _
         try clear hHeld
         go_wp2_with fail
         go_meet
         exact ⟨D86, D92, _, _, _, _, _, _, _, _, _, _, rfl, rfl, rfl, rfl, H109.out.pick [2, 1, 0, 3, 4, 5, 6, 7, 8] rfl (by decide)⟩
        ·obtain ⟨D111, hD111⟩ : ∃ D, k88.heap.size = D := ⟨_, rfl⟩
         have H112 := hid (H87.out.alloc #[.int .i64 0, .int .i64 0, .int .i64 0, .int .i64 0] 33 hD111)
         go_simp
         refine hK.out _ _ ?_ (fun hHeld2 => ?_)
         focus ((try dsimp only); (exact ⟨H112.out.cell 5 rfl 0 rfl, H112.out.cell 5 rfl 1 rfl, H112.out.cell 5 rfl 2 rfl, H112.out.cell 5 rfl 3 rfl⟩))
         clear hK K hHeld
         try simp only [Act.put, List.getElem_toArray, List.getElem_cons_zero, List.getElem_cons_succ, List.setIfInBounds_toArray, List.set_cons_zero, List.set_cons_succ]
         clear hD111
         generalize (k88.alloc (.cells #[.int .i64 0, .int .i64 0, .int .i64 0, .int .i64 0] 33)) = k113 at *
         have hHeld := hHeld2
         clear hHeld2
         refine wpAnyH_ready (rs := [16]) (by kernel_rfl) (by simp) (AllReadyH.cons (o := _) rfl (fun K hK => ?_) AllReadyH.nil)
         go_simp
         go_at_call 26
         refine (within_any B K3 _ _ _ (by omega) (by omega) (by omega) (by omega) (H112.out.tapeAt 7 rfl)).mono ?_
         rintro e w115 ⟨q114_0, q114_1, q114_2, q114_3, rfl, hq114, ht, hg⟩
         have H116 := hid (H112.out.next 7 rfl ht hg)
         have HWq114 := hid hq114
         clear hq114 ht hg
         refine hK.out _ _ ?_ (fun hHeld2 => ?_)
         focus ((try dsimp only); (exact ⟨H116.out.cell 5 rfl 0 rfl, H116.out.cell 5 rfl 1 rfl, H116.out.cell 5 rfl 2 rfl, H116.out.cell 5 rfl 3 rfl⟩))
         clear hK K
         try simp only [Act.put, List.getElem_toArray, List.getElem_cons_zero, List.getElem_cons_succ, List.setIfInBounds_toArray, List.set_cons_zero, List.set_cons_succ]
         clear hHeld
         have hHeld := hHeld2
         clear hHeld2
         refine wpAnyH_take (i := 19) (oi := _) (v := ?_) rfl (by kernel_rfl) (by kernel_rfl) (by kernel_rfl) (fun _ _ _ h => h) (Or.inl ⟨by rfl, ?_⟩) (by assumption) ?_
         rotate_left
         focus (intro wS hSw; (try dsimp only at hSw); go_simp; (try with_reducible rfl))
         try simp only [Act.put, List.getElem_toArray, List.getElem_cons_zero, List.getElem_cons_succ, List.setIfInBounds_toArray, List.set_cons_zero, List.set_cons_succ]
         refine wpAnyH_ready (rs := [20]) (by kernel_rfl) (by simp) (AllReadyH.cons (o := _) rfl (fun K hK => ?_) AllReadyH.nil)
         have z117 := H116.out.cell 1 rfl 0 rfl
         have z118 := H116.out.free 1 rfl 0
         have z119 := H116.out.cell 1 rfl 1 rfl
         have z120 := H116.out.free 1 rfl 1
         have H121 := hid (show St B W [.cells D111 #[.int .i64 0, .int .i64 0, .int .i64 0, .int .i64 0] 33, .cells D86 #[.int .i64 e33_0, .int .i64 e33_1] 38, .own (.slice wv30a wl31.length wv30c) wl31, .cells D21 #[.int .i64 1, .int .i64 3, .int .i64 2] 3, .cells D15 #[.int .i64 1, .int .i64 3, .int .i64 2, .int .i64 5, .int .i64 9] 3, .cells D12 #[.int .i64 pw9, .int .i64 ph9, .int .i64 pm9, .slice pv9a ps9.length pv9c] 35, .own (.slice pv9a ps9.length pv9c) ps9, .tape K3, .cells B #[.int .i64 r0, .int .i64 r1, .int .i64 r2, .int .i64 r3] 33] [] ((w115.setCell ⟨D86, 0, none⟩ (.int .i64 e33_0)).setCell ⟨D86, 1, none⟩ (.int .i64 e33_1)) from ((H116.out.set 1 rfl 0 (.int .i64 e33_0)).set 1 rfl 1 (.int .i64 e33_1)))
         go_simp
         refine hK.out _ _ ?_ (fun hHeld2 => ?_)
         focus ((try dsimp only); (exact ⟨H121.out.cell 5 rfl 0 rfl, H121.out.cell 5 rfl 1 rfl, H121.out.cell 5 rfl 2 rfl, H121.out.cell 5 rfl 3 rfl⟩))
         clear hK K hHeld
         try simp only [Act.put, List.getElem_toArray, List.getElem_cons_zero, List.getElem_cons_succ, List.setIfInBounds_toArray, List.set_cons_zero, List.set_cons_succ]
         clear z117 z118 z119 z120
         generalize ((w115.setCell ⟨D86, 0, none⟩ (.int .i64 e33_0)).setCell ⟨D86, 1, none⟩ (.int .i64 e33_1)) = k122 at *
         have hHeld := hHeld2
         clear hHeld2
         refine wpAnyH_take (i := 21) (oi := _) (v := ?_) rfl (by kernel_rfl) (by kernel_rfl) (by kernel_rfl) (fun _ _ _ h => h) (Or.inl ⟨by rfl, ?_⟩) (by assumption) ?_
         rotate_left
         focus (intro wS hSw; (try dsimp only at hSw); go_simp; (try with_reducible rfl))
         try simp only [Act.put, List.getElem_toArray, List.getElem_cons_zero, List.getElem_cons_succ, List.setIfInBounds_toArray, List.set_cons_zero, List.set_cons_succ]
         refine wpAnyH_ready (rs := [22]) (by kernel_rfl) (by simp) (AllReadyH.cons (o := _) rfl (fun K hK => ?_) AllReadyH.nil)
         have z123 := H121.out.cell 0 rfl 0 rfl
         have z124 := H121.out.free 0 rfl 0
         have z125 := H121.out.cell 0 rfl 1 rfl
         have z126 := H121.out.free 0 rfl 1
         have z127 := H121.out.cell 0 rfl 2 rfl
         have z128 := H121.out.free 0 rfl 2
         have z129 := H121.out.cell 0 rfl 3 rfl
         have z130 := H121.out.free 0 rfl 3
         have H131 := hid (show St B W [.cells D111 #[.int .i64 q114_0, .int .i64 q114_1, .int .i64 q114_2, .int .i64 q114_3] 33, .cells D86 #[.int .i64 e33_0, .int .i64 e33_1] 38, .own (.slice wv30a wl31.length wv30c) wl31, .cells D21 #[.int .i64 1, .int .i64 3, .int .i64 2] 3, .cells D15 #[.int .i64 1, .int .i64 3, .int .i64 2, .int .i64 5, .int .i64 9] 3, .cells D12 #[.int .i64 pw9, .int .i64 ph9, .int .i64 pm9, .slice pv9a ps9.length pv9c] 35, .own (.slice pv9a ps9.length pv9c) ps9, .tape K3, .cells B #[.int .i64 r0, .int .i64 r1, .int .i64 r2, .int .i64 r3] 33] [] ((((k122.setCell ⟨D111, 0, none⟩ (.int .i64 q114_0)).setCell ⟨D111, 1, none⟩ (.int .i64 q114_1)).setCell ⟨D111, 2, none⟩ (.int .i64 q114_2)).setCell ⟨D111, 3, none⟩ (.int .i64 q114_3)) from (H121.out.set4 0 rfl (.int .i64 q114_0) (.int .i64 q114_1) (.int .i64 q114_2) (.int .i64 q114_3)))
         go_simp
         refine hK.out _ _ ?_ (fun hHeld2 => ?_)
         focus ((try dsimp only); (exact ⟨H131.out.cell 5 rfl 0 rfl, H131.out.cell 5 rfl 1 rfl, H131.out.cell 5 rfl 2 rfl, H131.out.cell 5 rfl 3 rfl⟩))
         clear hK K hHeld
         try simp only [Act.put, List.getElem_toArray, List.getElem_cons_zero, List.getElem_cons_succ, List.setIfInBounds_toArray, List.set_cons_zero, List.set_cons_succ]
         clear z123 z124 z125 z126 z127 z128 z129 z130
         generalize ((((k122.setCell ⟨D111, 0, none⟩ (.int .i64 q114_0)).setCell ⟨D111, 1, none⟩ (.int .i64 q114_1)).setCell ⟨D111, 2, none⟩ (.int .i64 q114_2)).setCell ⟨D111, 3, none⟩ (.int .i64 q114_3)) = k132 at *
         have hHeld := hHeld2
         clear hHeld2
         refine wpAnyH_done (by kernel_rfl) ?_ _
         try clear hHeld
         go_wp2_with fail
         go_meet
         exact ⟨D86, D111, _, _, _, _, _, _, _, _, _, _, rfl, rfl, rfl, rfl, H131.out.pick [2, 1, 0, 3, 4, 5, 6, 7, 8] rfl (by decide)⟩
       ·obtain ⟨D133, hD133⟩ : ∃ D, w37.heap.size = D := ⟨_, rfl⟩
        have H134 := hid (H38.out.alloc #[.int .i64 0, .int .i64 0, .int .i64 0, .int .i64 0] 33 hD133)
        go_simp
        refine hK.out _ _ ?_ (fun hHeld2 => ?_)
        focus ((try dsimp only); (exact ⟨H134.out.cell 4 rfl 0 rfl, H134.out.cell 4 rfl 1 rfl, H134.out.cell 4 rfl 2 rfl, H134.out.cell 4 rfl 3 rfl⟩))
        clear hK K hHeld
        try simp only [Act.put, List.getElem_toArray, List.getElem_cons_zero, List.getElem_cons_succ, List.setIfInBounds_toArray, List.set_cons_zero, List.set_cons_succ]
        clear hD133
        generalize (w37.alloc (.cells #[.int .i64 0, .int .i64 0, .int .i64 0, .int .i64 0] 33)) = k135 at *
        have hHeld := hHeld2
        clear hHeld2
        refine wpAnyH_ready (rs := [16, 17]) (by kernel_rfl) (by simp) (AllReadyH.cons (o := _) rfl (fun K hK => ?_) (AllReadyH.cons (o := _) rfl (fun K hK => ?_) AllReadyH.nil))
        ·go_simp
         go_at_call 26
         refine (within_any B K3 _ _ _ (by omega) (by omega) (by omega) (by omega) (H134.out.tapeAt 6 rfl)).mono ?_
         rintro e w137 ⟨q136_0, q136_1, q136_2, q136_3, rfl, hq136, ht, hg⟩
         have H138 := hid (H134.out.next 6 rfl ht hg)
         have HWq136 := hid hq136
         clear hq136 ht hg
         refine hK.out _ _ ?_ (fun hHeld2 => ?_)
         focus ((try dsimp only); (exact ⟨H138.out.cell 4 rfl 0 rfl, H138.out.cell 4 rfl 1 rfl, H138.out.cell 4 rfl 2 rfl, H138.out.cell 4 rfl 3 rfl⟩))
         clear hK K
         try simp only [Act.put, List.getElem_toArray, List.getElem_cons_zero, List.getElem_cons_succ, List.setIfInBounds_toArray, List.set_cons_zero, List.set_cons_succ]
         clear hHeld
         have hHeld := hHeld2
         clear hHeld2
         refine wpAnyH_ready (rs := [17]) (by kernel_rfl) (by simp) (AllReadyH.cons (o := _) rfl (fun K hK => ?_) AllReadyH.nil)
         obtain ⟨D139, hD139⟩ : ∃ D, w137.heap.size = D := ⟨_, rfl⟩
         have H140 := hid (H138.out.alloc #[.int .i64 0, .int .i64 0] 38 hD139)
         go_simp
         refine hK.out _ _ ?_ (fun hHeld2 => ?_)
         focus ((try dsimp only); (exact ⟨H140.out.cell 5 rfl 0 rfl, H140.out.cell 5 rfl 1 rfl, H140.out.cell 5 rfl 2 rfl, H140.out.cell 5 rfl 3 rfl⟩))
         clear hK K hHeld
         try simp only [Act.put, List.getElem_toArray, List.getElem_cons_zero, List.getElem_cons_succ, List.setIfInBounds_toArray, List.set_cons_zero, List.set_cons_succ]
         clear hD139
         generalize (w137.alloc (.cells #[.int .i64 0, .int .i64 0] 38)) = k141 at *
         have hHeld := hHeld2
         clear hHeld2
         refine wpAnyH_take (i := 19) (oi := _) (v := ?_) rfl (by kernel_rfl) (by kernel_rfl) (by kernel_rfl) (fun _ _ _ h => h) (Or.inl ⟨by rfl, ?_⟩) (by assumption) ?_
         rotate_left
         focus (intro wS hSw; (try dsimp only at hSw); go_simp; (try with_reducible rfl))
         try simp only [Act.put, List.getElem_toArray, List.getElem_cons_zero, List.getElem_cons_succ, List.setIfInBounds_toArray, List.set_cons_zero, List.set_cons_succ]
         refine wpAnyH_ready (rs := [20]) (by kernel_rfl) (by simp) (AllReadyH.cons (o := _) rfl (fun K hK => ?_) AllReadyH.nil)
         have z142 := H140.out.cell 0 rfl 0 rfl
         have z143 := H140.out.free 0 rfl 0
         have z144 := H140.out.cell 0 rfl 1 rfl
         have z145 := H140.out.free 0 rfl 1
         have H146 := hid (show St B W [.cells D139 #[.int .i64 e33_0, .int .i64 e33_1] 38, .cells D133 #[.int .i64 0, .int .i64 0, .int .i64 0, .int .i64 0] 33, .own (.slice wv30a wl31.length wv30c) wl31, .cells D21 #[.int .i64 1, .int .i64 3, .int .i64 2] 3, .cells D15 #[.int .i64 1, .int .i64 3, .int .i64 2, .int .i64 5, .int .i64 9] 3, .cells D12 #[.int .i64 pw9, .int .i64 ph9, .int .i64 pm9, .slice pv9a ps9.length pv9c] 35, .own (.slice pv9a ps9.length pv9c) ps9, .tape K3, .cells B #[.int .i64 r0, .int .i64 r1, .int .i64 r2, .int .i64 r3] 33] [] ((k141.setCell ⟨D139, 0, none⟩ (.int .i64 e33_0)).setCell ⟨D139, 1, none⟩ (.int .i64 e33_1)) from ((H140.out.set 0 rfl 0 (.int .i64 e33_0)).set 0 rfl 1 (.int .i64 e33_1)))
         go_simp
         refine hK.out _ _ ?_ (fun hHeld2 => ?_)
         focus ((try dsimp only); (exact ⟨H146.out.cell 5 rfl 0 rfl, H146.out.cell 5 rfl 1 rfl, H146.out.cell 5 rfl 2 rfl, H146.out.cell 5 rfl 3 rfl⟩))
         clear hK K hHeld
         try simp only [Act.put, List.getElem_toArray, List.getElem_cons_zero, List.getElem_cons_succ, List.setIfInBounds_toArray, List.set_cons_zero, List.set_cons_succ]
         clear z142 z143 z144 z145
         generalize ((k141.setCell ⟨D139, 0, none⟩ (.int .i64 e33_0)).setCell ⟨D139, 1, none⟩ (.int .i64 e33_1)) = k147 at *
         have hHeld := hHeld2
         clear hHeld2
         refine wpAnyH_take (i := 21) (oi := _) (v := ?_) rfl (by kernel_rfl) (by kernel_rfl) (by kernel_rfl) (fun _ _ _ h => h) (Or.inl ⟨by rfl, ?_⟩) (by assumption) ?_
         rotate_left
         focus (intro wS hSw; (try dsimp only at hSw); go_simp; (try with_reducible rfl))
         try simp only [Act.put, List.getElem_toArray, List.getElem_cons_zero, List.getElem_cons_succ, List.setIfInBounds_toArray, List.set_cons_zero, List.set_cons_succ]
         refine wpAnyH_ready (rs := [22]) (by kernel_rfl) (by simp) (AllReadyH.cons (o := _) rfl (fun K hK => ?_) AllReadyH.nil)
         have z148 := H146.out.cell 1 rfl 0 rfl
         have z149 := H146.out.free 1 rfl 0
         have z150 := H146.out.cell 1 rfl 1 rfl
         have z151 := H146.out.free 1 rfl 1
         have z152 := H146.out.cell 1 rfl 2 rfl
         have z153 := H146.out.free 1 rfl 2
         have z154 := H146.out.cell 1 rfl 3 rfl
         have z155 := H146.out.free 1 rfl 3
         have H156 := hid (show St B W [.cells D139 #[.int .i64 e33_0, .int .i64 e33_1] 38, .cells D133 #[.int .i64 q136_0, .int .i64 q136_1, .int .i64 q136_2, .int .i64 q136_3] 33, .own (.slice wv30a wl31.length wv30c) wl31, .cells D21 #[.int .i64 1, .int .i64 3, .int .i64 2] 3, .cells D15 #[.int .i64 1, .int .i64 3, .int .i64 2, .int .i64 5, .int .i64 9] 3, .cells D12 #[.int .i64 pw9, .int .i64 ph9, .int .i64 pm9, .slice pv9a ps9.length pv9c] 35, .own (.slice pv9a ps9.length pv9c) ps9, .tape K3, .cells B #[.int .i64 r0, .int .i64 r1, .int .i64 r2, .int .i64 r3] 33] [] ((((k147.setCell ⟨D133, 0, none⟩ (.int .i64 q136_0)).setCell ⟨D133, 1, none⟩ (.int .i64 q136_1)).setCell ⟨D133, 2, none⟩ (.int .i64 q136_2)).setCell ⟨D133, 3, none⟩ (.int .i64 q136_3)) from (H146.out.set4 1 rfl (.int .i64 q136_0) (.int .i64 q136_1) (.int .i64 q136_2) (.int .i64 q136_3)))
         go_simp
         refine hK.out _ _ ?_ (fun hHeld2 => ?_)
         focus ((try dsimp only); (exact ⟨H156.out.cell 5 rfl 0 rfl, H156.out.cell 5 rfl 1 rfl, H156.out.cell 5 rfl 2 rfl, H156.out.cell 5 rfl 3 rfl⟩))
         clear hK K hHeld
         try simp only [Act.put, List.getElem_toArray, List.getElem_cons_zero, List.getElem_cons_succ, List.setIfInBounds_toArray, List.set_cons_zero, List.set_cons_succ]
         clear z148 z149 z150 z151 z152 z153 z154 z155
         generalize ((((k147.setCell ⟨D133, 0, none⟩ (.int .i64 q136_0)).setCell ⟨D133, 1, none⟩ (.int .i64 q136_1)).setCell ⟨D133, 2, none⟩ (.int .i64 q136_2)).setCell ⟨D133, 3, none⟩ (.int .i64 q136_3)) = k157 at *
         have hHeld := hHeld2
         clear hHeld2
         refine wpAnyH_done (by kernel_rfl) ?_ _
         try clear hHeld
         go_wp2_with fail
         go_meet
         exact ⟨D139, D133, _, _, _, _, _, _, _, _, _, _, rfl, rfl, rfl, rfl, H156.out.pick [2, 0, 1, 3, 4, 5, 6, 7, 8] rfl (by decide)⟩
        ·obtain ⟨D158, hD158⟩ : ∃ D, k135.heap.size = D := ⟨_, rfl⟩
         have H159 := hid (H134.out.alloc #[.int .i64 0, .int .i64 0] 38 hD158)
         go_simp
         refine hK.out _ _ ?_ (fun hHeld2 => ?_)
         focus ((try dsimp only); (exact ⟨H159.out.cell 5 rfl 0 rfl, H159.out.cell 5 rfl 1 rfl, H159.out.cell 5 rfl 2 rfl, H159.out.cell 5 rfl 3 rfl⟩))
         clear hK K hHeld
         try simp only [Act.put, List.getElem_toArray, List.getElem_cons_zero, List.getElem_cons_succ, List.setIfInBounds_toArray, List.set_cons_zero, List.set_cons_succ]
         clear hD158
         generalize (k135.alloc (.cells #[.int .i64 0, .int .i64 0] 38)) = k160 at *
         have hHeld := hHeld2
         clear hHeld2
         refine wpAnyH_ready (rs := [16]) (by kernel_rfl) (by simp) (AllReadyH.cons (o := _) rfl (fun K hK => ?_) AllReadyH.nil)
         go_simp
         go_at_call 26
         refine (within_any B K3 _ _ _ (by omega) (by omega) (by omega) (by omega) (H159.out.tapeAt 7 rfl)).mono ?_
         rintro e w162 ⟨q161_0, q161_1, q161_2, q161_3, rfl, hq161, ht, hg⟩
         have H163 := hid (H159.out.next 7 rfl ht hg)
         have HWq161 := hid hq161
         clear hq161 ht hg
         refine hK.out _ _ ?_ (fun hHeld2 => ?_)
         focus ((try dsimp only); (exact ⟨H163.out.cell 5 rfl 0 rfl, H163.out.cell 5 rfl 1 rfl, H163.out.cell 5 rfl 2 rfl, H163.out.cell 5 rfl 3 rfl⟩))
         clear hK K
         try simp only [Act.put, List.getElem_toArray, List.getElem_cons_zero, List.getElem_cons_succ, List.setIfInBounds_toArray, List.set_cons_zero, List.set_cons_succ]
         clear hHeld
         have hHeld := hHeld2
         clear hHeld2
         refine wpAnyH_take (i := 19) (oi := _) (v := ?_) rfl (by kernel_rfl) (by kernel_rfl) (by kernel_rfl) (fun _ _ _ h => h) (Or.inl ⟨by rfl, ?_⟩) (by assumption) ?_
         rotate_left
         focus (intro wS hSw; (try dsimp only at hSw); go_simp; (try with_reducible rfl))
         try simp only [Act.put, List.getElem_toArray, List.getElem_cons_zero, List.getElem_cons_succ, List.setIfInBounds_toArray, List.set_cons_zero, List.set_cons_succ]
         refine wpAnyH_ready (rs := [20]) (by kernel_rfl) (by simp) (AllReadyH.cons (o := _) rfl (fun K hK => ?_) AllReadyH.nil)
         have z164 := H163.out.cell 0 rfl 0 rfl
         have z165 := H163.out.free 0 rfl 0
         have z166 := H163.out.cell 0 rfl 1 rfl
         have z167 := H163.out.free 0 rfl 1
         have H168 := hid (show St B W [.cells D158 #[.int .i64 e33_0, .int .i64 e33_1] 38, .cells D133 #[.int .i64 0, .int .i64 0, .int .i64 0, .int .i64 0] 33, .own (.slice wv30a wl31.length wv30c) wl31, .cells D21 #[.int .i64 1, .int .i64 3, .int .i64 2] 3, .cells D15 #[.int .i64 1, .int .i64 3, .int .i64 2, .int .i64 5, .int .i64 9] 3, .cells D12 #[.int .i64 pw9, .int .i64 ph9, .int .i64 pm9, .slice pv9a ps9.length pv9c] 35, .own (.slice pv9a ps9.length pv9c) ps9, .tape K3, .cells B #[.int .i64 r0, .int .i64 r1, .int .i64 r2, .int .i64 r3] 33] [] ((w162.setCell ⟨D158, 0, none⟩ (.int .i64 e33_0)).setCell ⟨D158, 1, none⟩ (.int .i64 e33_1)) from ((H163.out.set 0 rfl 0 (.int .i64 e33_0)).set 0 rfl 1 (.int .i64 e33_1)))
         go_simp
         refine hK.out _ _ ?_ (fun hHeld2 => ?_)
         focus ((try dsimp only); (exact ⟨H168.out.cell 5 rfl 0 rfl, H168.out.cell 5 rfl 1 rfl, H168.out.cell 5 rfl 2 rfl, H168.out.cell 5 rfl 3 rfl⟩))
         clear hK K hHeld
         try simp only [Act.put, List.getElem_toArray, List.getElem_cons_zero, List.getElem_cons_succ, List.setIfInBounds_toArray, List.set_cons_zero, List.set_cons_succ]
         clear z164 z165 z166 z167
         generalize ((w162.setCell ⟨D158, 0, none⟩ (.int .i64 e33_0)).setCell ⟨D158, 1, none⟩ (.int .i64 e33_1)) = k169 at *
         have hHeld := hHeld2
         clear hHeld2
         refine wpAnyH_take (i := 21) (oi := _) (v := ?_) rfl (by kernel_rfl) (by kernel_rfl) (by kernel_rfl) (fun _ _ _ h => h) (Or.inl ⟨by rfl, ?_⟩) (by assumption) ?_
         rotate_left
         focus (intro wS hSw; (try dsimp only at hSw); go_simp; (try with_reducible rfl))
         try simp only [Act.put, List.getElem_toArray, List.getElem_cons_zero, List.getElem_cons_succ, List.setIfInBounds_toArray, List.set_cons_zero, List.set_cons_succ]
         refine wpAnyH_ready (rs := [22]) (by kernel_rfl) (by simp) (AllReadyH.cons (o := _) rfl (fun K hK => ?_) AllReadyH.nil)
         have z170 := H168.out.cell 1 rfl 0 rfl
         have z171 := H168.out.free 1 rfl 0
         have z172 := H168.out.cell 1 rfl 1 rfl
         have z173 := H168.out.free 1 rfl 1
         have z174 := H168.out.cell 1 rfl 2 rfl
         have z175 := H168.out.free 1 rfl 2
         have z176 := H168.out.cell 1 rfl 3 rfl
         have z177 := H168.out.free 1 rfl 3
         have H178 := hid (show St B W [.cells D158 #[.int .i64 e33_0, .int .i64 e33_1] 38, .cells D133 #[.int .i64 q161_0, .int .i64 q161_1, .int .i64 q161_2, .int .i64 q161_3] 33, .own (.slice wv30a wl31.length wv30c) wl31, .cells D21 #[.int .i64 1, .int .i64 3, .int .i64 2] 3, .cells D15 #[.int .i64 1, .int .i64 3, .int .i64 2, .int .i64 5, .int .i64 9] 3, .cells D12 #[.int .i64 pw9, .int .i64 ph9, .int .i64 pm9, .slice pv9a ps9.length pv9c] 35, .own (.slice pv9a ps9.length pv9c) ps9, .tape K3, .cells B #[.int .i64 r0, .int .i64 r1, .int .i64 r2, .int .i64 r3] 33] [] ((((k169.setCell ⟨D133, 0, none⟩ (.int .i64 q161_0)).setCell ⟨D133, 1, none⟩ (.int .i64 q161_1)).setCell ⟨D133, 2, none⟩ (.int .i64 q161_2)).setCell ⟨D133, 3, none⟩ (.int .i64 q161_3)) from (H168.out.set4 1 rfl (.int .i64 q161_0) (.int .i64 q161_1) (.int .i64 q161_2) (.int .i64 q161_3)))
         go_simp
         refine hK.out _ _ ?_ (fun hHeld2 => ?_)
         focus ((try dsimp only); (exact ⟨H178.out.cell 5 rfl 0 rfl, H178.out.cell 5 rfl 1 rfl, H178.out.cell 5 rfl 2 rfl, H178.out.cell 5 rfl 3 rfl⟩))
         clear hK K hHeld
         try simp only [Act.put, List.getElem_toArray, List.getElem_cons_zero, List.getElem_cons_succ, List.setIfInBounds_toArray, List.set_cons_zero, List.set_cons_succ]
         clear z170 z171 z172 z173 z174 z175 z176 z177
         generalize ((((k169.setCell ⟨D133, 0, none⟩ (.int .i64 q161_0)).setCell ⟨D133, 1, none⟩ (.int .i64 q161_1)).setCell ⟨D133, 2, none⟩ (.int .i64 q161_2)).setCell ⟨D133, 3, none⟩ (.int .i64 q161_3)) = k179 at *
         have hHeld := hHeld2
         clear hHeld2
         refine wpAnyH_done (by kernel_rfl) ?_ _
         try clear hHeld
         go_wp2_with fail
         go_meet
         exact ⟨D158, D133, _, _, _, _, _, _, _, _, _, _, rfl, rfl, rfl, rfl, H178.out.pick [2, 0, 1, 3, 4, 5, 6, 7, 8] rfl (by decide)⟩
      ·obtain ⟨D180, hD180⟩ : ∃ D, w34.heap.size = D := ⟨_, rfl⟩
       have H181 := hid (H35.out.alloc #[.int .i64 0, .int .i64 0] 38 hD180)
       go_simp
       refine hK.out _ _ ?_ (fun hHeld2 => ?_)
       focus ((try dsimp only); (exact ⟨H181.out.cell 4 rfl 0 rfl, H181.out.cell 4 rfl 1 rfl, H181.out.cell 4 rfl 2 rfl, H181.out.cell 4 rfl 3 rfl⟩))
       clear hK K hHeld
       try simp only [Act.put, List.getElem_toArray, List.getElem_cons_zero, List.getElem_cons_succ, List.setIfInBounds_toArray, List.set_cons_zero, List.set_cons_succ]
       clear hD180
       generalize (w34.alloc (.cells #[.int .i64 0, .int .i64 0] 38)) = k182 at *
       have hHeld := hHeld2
       clear hHeld2
       refine wpAnyH_ready (rs := [10, 18]) (by kernel_rfl) (by simp) (AllReadyH.cons (o := _) rfl (fun K hK => ?_) (AllReadyH.cons (o := _) rfl (fun K hK => ?_) AllReadyH.nil))
       ·go_simp
        go_at_call 18
        refine (nextB_any B K3 _ _ (by omega) (H181.out.tapeAt 6 rfl)).mono ?_
        rintro e w184 ⟨x183, rfl, x183a, x183b, htn, hgn, hsn⟩
        have H185 := hid (H181.out.next 6 rfl htn hgn)
        clear htn hgn hsn
        refine hK.out _ _ ?_ (fun hHeld2 => ?_)
        focus ((try dsimp only); (exact ⟨H185.out.cell 4 rfl 0 rfl, H185.out.cell 4 rfl 1 rfl, H185.out.cell 4 rfl 2 rfl, H185.out.cell 4 rfl 3 rfl⟩))
        clear hK K
        try simp only [Act.put, List.getElem_toArray, List.getElem_cons_zero, List.getElem_cons_succ, List.setIfInBounds_toArray, List.set_cons_zero, List.set_cons_succ]
        clear hHeld
        have hHeld := hHeld2
        clear hHeld2
        refine wpAnyH_ready (rs := [16, 18]) (by kernel_rfl) (by simp) (AllReadyH.cons (o := _) rfl (fun K hK => ?_) (AllReadyH.cons (o := _) rfl (fun K hK => ?_) AllReadyH.nil))
        ·go_simp
         go_at_call 26
         refine (within_any B K3 _ _ _ (by omega) (by omega) (by omega) (by omega) (H185.out.tapeAt 6 rfl)).mono ?_
         rintro e w187 ⟨q186_0, q186_1, q186_2, q186_3, rfl, hq186, ht, hg⟩
         have H188 := hid (H185.out.next 6 rfl ht hg)
         have HWq186 := hid hq186
         clear hq186 ht hg
         refine hK.out _ _ ?_ (fun hHeld2 => ?_)
         focus ((try dsimp only); (exact ⟨H188.out.cell 4 rfl 0 rfl, H188.out.cell 4 rfl 1 rfl, H188.out.cell 4 rfl 2 rfl, H188.out.cell 4 rfl 3 rfl⟩))
         clear hK K
         try simp only [Act.put, List.getElem_toArray, List.getElem_cons_zero, List.getElem_cons_succ, List.setIfInBounds_toArray, List.set_cons_zero, List.set_cons_succ]
         clear hHeld
         have hHeld := hHeld2
         clear hHeld2
         refine wpAnyH_ready (rs := [18]) (by kernel_rfl) (by simp) (AllReadyH.cons (o := _) rfl (fun K hK => ?_) AllReadyH.nil)
         obtain ⟨D189, hD189⟩ : ∃ D, w187.heap.size = D := ⟨_, rfl⟩
         have H190 := hid (H188.out.alloc #[.int .i64 0, .int .i64 0, .int .i64 0, .int .i64 0] 33 hD189)
         go_simp
         refine hK.out _ _ ?_ (fun hHeld2 => ?_)
         focus ((try dsimp only); (exact ⟨H190.out.cell 5 rfl 0 rfl, H190.out.cell 5 rfl 1 rfl, H190.out.cell 5 rfl 2 rfl, H190.out.cell 5 rfl 3 rfl⟩))
         clear hK K hHeld
         try simp only [Act.put, List.getElem_toArray, List.getElem_cons_zero, List.getElem_cons_succ, List.setIfInBounds_toArray, List.set_cons_zero, List.set_cons_succ]
         clear hD189
         generalize (w187.alloc (.cells #[.int .i64 0, .int .i64 0, .int .i64 0, .int .i64 0] 33)) = k191 at *
         have hHeld := hHeld2
         clear hHeld2
         refine wpAnyH_take (i := 19) (oi := _) (v := ?_) rfl (by kernel_rfl) (by kernel_rfl) (by kernel_rfl) (fun _ _ _ h => h) (Or.inl ⟨by rfl, ?_⟩) (by assumption) ?_
         rotate_left
         focus (intro wS hSw; (try dsimp only at hSw); go_simp; (try with_reducible rfl))
         try simp only [Act.put, List.getElem_toArray, List.getElem_cons_zero, List.getElem_cons_succ, List.setIfInBounds_toArray, List.set_cons_zero, List.set_cons_succ]
         refine wpAnyH_ready (rs := [20]) (by kernel_rfl) (by simp) (AllReadyH.cons (o := _) rfl (fun K hK => ?_) AllReadyH.nil)
         have z192 := H190.out.cell 1 rfl 0 rfl
         have z193 := H190.out.free 1 rfl 0
         have z194 := H190.out.cell 1 rfl 1 rfl
         have z195 := H190.out.free 1 rfl 1
         have H196 := hid (show St B W [.cells D189 #[.int .i64 0, .int .i64 0, .int .i64 0, .int .i64 0] 33, .cells D180 #[.int .i64 e33_0, .int .i64 e33_1] 38, .own (.slice wv30a wl31.length wv30c) wl31, .cells D21 #[.int .i64 1, .int .i64 3, .int .i64 2] 3, .cells D15 #[.int .i64 1, .int .i64 3, .int .i64 2, .int .i64 5, .int .i64 9] 3, .cells D12 #[.int .i64 pw9, .int .i64 ph9, .int .i64 pm9, .slice pv9a ps9.length pv9c] 35, .own (.slice pv9a ps9.length pv9c) ps9, .tape K3, .cells B #[.int .i64 r0, .int .i64 r1, .int .i64 r2, .int .i64 r3] 33] [] ((k191.setCell ⟨D180, 0, none⟩ (.int .i64 e33_0)).setCell ⟨D180, 1, none⟩ (.int .i64 e33_1)) from ((H190.out.set 1 rfl 0 (.int .i64 e33_0)).set 1 rfl 1 (.int .i64 e33_1)))
         go_simp
         refine hK.out _ _ ?_ (fun hHeld2 => ?_)
         focus ((try dsimp only); (exact ⟨H196.out.cell 5 rfl 0 rfl, H196.out.cell 5 rfl 1 rfl, H196.out.cell 5 rfl 2 rfl, H196.out.cell 5 rfl 3 rfl⟩))
         clear hK K hHeld
         try simp only [Act.put, List.getElem_toArray, List.getElem_cons_zero, List.getElem_cons_succ, List.setIfInBounds_toArray, List.set_cons_zero, List.set_cons_succ]
         clear z192 z193 z194 z195
         generalize ((k191.setCell ⟨D180, 0, none⟩ (.int .i64 e33_0)).setCell ⟨D180, 1, none⟩ (.int .i64 e33_1)) = k197 at *
         have hHeld := hHeld2
         clear hHeld2
         refine wpAnyH_take (i := 21) (oi := _) (v := ?_) rfl (by kernel_rfl) (by kernel_rfl) (by kernel_rfl) (fun _ _ _ h => h) (Or.inl ⟨by rfl, ?_⟩) (by assumption) ?_
         rotate_left
         focus (intro wS hSw; (try dsimp only at hSw); go_simp; (try with_reducible rfl))
         try simp only [Act.put, List.getElem_toArray, List.getElem_cons_zero, List.getElem_cons_succ, List.setIfInBounds_toArray, List.set_cons_zero, List.set_cons_succ]
         refine wpAnyH_ready (rs := [22]) (by kernel_rfl) (by simp) (AllReadyH.cons (o := _) rfl (fun K hK => ?_) AllReadyH.nil)
         have z198 := H196.out.cell 0 rfl 0 rfl
         have z199 := H196.out.free 0 rfl 0
         have z200 := H196.out.cell 0 rfl 1 rfl
         have z201 := H196.out.free 0 rfl 1
         have z202 := H196.out.cell 0 rfl 2 rfl
         have z203 := H196.out.free 0 rfl 2
         have z204 := H196.out.cell 0 rfl 3 rfl
         have z205 := H196.out.free 0 rfl 3
         have H206 := hid (show St B W [.cells D189 #[.int .i64 q186_0, .int .i64 q186_1, .int .i64 q186_2, .int .i64 q186_3] 33, .cells D180 #[.int .i64 e33_0, .int .i64 e33_1] 38, .own (.slice wv30a wl31.length wv30c) wl31, .cells D21 #[.int .i64 1, .int .i64 3, .int .i64 2] 3, .cells D15 #[.int .i64 1, .int .i64 3, .int .i64 2, .int .i64 5, .int .i64 9] 3, .cells D12 #[.int .i64 pw9, .int .i64 ph9, .int .i64 pm9, .slice pv9a ps9.length pv9c] 35, .own (.slice pv9a ps9.length pv9c) ps9, .tape K3, .cells B #[.int .i64 r0, .int .i64 r1, .int .i64 r2, .int .i64 r3] 33] [] ((((k197.setCell ⟨D189, 0, none⟩ (.int .i64 q186_0)).setCell ⟨D189, 1, none⟩ (.int .i64 q186_1)).setCell ⟨D189, 2, none⟩ (.int .i64 q186_2)).setCell ⟨D189, 3, none⟩ (.int .i64 q186_3)) from (H196.out.set4 0 rfl (.int .i64 q186_0) (.int .i64 q186_1) (.int .i64 q186_2) (.int .i64 q186_3)))
         go_simp
         refine hK.out _ _ ?_ (fun hHeld2 => ?_)
         focus ((try dsimp only); (exact ⟨H206.out.cell 5 rfl 0 rfl, H206.out.cell 5 rfl 1 rfl, H206.out.cell 5 rfl 2 rfl, H206.out.cell 5 rfl 3 rfl⟩))
         clear hK K hHeld
         try simp only [Act.put, List.getElem_toArray, List.getElem_cons_zero, List.getElem_cons_succ, List.setIfInBounds_toArray, List.set_cons_zero, List.set_cons_succ]
         clear z198 z199 z200 z201 z202 z203 z204 z205
         generalize ((((k197.setCell ⟨D189, 0, none⟩ (.int .i64 q186_0)).setCell ⟨D189, 1, none⟩ (.int .i64 q186_1)).setCell ⟨D189, 2, none⟩ (.int .i64 q186_2)).setCell ⟨D189, 3, none⟩ (.int .i64 q186_3)) = k207 at *
         have hHeld := hHeld2
         clear hHeld2
         refine wpAnyH_done (by kernel_rfl) ?_ _
         try clear hHeld
         go_wp2_with fail
         go_meet
         exact ⟨D180, D189, _, _, _, _, _, _, _, _, _, _, rfl, rfl, rfl, rfl, H206.out.pick [2, 1, 0, 3, 4, 5, 6, 7, 8] rfl (by decide)⟩
        ·obtain ⟨D208, hD208⟩ : ∃ D, w184.heap.size = D := ⟨_, rfl⟩
         have H209 := hid (H185.out.alloc #[.int .i64 0, .int .i64 0, .int .i64 0, .int .i64 0] 33 hD208)
         go_simp
         refine hK.out _ _ ?_ (fun hHeld2 => ?_)
         focus ((try dsimp only); (exact ⟨H209.out.cell 5 rfl 0 rfl, H209.out.cell 5 rfl 1 rfl, H209.out.cell 5 rfl 2 rfl, H209.out.cell 5 rfl 3 rfl⟩))
         clear hK K hHeld
         try simp only [Act.put, List.getElem_toArray, List.getElem_cons_zero, List.getElem_cons_succ, List.setIfInBounds_toArray, List.set_cons_zero, List.set_cons_succ]
         clear hD208
         generalize (w184.alloc (.cells #[.int .i64 0, .int .i64 0, .int .i64 0, .int .i64 0] 33)) = k210 at *
         have hHeld := hHeld2
         clear hHeld2
         refine wpAnyH_ready (rs := [16]) (by kernel_rfl) (by simp) (AllReadyH.cons (o := _) rfl (fun K hK => ?_) AllReadyH.nil)
         go_simp
         go_at_call 26
         refine (within_any B K3 _ _ _ (by omega) (by omega) (by omega) (by omega) (H209.out.tapeAt 7 rfl)).mono ?_
         rintro e w212 ⟨q211_0, q211_1, q211_2, q211_3, rfl, hq211, ht, hg⟩
         have H213 := hid (H209.out.next 7 rfl ht hg)
         have HWq211 := hid hq211
         clear hq211 ht hg
         refine hK.out _ _ ?_ (fun hHeld2 => ?_)
         focus ((try dsimp only); (exact ⟨H213.out.cell 5 rfl 0 rfl, H213.out.cell 5 rfl 1 rfl, H213.out.cell 5 rfl 2 rfl, H213.out.cell 5 rfl 3 rfl⟩))
         clear hK K
         try simp only [Act.put, List.getElem_toArray, List.getElem_cons_zero, List.getElem_cons_succ, List.setIfInBounds_toArray, List.set_cons_zero, List.set_cons_succ]
         clear hHeld
         have hHeld := hHeld2
         clear hHeld2
         refine wpAnyH_take (i := 19) (oi := _) (v := ?_) rfl (by kernel_rfl) (by kernel_rfl) (by kernel_rfl) (fun _ _ _ h => h) (Or.inl ⟨by rfl, ?_⟩) (by assumption) ?_
         rotate_left
         focus (intro wS hSw; (try dsimp only at hSw); go_simp; (try with_reducible rfl))
         try simp only [Act.put, List.getElem_toArray, List.getElem_cons_zero, List.getElem_cons_succ, List.setIfInBounds_toArray, List.set_cons_zero, List.set_cons_succ]
         refine wpAnyH_ready (rs := [20]) (by kernel_rfl) (by simp) (AllReadyH.cons (o := _) rfl (fun K hK => ?_) AllReadyH.nil)
         have z214 := H213.out.cell 1 rfl 0 rfl
         have z215 := H213.out.free 1 rfl 0
         have z216 := H213.out.cell 1 rfl 1 rfl
         have z217 := H213.out.free 1 rfl 1
         have H218 := hid (show St B W [.cells D208 #[.int .i64 0, .int .i64 0, .int .i64 0, .int .i64 0] 33, .cells D180 #[.int .i64 e33_0, .int .i64 e33_1] 38, .own (.slice wv30a wl31.length wv30c) wl31, .cells D21 #[.int .i64 1, .int .i64 3, .int .i64 2] 3, .cells D15 #[.int .i64 1, .int .i64 3, .int .i64 2, .int .i64 5, .int .i64 9] 3, .cells D12 #[.int .i64 pw9, .int .i64 ph9, .int .i64 pm9, .slice pv9a ps9.length pv9c] 35, .own (.slice pv9a ps9.length pv9c) ps9, .tape K3, .cells B #[.int .i64 r0, .int .i64 r1, .int .i64 r2, .int .i64 r3] 33] [] ((w212.setCell ⟨D180, 0, none⟩ (.int .i64 e33_0)).setCell ⟨D180, 1, none⟩ (.int .i64 e33_1)) from ((H213.out.set 1 rfl 0 (.int .i64 e33_0)).set 1 rfl 1 (.int .i64 e33_1)))
         go_simp
         refine hK.out _ _ ?_ (fun hHeld2 => ?_)
         focus ((try dsimp only); (exact ⟨H218.out.cell 5 rfl 0 rfl, H218.out.cell 5 rfl 1 rfl, H218.out.cell 5 rfl 2 rfl, H218.out.cell 5 rfl 3 rfl⟩))
         clear hK K hHeld
         try simp only [Act.put, List.getElem_toArray, List.getElem_cons_zero, List.getElem_cons_succ, List.setIfInBounds_toArray, List.set_cons_zero, List.set_cons_succ]
         clear z214 z215 z216 z217
         generalize ((w212.setCell ⟨D180, 0, none⟩ (.int .i64 e33_0)).setCell ⟨D180, 1, none⟩ (.int .i64 e33_1)) = k219 at *
         have hHeld := hHeld2
         clear hHeld2
         refine wpAnyH_take (i := 21) (oi := _) (v := ?_) rfl (by kernel_rfl) (by kernel_rfl) (by kernel_rfl) (fun _ _ _ h => h) (Or.inl ⟨by rfl, ?_⟩) (by assumption) ?_
         rotate_left
         focus (intro wS hSw; (try dsimp only at hSw); go_simp; (try with_reducible rfl))
         try simp only [Act.put, List.getElem_toArray, List.getElem_cons_zero, List.getElem_cons_succ, List.setIfInBounds_toArray, List.set_cons_zero, List.set_cons_succ]
         refine wpAnyH_ready (rs := [22]) (by kernel_rfl) (by simp) (AllReadyH.cons (o := _) rfl (fun K hK => ?_) AllReadyH.nil)
         have z220 := H218.out.cell 0 rfl 0 rfl
         have z221 := H218.out.free 0 rfl 0
         have z222 := H218.out.cell 0 rfl 1 rfl
         have z223 := H218.out.free 0 rfl 1
         have z224 := H218.out.cell 0 rfl 2 rfl
         have z225 := H218.out.free 0 rfl 2
         have z226 := H218.out.cell 0 rfl 3 rfl
         have z227 := H218.out.free 0 rfl 3
         have H228 := hid (show St B W [.cells D208 #[.int .i64 q211_0, .int .i64 q211_1, .int .i64 q211_2, .int .i64 q211_3] 33, .cells D180 #[.int .i64 e33_0, .int .i64 e33_1] 38, .own (.slice wv30a wl31.length wv30c) wl31, .cells D21 #[.int .i64 1, .int .i64 3, .int .i64 2] 3, .cells D15 #[.int .i64 1, .int .i64 3, .int .i64 2, .int .i64 5, .int .i64 9] 3, .cells D12 #[.int .i64 pw9, .int .i64 ph9, .int .i64 pm9, .slice pv9a ps9.length pv9c] 35, .own (.slice pv9a ps9.length pv9c) ps9, .tape K3, .cells B #[.int .i64 r0, .int .i64 r1, .int .i64 r2, .int .i64 r3] 33] [] ((((k219.setCell ⟨D208, 0, none⟩ (.int .i64 q211_0)).setCell ⟨D208, 1, none⟩ (.int .i64 q211_1)).setCell ⟨D208, 2, none⟩ (.int .i64 q211_2)).setCell ⟨D208, 3, none⟩ (.int .i64 q211_3)) from (H218.out.set4 0 rfl (.int .i64 q211_0) (.int .i64 q211_1) (.int .i64 q211_2) (.int .i64 q211_3)))
         go_simp
         refine hK.out _ _ ?_ (fun hHeld2 => ?_)
         focus ((try dsimp only); (exact ⟨H228.out.cell 5 rfl 0 rfl, H228.out.cell 5 rfl 1 rfl, H228.out.cell 5 rfl 2 rfl, H228.out.cell 5 rfl 3 rfl⟩))
         clear hK K hHeld
         try simp only [Act.put, List.getElem_toArray, List.getElem_cons_zero, List.getElem_cons_succ, List.setIfInBounds_toArray, List.set_cons_zero, List.set_cons_succ]
         clear z220 z221 z222 z223 z224 z225 z226 z227
         generalize ((((k219.setCell ⟨D208, 0, none⟩ (.int .i64 q211_0)).setCell ⟨D208, 1, none⟩ (.int .i64 q211_1)).setCell ⟨D208, 2, none⟩ (.int .i64 q211_2)).setCell ⟨D208, 3, none⟩ (.int .i64 q211_3)) = k229 at *
         have hHeld := hHeld2
         clear hHeld2
         refine wpAnyH_done (by kernel_rfl) ?_ _
         try clear hHeld
         go_wp2_with fail
         go_meet
         exact ⟨D180, D208, _, _, _, _, _, _, _, _, _, _, rfl, rfl, rfl, rfl, H228.out.pick [2, 1, 0, 3, 4, 5, 6, 7, 8] rfl (by decide)⟩
       ·obtain ⟨D230, hD230⟩ : ∃ D, k182.heap.size = D := ⟨_, rfl⟩
        have H231 := hid (H181.out.alloc #[.int .i64 0, .int .i64 0, .int .i64 0, .int .i64 0] 33 hD230)
        go_simp
        refine hK.out _ _ ?_ (fun hHeld2 => ?_)
        focus ((try dsimp only); (exact ⟨H231.out.cell 5 rfl 0 rfl, H231.out.cell 5 rfl 1 rfl, H231.out.cell 5 rfl 2 rfl, H231.out.cell 5 rfl 3 rfl⟩))
        clear hK K hHeld
        try simp only [Act.put, List.getElem_toArray, List.getElem_cons_zero, List.getElem_cons_succ, List.setIfInBounds_toArray, List.set_cons_zero, List.set_cons_succ]
        clear hD230
        generalize (k182.alloc (.cells #[.int .i64 0, .int .i64 0, .int .i64 0, .int .i64 0] 33)) = k232 at *
        have hHeld := hHeld2
        clear hHeld2
        refine wpAnyH_ready (rs := [10]) (by kernel_rfl) (by simp) (AllReadyH.cons (o := _) rfl (fun K hK => ?_) AllReadyH.nil)
        go_simp
        go_at_call 18
        refine (nextB_any B K3 _ _ (by omega) (H231.out.tapeAt 7 rfl)).mono ?_
        rintro e w234 ⟨x233, rfl, x233a, x233b, htn, hgn, hsn⟩
        have H235 := hid (H231.out.next 7 rfl htn hgn)
        clear htn hgn hsn
        refine hK.out _ _ ?_ (fun hHeld2 => ?_)
        focus ((try dsimp only); (exact ⟨H235.out.cell 5 rfl 0 rfl, H235.out.cell 5 rfl 1 rfl, H235.out.cell 5 rfl 2 rfl, H235.out.cell 5 rfl 3 rfl⟩))
        clear hK K
        try simp only [Act.put, List.getElem_toArray, List.getElem_cons_zero, List.getElem_cons_succ, List.setIfInBounds_toArray, List.set_cons_zero, List.set_cons_succ]
        clear hHeld
        have hHeld := hHeld2
        clear hHeld2
        refine wpAnyH_ready (rs := [16]) (by kernel_rfl) (by simp) (AllReadyH.cons (o := _) rfl (fun K hK => ?_) AllReadyH.nil)
        go_simp
        go_at_call 26
        refine (within_any B K3 _ _ _ (by omega) (by omega) (by omega) (by omega) (H235.out.tapeAt 7 rfl)).mono ?_
        rintro e w237 ⟨q236_0, q236_1, q236_2, q236_3, rfl, hq236, ht, hg⟩
        have H238 := hid (H235.out.next 7 rfl ht hg)
        have HWq236 := hid hq236
        clear hq236 ht hg
        refine hK.out _ _ ?_ (fun hHeld2 => ?_)
        focus ((try dsimp only); (exact ⟨H238.out.cell 5 rfl 0 rfl, H238.out.cell 5 rfl 1 rfl, H238.out.cell 5 rfl 2 rfl, H238.out.cell 5 rfl 3 rfl⟩))
        clear hK K
        try simp only [Act.put, List.getElem_toArray, List.getElem_cons_zero, List.getElem_cons_succ, List.setIfInBounds_toArray, List.set_cons_zero, List.set_cons_succ]
        clear hHeld
        have hHeld := hHeld2
        clear hHeld2
        refine wpAnyH_take (i := 19) (oi := _) (v := ?_) rfl (by kernel_rfl) (by kernel_rfl) (by kernel_rfl) (fun _ _ _ h => h) (Or.inl ⟨by rfl, ?_⟩) (by assumption) ?_
        rotate_left
        focus (intro wS hSw; (try dsimp only at hSw); go_simp; (try with_reducible rfl))
        try simp only [Act.put, List.getElem_toArray, List.getElem_cons_zero, List.getElem_cons_succ, List.setIfInBounds_toArray, List.set_cons_zero, List.set_cons_succ]
        refine wpAnyH_ready (rs := [20]) (by kernel_rfl) (by simp) (AllReadyH.cons (o := _) rfl (fun K hK => ?_) AllReadyH.nil)
        have z239 := H238.out.cell 1 rfl 0 rfl
        have z240 := H238.out.free 1 rfl 0
        have z241 := H238.out.cell 1 rfl 1 rfl
        have z242 := H238.out.free 1 rfl 1
        have H243 := hid (show St B W [.cells D230 #[.int .i64 0, .int .i64 0, .int .i64 0, .int .i64 0] 33, .cells D180 #[.int .i64 e33_0, .int .i64 e33_1] 38, .own (.slice wv30a wl31.length wv30c) wl31, .cells D21 #[.int .i64 1, .int .i64 3, .int .i64 2] 3, .cells D15 #[.int .i64 1, .int .i64 3, .int .i64 2, .int .i64 5, .int .i64 9] 3, .cells D12 #[.int .i64 pw9, .int .i64 ph9, .int .i64 pm9, .slice pv9a ps9.length pv9c] 35, .own (.slice pv9a ps9.length pv9c) ps9, .tape K3, .cells B #[.int .i64 r0, .int .i64 r1, .int .i64 r2, .int .i64 r3] 33] [] ((w237.setCell ⟨D180, 0, none⟩ (.int .i64 e33_0)).setCell ⟨D180, 1, none⟩ (.int .i64 e33_1)) from ((H238.out.set 1 rfl 0 (.int .i64 e33_0)).set 1 rfl 1 (.int .i64 e33_1)))
        go_simp
        refine hK.out _ _ ?_ (fun hHeld2 => ?_)
        focus ((try dsimp only); (exact ⟨H243.out.cell 5 rfl 0 rfl, H243.out.cell 5 rfl 1 rfl, H243.out.cell 5 rfl 2 rfl, H243.out.cell 5 rfl 3 rfl⟩))
        clear hK K hHeld
        try simp only [Act.put, List.getElem_toArray, List.getElem_cons_zero, List.getElem_cons_succ, List.setIfInBounds_toArray, List.set_cons_zero, List.set_cons_succ]
        clear z239 z240 z241 z242
        generalize ((w237.setCell ⟨D180, 0, none⟩ (.int .i64 e33_0)).setCell ⟨D180, 1, none⟩ (.int .i64 e33_1)) = k244 at *
        have hHeld := hHeld2
        clear hHeld2
        refine wpAnyH_take (i := 21) (oi := _) (v := ?_) rfl (by kernel_rfl) (by kernel_rfl) (by kernel_rfl) (fun _ _ _ h => h) (Or.inl ⟨by rfl, ?_⟩) (by assumption) ?_
        rotate_left
        focus (intro wS hSw; (try dsimp only at hSw); go_simp; (try with_reducible rfl))
        try simp only [Act.put, List.getElem_toArray, List.getElem_cons_zero, List.getElem_cons_succ, List.setIfInBounds_toArray, List.set_cons_zero, List.set_cons_succ]
        refine wpAnyH_ready (rs := [22]) (by kernel_rfl) (by simp) (AllReadyH.cons (o := _) rfl (fun K hK => ?_) AllReadyH.nil)
        have z245 := H243.out.cell 0 rfl 0 rfl
        have z246 := H243.out.free 0 rfl 0
        have z247 := H243.out.cell 0 rfl 1 rfl
        have z248 := H243.out.free 0 rfl 1
        have z249 := H243.out.cell 0 rfl 2 rfl
        have z250 := H243.out.free 0 rfl 2
        have z251 := H243.out.cell 0 rfl 3 rfl
        have z252 := H243.out.free 0 rfl 3
        have H253 := hid (show St B W [.cells D230 #[.int .i64 q236_0, .int .i64 q236_1, .int .i64 q236_2, .int .i64 q236_3] 33, .cells D180 #[.int .i64 e33_0, .int .i64 e33_1] 38, .own (.slice wv30a wl31.length wv30c) wl31, .cells D21 #[.int .i64 1, .int .i64 3, .int .i64 2] 3, .cells D15 #[.int .i64 1, .int .i64 3, .int .i64 2, .int .i64 5, .int .i64 9] 3, .cells D12 #[.int .i64 pw9, .int .i64 ph9, .int .i64 pm9, .slice pv9a ps9.length pv9c] 35, .own (.slice pv9a ps9.length pv9c) ps9, .tape K3, .cells B #[.int .i64 r0, .int .i64 r1, .int .i64 r2, .int .i64 r3] 33] [] ((((k244.setCell ⟨D230, 0, none⟩ (.int .i64 q236_0)).setCell ⟨D230, 1, none⟩ (.int .i64 q236_1)).setCell ⟨D230, 2, none⟩ (.int .i64 q236_2)).setCell ⟨D230, 3, none⟩ (.int .i64 q236_3)) from (H243.out.set4 0 rfl (.int .i64 q236_0) (.int .i64 q236_1) (.int .i64 q236_2) (.int .i64 q236_3)))
        go_simp
        refine hK.out _ _ ?_ (fun hHeld2 => ?_)
        focus ((try dsimp only); (exact ⟨H253.out.cell 5 rfl 0 rfl, H253.out.cell 5 rfl 1 rfl, H253.out.cell 5 rfl 2 rfl, H253.out.cell 5 rfl 3 rfl⟩))
        clear hK K hHeld
        try simp only [Act.put, List.getElem_toArray, List.getElem_cons_zero, List.getElem_cons_succ, List.setIfInBounds_toArray, List.set_cons_zero, List.set_cons_succ]
        clear z245 z246 z247 z248 z249 z250 z251 z252
        generalize ((((k244.setCell ⟨D230, 0, none⟩ (.int .i64 q236_0)).setCell ⟨D230, 1, none⟩ (.int .i64 q236_1)).setCell ⟨D230, 2, none⟩ (.int .i64 q236_2)).setCell ⟨D230, 3, none⟩ (.int .i64 q236_3)) = k254 at *
        have hHeld := hHeld2
        clear hHeld2
        refine wpAnyH_done (by kernel_rfl) ?_ _
        try clear hHeld
        go_wp2_with fail
        go_meet
        exact ⟨D180, D230, _, _, _, _, _, _, _, _, _, _, rfl, rfl, rfl, rfl, H253.out.pick [2, 1, 0, 3, 4, 5, 6, 7, 8] rfl (by decide)⟩
      ·obtain ⟨D255, hD255⟩ : ∃ D, w34.heap.size = D := ⟨_, rfl⟩
       have H256 := hid (H35.out.alloc #[.int .i64 0, .int .i64 0, .int .i64 0, .int .i64 0] 33 hD255)
       go_simp
       refine hK.out _ _ ?_ (fun hHeld2 => ?_)
       focus ((try dsimp only); (exact ⟨H256.out.cell 4 rfl 0 rfl, H256.out.cell 4 rfl 1 rfl, H256.out.cell 4 rfl 2 rfl, H256.out.cell 4 rfl 3 rfl⟩))
       clear hK K hHeld
       try simp only [Act.put, List.getElem_toArray, List.getElem_cons_zero, List.getElem_cons_succ, List.setIfInBounds_toArray, List.set_cons_zero, List.set_cons_succ]
       clear hD255
       generalize (w34.alloc (.cells #[.int .i64 0, .int .i64 0, .int .i64 0, .int .i64 0] 33)) = k257 at *
       have hHeld := hHeld2
       clear hHeld2
       refine wpAnyH_ready (rs := [10, 17]) (by kernel_rfl) (by simp) (AllReadyH.cons (o := _) rfl (fun K hK => ?_) (AllReadyH.cons (o := _) rfl (fun K hK => ?_) AllReadyH.nil))
       ·go_simp
        go_at_call 18
        refine (nextB_any B K3 _ _ (by omega) (H256.out.tapeAt 6 rfl)).mono ?_
        rintro e w259 ⟨x258, rfl, x258a, x258b, htn, hgn, hsn⟩
        have H260 := hid (H256.out.next 6 rfl htn hgn)
        clear htn hgn hsn
        refine hK.out _ _ ?_ (fun hHeld2 => ?_)
        focus ((try dsimp only); (exact ⟨H260.out.cell 4 rfl 0 rfl, H260.out.cell 4 rfl 1 rfl, H260.out.cell 4 rfl 2 rfl, H260.out.cell 4 rfl 3 rfl⟩))
        clear hK K
        try simp only [Act.put, List.getElem_toArray, List.getElem_cons_zero, List.getElem_cons_succ, List.setIfInBounds_toArray, List.set_cons_zero, List.set_cons_succ]
        clear hHeld
        have hHeld := hHeld2
        clear hHeld2
        refine wpAnyH_ready (rs := [16, 17]) (by kernel_rfl) (by simp) (AllReadyH.cons (o := _) rfl (fun K hK => ?_) (AllReadyH.cons (o := _) rfl (fun K hK => ?_) AllReadyH.nil))
        ·go_simp
         go_at_call 26
         refine (within_any B K3 _ _ _ (by omega) (by omega) (by omega) (by omega) (H260.out.tapeAt 6 rfl)).mono ?_
         rintro e w262 ⟨q261_0, q261_1, q261_2, q261_3, rfl, hq261, ht, hg⟩
         have H263 := hid (H260.out.next 6 rfl ht hg)
         have HWq261 := hid hq261
         clear hq261 ht hg
         refine hK.out _ _ ?_ (fun hHeld2 => ?_)
         focus ((try dsimp only); (exact ⟨H263.out.cell 4 rfl 0 rfl, H263.out.cell 4 rfl 1 rfl, H263.out.cell 4 rfl 2 rfl, H263.out.cell 4 rfl 3 rfl⟩))
         clear hK K
         try simp only [Act.put, List.getElem_toArray, List.getElem_cons_zero, List.getElem_cons_succ, List.setIfInBounds_toArray, List.set_cons_zero, List.set_cons_succ]
         clear hHeld
         have hHeld := hHeld2
         clear hHeld2
         refine wpAnyH_ready (rs := [17]) (by kernel_rfl) (by simp) (AllReadyH.cons (o := _) rfl (fun K hK => ?_) AllReadyH.nil)
         obtain ⟨D264, hD264⟩ : ∃ D, w262.heap.size = D := ⟨_, rfl⟩
         have H265 := hid (H263.out.alloc #[.int .i64 0, .int .i64 0] 38 hD264)
         go_simp
         refine hK.out _ _ ?_ (fun hHeld2 => ?_)
         focus ((try dsimp only); (exact ⟨H265.out.cell 5 rfl 0 rfl, H265.out.cell 5 rfl 1 rfl, H265.out.cell 5 rfl 2 rfl, H265.out.cell 5 rfl 3 rfl⟩))
         clear hK K hHeld
         try simp only [Act.put, List.getElem_toArray, List.getElem_cons_zero, List.getElem_cons_succ, List.setIfInBounds_toArray, List.set_cons_zero, List.set_cons_succ]
         clear hD264
         generalize (w262.alloc (.cells #[.int .i64 0, .int .i64 0] 38)) = k266 at *
         have hHeld := hHeld2
         clear hHeld2
         refine wpAnyH_take (i := 19) (oi := _) (v := ?_) rfl (by kernel_rfl) (by kernel_rfl) (by kernel_rfl) (fun _ _ _ h => h) (Or.inl ⟨by rfl, ?_⟩) (by assumption) ?_
         rotate_left
         focus (intro wS hSw; (try dsimp only at hSw); go_simp; (try with_reducible rfl))
         try simp only [Act.put, List.getElem_toArray, List.getElem_cons_zero, List.getElem_cons_succ, List.setIfInBounds_toArray, List.set_cons_zero, List.set_cons_succ]
         refine wpAnyH_ready (rs := [20]) (by kernel_rfl) (by simp) (AllReadyH.cons (o := _) rfl (fun K hK => ?_) AllReadyH.nil)
         have z267 := H265.out.cell 0 rfl 0 rfl
         have z268 := H265.out.free 0 rfl 0
         have z269 := H265.out.cell 0 rfl 1 rfl
         have z270 := H265.out.free 0 rfl 1
         have H271 := hid (show St B W [.cells D264 #[.int .i64 e33_0, .int .i64 e33_1] 38, .cells D255 #[.int .i64 0, .int .i64 0, .int .i64 0, .int .i64 0] 33, .own (.slice wv30a wl31.length wv30c) wl31, .cells D21 #[.int .i64 1, .int .i64 3, .int .i64 2] 3, .cells D15 #[.int .i64 1, .int .i64 3, .int .i64 2, .int .i64 5, .int .i64 9] 3, .cells D12 #[.int .i64 pw9, .int .i64 ph9, .int .i64 pm9, .slice pv9a ps9.length pv9c] 35, .own (.slice pv9a ps9.length pv9c) ps9, .tape K3, .cells B #[.int .i64 r0, .int .i64 r1, .int .i64 r2, .int .i64 r3] 33] [] ((k266.setCell ⟨D264, 0, none⟩ (.int .i64 e33_0)).setCell ⟨D264, 1, none⟩ (.int .i64 e33_1)) from ((H265.out.set 0 rfl 0 (.int .i64 e33_0)).set 0 rfl 1 (.int .i64 e33_1)))
         go_simp
         refine hK.out _ _ ?_ (fun hHeld2 => ?_)
         focus ((try dsimp only); (exact ⟨H271.out.cell 5 rfl 0 rfl, H271.out.cell 5 rfl 1 rfl, H271.out.cell 5 rfl 2 rfl, H271.out.cell 5 rfl 3 rfl⟩))
         clear hK K hHeld
         try simp only [Act.put, List.getElem_toArray, List.getElem_cons_zero, List.getElem_cons_succ, List.setIfInBounds_toArray, List.set_cons_zero, List.set_cons_succ]
         clear z267 z268 z269 z270
         generalize ((k266.setCell ⟨D264, 0, none⟩ (.int .i64 e33_0)).setCell ⟨D264, 1, none⟩ (.int .i64 e33_1)) = k272 at *
         have hHeld := hHeld2
         clear hHeld2
         refine wpAnyH_take (i := 21) (oi := _) (v := ?_) rfl (by kernel_rfl) (by kernel_rfl) (by kernel_rfl) (fun _ _ _ h => h) (Or.inl ⟨by rfl, ?_⟩) (by assumption) ?_
         rotate_left
         focus (intro wS hSw; (try dsimp only at hSw); go_simp; (try with_reducible rfl))
         try simp only [Act.put, List.getElem_toArray, List.getElem_cons_zero, List.getElem_cons_succ, List.setIfInBounds_toArray, List.set_cons_zero, List.set_cons_succ]
         refine wpAnyH_ready (rs := [22]) (by kernel_rfl) (by simp) (AllReadyH.cons (o := _) rfl (fun K hK => ?_) AllReadyH.nil)
         have z273 := H271.out.cell 1 rfl 0 rfl
         have z274 := H271.out.free 1 rfl 0
         have z275 := H271.out.cell 1 rfl 1 rfl
         have z276 := H271.out.free 1 rfl 1
         have z277 := H271.out.cell 1 rfl 2 rfl
         have z278 := H271.out.free 1 rfl 2
         have z279 := H271.out.cell 1 rfl 3 rfl
         have z280 := H271.out.free 1 rfl 3
         have H281 := hid (show St B W [.cells D264 #[.int .i64 e33_0, .int .i64 e33_1] 38, .cells D255 #[.int .i64 q261_0, .int .i64 q261_1, .int .i64 q261_2, .int .i64 q261_3] 33, .own (.slice wv30a wl31.length wv30c) wl31, .cells D21 #[.int .i64 1, .int .i64 3, .int .i64 2] 3, .cells D15 #[.int .i64 1, .int .i64 3, .int .i64 2, .int .i64 5, .int .i64 9] 3, .cells D12 #[.int .i64 pw9, .int .i64 ph9, .int .i64 pm9, .slice pv9a ps9.length pv9c] 35, .own (.slice pv9a ps9.length pv9c) ps9, .tape K3, .cells B #[.int .i64 r0, .int .i64 r1, .int .i64 r2, .int .i64 r3] 33] [] ((((k272.setCell ⟨D255, 0, none⟩ (.int .i64 q261_0)).setCell ⟨D255, 1, none⟩ (.int .i64 q261_1)).setCell ⟨D255, 2, none⟩ (.int .i64 q261_2)).setCell ⟨D255, 3, none⟩ (.int .i64 q261_3)) from (H271.out.set4 1 rfl (.int .i64 q261_0) (.int .i64 q261_1) (.int .i64 q261_2) (.int .i64 q261_3)))
         go_simp
         refine hK.out _ _ ?_ (fun hHeld2 => ?_)
         focus ((try dsimp only); (exact ⟨H281.out.cell 5 rfl 0 rfl, H281.out.cell 5 rfl 1 rfl, H281.out.cell 5 rfl 2 rfl, H281.out.cell 5 rfl 3 rfl⟩))
         clear hK K hHeld
         try simp only [Act.put, List.getElem_toArray, List.getElem_cons_zero, List.getElem_cons_succ, List.setIfInBounds_toArray, List.set_cons_zero, List.set_cons_succ]
         clear z273 z274 z275 z276 z277 z278 z279 z280
         generalize ((((k272.setCell ⟨D255, 0, none⟩ (.int .i64 q261_0)).setCell ⟨D255, 1, none⟩ (.int .i64 q261_1)).setCell ⟨D255, 2, none⟩ (.int .i64 q261_2)).setCell ⟨D255, 3, none⟩ (.int .i64 q261_3)) = k282 at *
         have hHeld := hHeld2
         clear hHeld2
         refine wpAnyH_done (by kernel_rfl) ?_ _
         try clear hHeld
         go_wp2_with fail
         go_meet
         exact ⟨D264, D255, _, _, _, _, _, _, _, _, _, _, rfl, rfl, rfl, rfl, H281.out.pick [2, 0, 1, 3, 4, 5, 6, 7, 8] rfl (by decide)⟩
        ·obtain ⟨D283, hD283⟩ : ∃ D, w259.heap.size = D := ⟨_, rfl⟩
         have H284 := hid (H260.out.alloc #[.int .i64 0, .int .i64 0] 38 hD283)
         go_simp
         refine hK.out _ _ ?_ (fun hHeld2 => ?_)
         focus ((try dsimp only); (exact ⟨H284.out.cell 5 rfl 0 rfl, H284.out.cell 5 rfl 1 rfl, H284.out.cell 5 rfl 2 rfl, H284.out.cell 5 rfl 3 rfl⟩))
         clear hK K hHeld
         try simp only [Act.put, List.getElem_toArray, List.getElem_cons_zero, List.getElem_cons_succ, List.setIfInBounds_toArray, List.set_cons_zero, List.set_cons_succ]
         clear hD283
         generalize (w259.alloc (.cells #[.int .i64 0, .int .i64 0] 38)) = k285 at *
         have hHeld := hHeld2
         clear hHeld2
         refine wpAnyH_ready (rs := [16]) (by kernel_rfl) (by simp) (AllReadyH.cons (o := _) rfl (fun K hK => ?_) AllReadyH.nil)
         go_simp
         go_at_call 26
         refine (within_any B K3 _ _ _ (by omega) (by omega) (by omega) (by omega) (H284.out.tapeAt 7 rfl)).mono ?_
         rintro e w287 ⟨q286_0, q286_1, q286_2, q286_3, rfl, hq286, ht, hg⟩
         have H288 := hid (H284.out.next 7 rfl ht hg)
         have HWq286 := hid hq286
         clear hq286 ht hg
         refine hK.out _ _ ?_ (fun hHeld2 => ?_)
         focus ((try dsimp only); (exact ⟨H288.out.cell 5 rfl 0 rfl, H288.out.cell 5 rfl 1 rfl, H288.out.cell 5 rfl 2 rfl, H288.out.cell 5 rfl 3 rfl⟩))
         clear hK K
         try simp only [Act.put, List.getElem_toArray, List.getElem_cons_zero, List.getElem_cons_succ, List.setIfInBounds_toArray, List.set_cons_zero, List.set_cons_succ]
         clear hHeld
         have hHeld := hHeld2
         clear hHeld2
         refine wpAnyH_take (i := 19) (oi := _) (v := ?_) rfl (by kernel_rfl) (by kernel_rfl) (by kernel_rfl) (fun _ _ _ h => h) (Or.inl ⟨by rfl, ?_⟩) (by assumption) ?_
         rotate_left
         focus (intro wS hSw; (try dsimp only at hSw); go_simp; (try with_reducible rfl))
         try simp only [Act.put, List.getElem_toArray, List.getElem_cons_zero, List.getElem_cons_succ, List.setIfInBounds_toArray, List.set_cons_zero, List.set_cons_succ]
         refine wpAnyH_ready (rs := [20]) (by kernel_rfl) (by simp) (AllReadyH.cons (o := _) rfl (fun K hK => ?_) AllReadyH.nil)
         have z289 := H288.out.cell 0 rfl 0 rfl
         have z290 := H288.out.free 0 rfl 0
         have z291 := H288.out.cell 0 rfl 1 rfl
         have z292 := H288.out.free 0 rfl 1
         have H293 := hid (show St B W [.cells D283 #[.int .i64 e33_0, .int .i64 e33_1] 38, .cells D255 #[.int .i64 0, .int .i64 0, .int .i64 0, .int .i64 0] 33, .own (.slice wv30a wl31.length wv30c) wl31, .cells D21 #[.int .i64 1, .int .i64 3, .int .i64 2] 3, .cells D15 #[.int .i64 1, .int .i64 3, .int .i64 2, .int .i64 5, .int .i64 9] 3, .cells D12 #[.int .i64 pw9, .int .i64 ph9, .int .i64 pm9, .slice pv9a ps9.length pv9c] 35, .own (.slice pv9a ps9.length pv9c) ps9, .tape K3, .cells B #[.int .i64 r0, .int .i64 r1, .int .i64 r2, .int .i64 r3] 33] [] ((w287.setCell ⟨D283, 0, none⟩ (.int .i64 e33_0)).setCell ⟨D283, 1, none⟩ (.int .i64 e33_1)) from ((H288.out.set 0 rfl 0 (.int .i64 e33_0)).set 0 rfl 1 (.int .i64 e33_1)))
         go_simp
         refine hK.out _ _ ?_ (fun hHeld2 => ?_)
         focus ((try dsimp only); (exact ⟨H293.out.cell 5 rfl 0 rfl, H293.out.cell 5 rfl 1 rfl, H293.out.cell 5 rfl 2 rfl, H293.out.cell 5 rfl 3 rfl⟩))
         clear hK K hHeld
         try simp only [Act.put, List.getElem_toArray, List.getElem_cons_zero, List.getElem_cons_succ, List.setIfInBounds_toArray, List.set_cons_zero, List.set_cons_succ]
         clear z289 z290 z291 z292
         generalize ((w287.setCell ⟨D283, 0, none⟩ (.int .i64 e33_0)).setCell ⟨D283, 1, none⟩ (.int .i64 e33_1)) = k294 at *
         have hHeld := hHeld2
         clear hHeld2
         refine wpAnyH_take (i := 21) (oi := _) (v := ?_) rfl (by kernel_rfl) (by kernel_rfl) (by kernel_rfl) (fun _ _ _ h => h) (Or.inl ⟨by rfl, ?_⟩) (by assumption) ?_
         rotate_left
         focus (intro wS hSw; (try dsimp only at hSw); go_simp; (try with_reducible rfl))
         try simp only [Act.put, List.getElem_toArray, List.getElem_cons_zero, List.getElem_cons_succ, List.setIfInBounds_toArray, List.set_cons_zero, List.set_cons_succ]
         refine wpAnyH_ready (rs := [22]) (by kernel_rfl) (by simp) (AllReadyH.cons (o := _) rfl (fun K hK => ?_) AllReadyH.nil)
         have z295 := H293.out.cell 1 rfl 0 rfl
         have z296 := H293.out.free 1 rfl 0
         have z297 := H293.out.cell 1 rfl 1 rfl
         have z298 := H293.out.free 1 rfl 1
         have z299 := H293.out.cell 1 rfl 2 rfl
         have z300 := H293.out.free 1 rfl 2
         have z301 := H293.out.cell 1 rfl 3 rfl
         have z302 := H293.out.free 1 rfl 3
         have H303 := hid (show St B W [.cells D283 #[.int .i64 e33_0, .int .i64 e33_1] 38, .cells D255 #[.int .i64 q286_0, .int .i64 q286_1, .int .i64 q286_2, .int .i64 q286_3] 33, .own (.slice wv30a wl31.length wv30c) wl31, .cells D21 #[.int .i64 1, .int .i64 3, .int .i64 2] 3, .cells D15 #[.int .i64 1, .int .i64 3, .int .i64 2, .int .i64 5, .int .i64 9] 3, .cells D12 #[.int .i64 pw9, .int .i64 ph9, .int .i64 pm9, .slice pv9a ps9.length pv9c] 35, .own (.slice pv9a ps9.length pv9c) ps9, .tape K3, .cells B #[.int .i64 r0, .int .i64 r1, .int .i64 r2, .int .i64 r3] 33] [] ((((k294.setCell ⟨D255, 0, none⟩ (.int .i64 q286_0)).setCell ⟨D255, 1, none⟩ (.int .i64 q286_1)).setCell ⟨D255, 2, none⟩ (.int .i64 q286_2)).setCell ⟨D255, 3, none⟩ (.int .i64 q286_3)) from (H293.out.set4 1 rfl (.int .i64 q286_0) (.int .i64 q286_1) (.int .i64 q286_2) (.int .i64 q286_3)))
         go_simp
         refine hK.out _ _ ?_ (fun hHeld2 => ?_)
         focus ((try dsimp only); (exact ⟨H303.out.cell 5 rfl 0 rfl, H303.out.cell 5 rfl 1 rfl, H303.out.cell 5 rfl 2 rfl, H303.out.cell 5 rfl 3 rfl⟩))
         clear hK K hHeld
         try simp only [Act.put, List.getElem_toArray, List.getElem_cons_zero, List.getElem_cons_succ, List.setIfInBounds_toArray, List.set_cons_zero, List.set_cons_succ]
         clear z295 z296 z297 z298 z299 z300 z301 z302
         generalize ((((k294.setCell ⟨D255, 0, none⟩ (.int .i64 q286_0)).setCell ⟨D255, 1, none⟩ (.int .i64 q286_1)).setCell ⟨D255, 2, none⟩ (.int .i64 q286_2)).setCell ⟨D255, 3, none⟩ (.int .i64 q286_3)) = k304 at *
         have hHeld := hHeld2
         clear hHeld2
         refine wpAnyH_done (by kernel_rfl) ?_ _
         try clear hHeld
         go_wp2_with fail
         go_meet
         exact ⟨D283, D255, _, _, _, _, _, _, _, _, _, _, rfl, rfl, rfl, rfl, H303.out.pick [2, 0, 1, 3, 4, 5, 6, 7, 8] rfl (by decide)⟩
       ·obtain ⟨D305, hD305⟩ : ∃ D, k257.heap.size = D := ⟨_, rfl⟩
        have H306 := hid (H256.out.alloc #[.int .i64 0, .int .i64 0] 38 hD305)
        go_simp
        refine hK.out _ _ ?_ (fun hHeld2 => ?_)
        focus ((try dsimp only); (exact ⟨H306.out.cell 5 rfl 0 rfl, H306.out.cell 5 rfl 1 rfl, H306.out.cell 5 rfl 2 rfl, H306.out.cell 5 rfl 3 rfl⟩))
        clear hK K hHeld
        try simp only [Act.put, List.getElem_toArray, List.getElem_cons_zero, List.getElem_cons_succ, List.setIfInBounds_toArray, List.set_cons_zero, List.set_cons_succ]
        clear hD305
        generalize (k257.alloc (.cells #[.int .i64 0, .int .i64 0] 38)) = k307 at *
        have hHeld := hHeld2
        clear hHeld2
        refine wpAnyH_ready (rs := [10]) (by kernel_rfl) (by simp) (AllReadyH.cons (o := _) rfl (fun K hK => ?_) AllReadyH.nil)
        go_simp
        go_at_call 18
        refine (nextB_any B K3 _ _ (by omega) (H306.out.tapeAt 7 rfl)).mono ?_
        rintro e w309 ⟨x308, rfl, x308a, x308b, htn, hgn, hsn⟩
        have H310 := hid (H306.out.next 7 rfl htn hgn)
        clear htn hgn hsn
        refine hK.out _ _ ?_ (fun hHeld2 => ?_)
        focus ((try dsimp only); (exact ⟨H310.out.cell 5 rfl 0 rfl, H310.out.cell 5 rfl 1 rfl, H310.out.cell 5 rfl 2 rfl, H310.out.cell 5 rfl 3 rfl⟩))
        clear hK K
        try simp only [Act.put, List.getElem_toArray, List.getElem_cons_zero, List.getElem_cons_succ, List.setIfInBounds_toArray, List.set_cons_zero, List.set_cons_succ]
        clear hHeld
        have hHeld := hHeld2
        clear hHeld2
        refine wpAnyH_ready (rs := [16]) (by kernel_rfl) (by simp) (AllReadyH.cons (o := _) rfl (fun K hK => ?_) AllReadyH.nil)
        go_simp
        go_at_call 26
        refine (within_any B K3 _ _ _ (by omega) (by omega) (by omega) (by omega) (H310.out.tapeAt 7 rfl)).mono ?_
        rintro e w312 ⟨q311_0, q311_1, q311_2, q311_3, rfl, hq311, ht, hg⟩
        have H313 := hid (H310.out.next 7 rfl ht hg)
        have HWq311 := hid hq311
        clear hq311 ht hg
        refine hK.out _ _ ?_ (fun hHeld2 => ?_)
        focus ((try dsimp only); (exact ⟨H313.out.cell 5 rfl 0 rfl, H313.out.cell 5 rfl 1 rfl, H313.out.cell 5 rfl 2 rfl, H313.out.cell 5 rfl 3 rfl⟩))
        clear hK K
        try simp only [Act.put, List.getElem_toArray, List.getElem_cons_zero, List.getElem_cons_succ, List.setIfInBounds_toArray, List.set_cons_zero, List.set_cons_succ]
        clear hHeld
        have hHeld := hHeld2
        clear hHeld2
        refine wpAnyH_take (i := 19) (oi := _) (v := ?_) rfl (by kernel_rfl) (by kernel_rfl) (by kernel_rfl) (fun _ _ _ h => h) (Or.inl ⟨by rfl, ?_⟩) (by assumption) ?_
        rotate_left
        focus (intro wS hSw; (try dsimp only at hSw); go_simp; (try with_reducible rfl))
        try simp only [Act.put, List.getElem_toArray, List.getElem_cons_zero, List.getElem_cons_succ, List.setIfInBounds_toArray, List.set_cons_zero, List.set_cons_succ]
        refine wpAnyH_ready (rs := [20]) (by kernel_rfl) (by simp) (AllReadyH.cons (o := _) rfl (fun K hK => ?_) AllReadyH.nil)
        have z314 := H313.out.cell 0 rfl 0 rfl
        have z315 := H313.out.free 0 rfl 0
        have z316 := H313.out.cell 0 rfl 1 rfl
        have z317 := H313.out.free 0 rfl 1
        have H318 := hid (show St B W [.cells D305 #[.int .i64 e33_0, .int .i64 e33_1] 38, .cells D255 #[.int .i64 0, .int .i64 0, .int .i64 0, .int .i64 0] 33, .own (.slice wv30a wl31.length wv30c) wl31, .cells D21 #[.int .i64 1, .int .i64 3, .int .i64 2] 3, .cells D15 #[.int .i64 1, .int .i64 3, .int .i64 2, .int .i64 5, .int .i64 9] 3, .cells D12 #[.int .i64 pw9, .int .i64 ph9, .int .i64 pm9, .slice pv9a ps9.length pv9c] 35, .own (.slice pv9a ps9.length pv9c) ps9, .tape K3, .cells B #[.int .i64 r0, .int .i64 r1, .int .i64 r2, .int .i64 r3] 33] [] ((w312.setCell ⟨D305, 0, none⟩ (.int .i64 e33_0)).setCell ⟨D305, 1, none⟩ (.int .i64 e33_1)) from ((H313.out.set 0 rfl 0 (.int .i64 e33_0)).set 0 rfl 1 (.int .i64 e33_1)))
        go_simp
        refine hK.out _ _ ?_ (fun hHeld2 => ?_)
        focus ((try dsimp only); (exact ⟨H318.out.cell 5 rfl 0 rfl, H318.out.cell 5 rfl 1 rfl, H318.out.cell 5 rfl 2 rfl, H318.out.cell 5 rfl 3 rfl⟩))
        clear hK K hHeld
        try simp only [Act.put, List.getElem_toArray, List.getElem_cons_zero, List.getElem_cons_succ, List.setIfInBounds_toArray, List.set_cons_zero, List.set_cons_succ]
        clear z314 z315 z316 z317
        generalize ((w312.setCell ⟨D305, 0, none⟩ (.int .i64 e33_0)).setCell ⟨D305, 1, none⟩ (.int .i64 e33_1)) = k319 at *
        have hHeld := hHeld2
        clear hHeld2
        refine wpAnyH_take (i := 21) (oi := _) (v := ?_) rfl (by kernel_rfl) (by kernel_rfl) (by kernel_rfl) (fun _ _ _ h => h) (Or.inl ⟨by rfl, ?_⟩) (by assumption) ?_
        rotate_left
        focus (intro wS hSw; (try dsimp only at hSw); go_simp; (try with_reducible rfl))
        try simp only [Act.put, List.getElem_toArray, List.getElem_cons_zero, List.getElem_cons_succ, List.setIfInBounds_toArray, List.set_cons_zero, List.set_cons_succ]
        refine wpAnyH_ready (rs := [22]) (by kernel_rfl) (by simp) (AllReadyH.cons (o := _) rfl (fun K hK => ?_) AllReadyH.nil)
        have z320 := H318.out.cell 1 rfl 0 rfl
        have z321 := H318.out.free 1 rfl 0
        have z322 := H318.out.cell 1 rfl 1 rfl
        have z323 := H318.out.free 1 rfl 1
        have z324 := H318.out.cell 1 rfl 2 rfl
        have z325 := H318.out.free 1 rfl 2
        have z326 := H318.out.cell 1 rfl 3 rfl
        have z327 := H318.out.free 1 rfl 3
        have H328 := hid (show St B W [.cells D305 #[.int .i64 e33_0, .int .i64 e33_1] 38, .cells D255 #[.int .i64 q311_0, .int .i64 q311_1, .int .i64 q311_2, .int .i64 q311_3] 33, .own (.slice wv30a wl31.length wv30c) wl31, .cells D21 #[.int .i64 1, .int .i64 3, .int .i64 2] 3, .cells D15 #[.int .i64 1, .int .i64 3, .int .i64 2, .int .i64 5, .int .i64 9] 3, .cells D12 #[.int .i64 pw9, .int .i64 ph9, .int .i64 pm9, .slice pv9a ps9.length pv9c] 35, .own (.slice pv9a ps9.length pv9c) ps9, .tape K3, .cells B #[.int .i64 r0, .int .i64 r1, .int .i64 r2, .int .i64 r3] 33] [] ((((k319.setCell ⟨D255, 0, none⟩ (.int .i64 q311_0)).setCell ⟨D255, 1, none⟩ (.int .i64 q311_1)).setCell ⟨D255, 2, none⟩ (.int .i64 q311_2)).setCell ⟨D255, 3, none⟩ (.int .i64 q311_3)) from (H318.out.set4 1 rfl (.int .i64 q311_0) (.int .i64 q311_1) (.int .i64 q311_2) (.int .i64 q311_3)))
        go_simp
        refine hK.out _ _ ?_ (fun hHeld2 => ?_)
        focus ((try dsimp only); (exact ⟨H328.out.cell 5 rfl 0 rfl, H328.out.cell 5 rfl 1 rfl, H328.out.cell 5 rfl 2 rfl, H328.out.cell 5 rfl 3 rfl⟩))
        clear hK K hHeld
        try simp only [Act.put, List.getElem_toArray, List.getElem_cons_zero, List.getElem_cons_succ, List.setIfInBounds_toArray, List.set_cons_zero, List.set_cons_succ]
        clear z320 z321 z322 z323 z324 z325 z326 z327
        generalize ((((k319.setCell ⟨D255, 0, none⟩ (.int .i64 q311_0)).setCell ⟨D255, 1, none⟩ (.int .i64 q311_1)).setCell ⟨D255, 2, none⟩ (.int .i64 q311_2)).setCell ⟨D255, 3, none⟩ (.int .i64 q311_3)) = k329 at *
        have hHeld := hHeld2
        clear hHeld2
        refine wpAnyH_done (by kernel_rfl) ?_ _
        try clear hHeld
        go_wp2_with fail
        go_meet
        exact ⟨D305, D255, _, _, _, _, _, _, _, _, _, _, rfl, rfl, rfl, rfl, H328.out.pick [2, 0, 1, 3, 4, 5, 6, 7, 8] rfl (by decide)⟩
     ·obtain ⟨D330, hD330⟩ : ∃ D, w29.heap.size = D := ⟨_, rfl⟩
      have H331 := hid (H32.out.alloc #[.int .i64 0, .int .i64 0] 38 hD330)
      go_simp
      refine hK.out _ _ ?_ (fun hHeld2 => ?_)
      focus ((try dsimp only); (exact ⟨H331.out.cell 4 rfl 0 rfl, H331.out.cell 4 rfl 1 rfl, H331.out.cell 4 rfl 2 rfl, H331.out.cell 4 rfl 3 rfl⟩))
      clear hK K hHeld
      try simp only [Act.put, List.getElem_toArray, List.getElem_cons_zero, List.getElem_cons_succ, List.setIfInBounds_toArray, List.set_cons_zero, List.set_cons_succ]
      clear hD330
      generalize (w29.alloc (.cells #[.int .i64 0, .int .i64 0] 38)) = k332 at *
      have hHeld := hHeld2
      clear hHeld2
      refine wpAnyH_ready (rs := [8, 18]) (by kernel_rfl) (by simp) (AllReadyH.cons (o := _) rfl (fun K hK => ?_) (AllReadyH.cons (o := _) rfl (fun K hK => ?_) AllReadyH.nil))
      ·go_simp
       go_at_call 25
       refine (edge_any B K3 _ _ (H331.out.tapeAt 6 rfl)).mono ?_
       rintro e w334 ⟨e333_0, e333_1, rfl, ht, hg⟩
       have H335 := hid (H331.out.next 6 rfl ht hg)
       clear ht hg
       refine hK.out _ _ ?_ (fun hHeld2 => ?_)
       focus ((try dsimp only); (exact ⟨H335.out.cell 4 rfl 0 rfl, H335.out.cell 4 rfl 1 rfl, H335.out.cell 4 rfl 2 rfl, H335.out.cell 4 rfl 3 rfl⟩))
       clear hK K
       try simp only [Act.put, List.getElem_toArray, List.getElem_cons_zero, List.getElem_cons_succ, List.setIfInBounds_toArray, List.set_cons_zero, List.set_cons_succ]
       clear hHeld
       have hHeld := hHeld2
       clear hHeld2
       refine wpAnyH_ready (rs := [10, 18]) (by kernel_rfl) (by simp) (AllReadyH.cons (o := _) rfl (fun K hK => ?_) (AllReadyH.cons (o := _) rfl (fun K hK => ?_) AllReadyH.nil))
       ·go_simp
        go_at_call 18
        refine (nextB_any B K3 _ _ (by omega) (H335.out.tapeAt 6 rfl)).mono ?_
        rintro e w337 ⟨x336, rfl, x336a, x336b, htn, hgn, hsn⟩
        have H338 := hid (H335.out.next 6 rfl htn hgn)
        clear htn hgn hsn
        refine hK.out _ _ ?_ (fun hHeld2 => ?_)
        focus ((try dsimp only); (exact ⟨H338.out.cell 4 rfl 0 rfl, H338.out.cell 4 rfl 1 rfl, H338.out.cell 4 rfl 2 rfl, H338.out.cell 4 rfl 3 rfl⟩))
        clear hK K
        try simp only [Act.put, List.getElem_toArray, List.getElem_cons_zero, List.getElem_cons_succ, List.setIfInBounds_toArray, List.set_cons_zero, List.set_cons_succ]
        clear hHeld
        have hHeld := hHeld2
        clear hHeld2
        refine wpAnyH_ready (rs := [16, 18]) (by kernel_rfl) (by simp) (AllReadyH.cons (o := _) rfl (fun K hK => ?_) (AllReadyH.cons (o := _) rfl (fun K hK => ?_) AllReadyH.nil))
        ·go_simp
         go_at_call 26
         refine (within_any B K3 _ _ _ (by omega) (by omega) (by omega) (by omega) (H338.out.tapeAt 6 rfl)).mono ?_
         rintro e w340 ⟨q339_0, q339_1, q339_2, q339_3, rfl, hq339, ht, hg⟩
         have H341 := hid (H338.out.next 6 rfl ht hg)
         have HWq339 := hid hq339
         clear hq339 ht hg
         refine hK.out _ _ ?_ (fun hHeld2 => ?_)
         focus ((try dsimp only); (exact ⟨H341.out.cell 4 rfl 0 rfl, H341.out.cell 4 rfl 1 rfl, H341.out.cell 4 rfl 2 rfl, H341.out.cell 4 rfl 3 rfl⟩))
         clear hK K
         try simp only [Act.put, List.getElem_toArray, List.getElem_cons_zero, List.getElem_cons_succ, List.setIfInBounds_toArray, List.set_cons_zero, List.set_cons_succ]
         clear hHeld
         have hHeld := hHeld2
         clear hHeld2
         refine wpAnyH_ready (rs := [18]) (by kernel_rfl) (by simp) (AllReadyH.cons (o := _) rfl (fun K hK => ?_) AllReadyH.nil)
         obtain ⟨D342, hD342⟩ : ∃ D, w340.heap.size = D := ⟨_, rfl⟩
         have H343 := hid (H341.out.alloc #[.int .i64 0, .int .i64 0, .int .i64 0, .int .i64 0] 33 hD342)
         go_simp
         refine hK.out _ _ ?_ (fun hHeld2 => ?_)
         focus ((try dsimp only); (exact ⟨H343.out.cell 5 rfl 0 rfl, H343.out.cell 5 rfl 1 rfl, H343.out.cell 5 rfl 2 rfl, H343.out.cell 5 rfl 3 rfl⟩))
         clear hK K hHeld
         try simp only [Act.put, List.getElem_toArray, List.getElem_cons_zero, List.getElem_cons_succ, List.setIfInBounds_toArray, List.set_cons_zero, List.set_cons_succ]
         clear hD342
         generalize (w340.alloc (.cells #[.int .i64 0, .int .i64 0, .int .i64 0, .int .i64 0] 33)) = k344 at *
         have hHeld := hHeld2
         clear hHeld2
         refine wpAnyH_take (i := 19) (oi := _) (v := ?_) rfl (by kernel_rfl) (by kernel_rfl) (by kernel_rfl) (fun _ _ _ h => h) (Or.inl ⟨by rfl, ?_⟩) (by assumption) ?_
         rotate_left
         focus (intro wS hSw; (try dsimp only at hSw); go_simp; (try with_reducible rfl))
         try simp only [Act.put, List.getElem_toArray, List.getElem_cons_zero, List.getElem_cons_succ, List.setIfInBounds_toArray, List.set_cons_zero, List.set_cons_succ]
         refine wpAnyH_ready (rs := [20]) (by kernel_rfl) (by simp) (AllReadyH.cons (o := _) rfl (fun K hK => ?_) AllReadyH.nil)
         have z345 := H343.out.cell 1 rfl 0 rfl
         have z346 := H343.out.free 1 rfl 0
         have z347 := H343.out.cell 1 rfl 1 rfl
         have z348 := H343.out.free 1 rfl 1
         have H349 := hid (show St B W [.cells D342 #[.int .i64 0, .int .i64 0, .int .i64 0, .int .i64 0] 33, .cells D330 #[.int .i64 e333_0, .int .i64 e333_1] 38, .own (.slice wv30a wl31.length wv30c) wl31, .cells D21 #[.int .i64 1, .int .i64 3, .int .i64 2] 3, .cells D15 #[.int .i64 1, .int .i64 3, .int .i64 2, .int .i64 5, .int .i64 9] 3, .cells D12 #[.int .i64 pw9, .int .i64 ph9, .int .i64 pm9, .slice pv9a ps9.length pv9c] 35, .own (.slice pv9a ps9.length pv9c) ps9, .tape K3, .cells B #[.int .i64 r0, .int .i64 r1, .int .i64 r2, .int .i64 r3] 33] [] ((k344.setCell ⟨D330, 0, none⟩ (.int .i64 e333_0)).setCell ⟨D330, 1, none⟩ (.int .i64 e333_1)) from ((H343.out.set 1 rfl 0 (.int .i64 e333_0)).set 1 rfl 1 (.int .i64 e333_1)))
         go_simp
         refine hK.out _ _ ?_ (fun hHeld2 => ?_)
         focus ((try dsimp only); (exact ⟨H349.out.cell 5 rfl 0 rfl, H349.out.cell 5 rfl 1 rfl, H349.out.cell 5 rfl 2 rfl, H349.out.cell 5 rfl 3 rfl⟩))
         clear hK K hHeld
         try simp only [Act.put, List.getElem_toArray, List.getElem_cons_zero, List.getElem_cons_succ, List.setIfInBounds_toArray, List.set_cons_zero, List.set_cons_succ]
         clear z345 z346 z347 z348
         generalize ((k344.setCell ⟨D330, 0, none⟩ (.int .i64 e333_0)).setCell ⟨D330, 1, none⟩ (.int .i64 e333_1)) = k350 at *
         have hHeld := hHeld2
         clear hHeld2
         refine wpAnyH_take (i := 21) (oi := _) (v := ?_) rfl (by kernel_rfl) (by kernel_rfl) (by kernel_rfl) (fun _ _ _ h => h) (Or.inl ⟨by rfl, ?_⟩) (by assumption) ?_
         rotate_left
         focus (intro wS hSw; (try dsimp only at hSw); go_simp; (try with_reducible rfl))
         try simp only [Act.put, List.getElem_toArray, List.getElem_cons_zero, List.getElem_cons_succ, List.setIfInBounds_toArray, List.set_cons_zero, List.set_cons_succ]
         refine wpAnyH_ready (rs := [22]) (by kernel_rfl) (by simp) (AllReadyH.cons (o := _) rfl (fun K hK => ?_) AllReadyH.nil)
         have z351 := H349.out.cell 0 rfl 0 rfl
         have z352 := H349.out.free 0 rfl 0
         have z353 := H349.out.cell 0 rfl 1 rfl
         have z354 := H349.out.free 0 rfl 1
         have z355 := H349.out.cell 0 rfl 2 rfl
         have z356 := H349.out.free 0 rfl 2
         have z357 := H349.out.cell 0 rfl 3 rfl
         have z358 := H349.out.free 0 rfl 3
         have H359 := hid (show St B W [.cells D342 #[.int .i64 q339_0, .int .i64 q339_1, .int .i64 q339_2, .int .i64 q339_3] 33, .cells D330 #[.int .i64 e333_0, .int .i64 e333_1] 38, .own (.slice wv30a wl31.length wv30c) wl31, .cells D21 #[.int .i64 1, .int .i64 3, .int .i64 2] 3, .cells D15 #[.int .i64 1, .int .i64 3, .int .i64 2, .int .i64 5, .int .i64 9] 3, .cells D12 #[.int .i64 pw9, .int .i64 ph9, .int .i64 pm9, .slice pv9a ps9.length pv9c] 35, .own (.slice pv9a ps9.length pv9c) ps9, .tape K3, .cells B #[.int .i64 r0, .int .i64 r1, .int .i64 r2, .int .i64 r3] 33] [] ((((k350.setCell ⟨D342, 0, none⟩ (.int .i64 q339_0)).setCell ⟨D342, 1, none⟩ (.int .i64 q339_1)).setCell ⟨D342, 2, none⟩ (.int .i64 q339_2)).setCell ⟨D342, 3, none⟩ (.int .i64 q339_3)) from (H349.out.set4 0 rfl (.int .i64 q339_0) (.int .i64 q339_1) (.int .i64 q339_2) (.int .i64 q339_3)))
         go_simp
         refine hK.out _ _ ?_ (fun hHeld2 => ?_)
         focus ((try dsimp only); (exact ⟨H359.out.cell 5 rfl 0 rfl, H359.out.cell 5 rfl 1 rfl, H359.out.cell 5 rfl 2 rfl, H359.out.cell 5 rfl 3 rfl⟩))
         clear hK K hHeld
         try simp only [Act.put, List.getElem_toArray, List.getElem_cons_zero, List.getElem_cons_succ, List.setIfInBounds_toArray, List.set_cons_zero, List.set_cons_succ]
         clear z351 z352 z353 z354 z355 z356 z357 z358
         generalize ((((k350.setCell ⟨D342, 0, none⟩ (.int .i64 q339_0)).setCell ⟨D342, 1, none⟩ (.int .i64 q339_1)).setCell ⟨D342, 2, none⟩ (.int .i64 q339_2)).setCell ⟨D342, 3, none⟩ (.int .i64 q339_3)) = k360 at *
         have hHeld := hHeld2
         clear hHeld2
         refine wpAnyH_done (by kernel_rfl) ?_ _
         try clear hHeld
         go_wp2_with fail
         go_meet
         exact ⟨D330, D342, _, _, _, _, _, _, _, _, _, _, rfl, rfl, rfl, rfl, H359.out.pick [2, 1, 0, 3, 4, 5, 6, 7, 8] rfl (by decide)⟩
        ·obtain ⟨D361, hD361⟩ : ∃ D, w337.heap.size = D := ⟨_, rfl⟩
         have H362 := hid (H338.out.alloc #[.int .i64 0, .int .i64 0, .int .i64 0, .int .i64 0] 33 hD361)
         go_simp
         refine hK.out _ _ ?_ (fun hHeld2 => ?_)
         focus ((try dsimp only); (exact ⟨H362.out.cell 5 rfl 0 rfl, H362.out.cell 5 rfl 1 rfl, H362.out.cell 5 rfl 2 rfl, H362.out.cell 5 rfl 3 rfl⟩))
         clear hK K hHeld
         try simp only [Act.put, List.getElem_toArray, List.getElem_cons_zero, List.getElem_cons_succ, List.setIfInBounds_toArray, List.set_cons_zero, List.set_cons_succ]
         clear hD361
         generalize (w337.alloc (.cells #[.int .i64 0, .int .i64 0, .int .i64 0, .int .i64 0] 33)) = k363 at *
         have hHeld := hHeld2
         clear hHeld2
         refine wpAnyH_ready (rs := [16]) (by kernel_rfl) (by simp) (AllReadyH.cons (o := _) rfl (fun K hK => ?_) AllReadyH.nil)
         go_simp
         go_at_call 26
         refine (within_any B K3 _ _ _ (by omega) (by omega) (by omega) (by omega) (H362.out.tapeAt 7 rfl)).mono ?_
         rintro e w365 ⟨q364_0, q364_1, q364_2, q364_3, rfl, hq364, ht, hg⟩
         have H366 := hid (H362.out.next 7 rfl ht hg)
         have HWq364 := hid hq364
         clear hq364 ht hg
         refine hK.out _ _ ?_ (fun hHeld2 => ?_)
         focus ((try dsimp only); (exact ⟨H366.out.cell 5 rfl 0 rfl, H366.out.cell 5 rfl 1 rfl, H366.out.cell 5 rfl 2 rfl, H366.out.cell 5 rfl 3 rfl⟩))
         clear hK K
         try simp only [Act.put, List.getElem_toArray, List.getElem_cons_zero, List.getElem_cons_succ, List.setIfInBounds_toArray, List.set_cons_zero, List.set_cons_succ]
         clear hHeld
         have hHeld := hHeld2
         clear hHeld2
         refine wpAnyH_take (i := 19) (oi := _) (v := ?_) rfl (by kernel_rfl) (by kernel_rfl) (by kernel_rfl) (fun _ _ _ h => h) (Or.inl ⟨by rfl, ?_⟩) (by assumption) ?_
         rotate_left
         focus (intro wS hSw; (try dsimp only at hSw); go_simp; (try with_reducible rfl))
         try simp only [Act.put, List.getElem_toArray, List.getElem_cons_zero, List.getElem_cons_succ, List.setIfInBounds_toArray, List.set_cons_zero, List.set_cons_succ]
         refine wpAnyH_ready (rs := [20]) (by kernel_rfl) (by simp) (AllReadyH.cons (o := _) rfl (fun K hK => ?_) AllReadyH.nil)
         have z367 := H366.out.cell 1 rfl 0 rfl
         have z368 := H366.out.free 1 rfl 0
         have z369 := H366.out.cell 1 rfl 1 rfl
         have z370 := H366.out.free 1 rfl 1
         have H371 := hid (show St B W [.cells D361 #[.int .i64 0, .int .i64 0, .int .i64 0, .int .i64 0] 33, .cells D330 #[.int .i64 e333_0, .int .i64 e333_1] 38, .own (.slice wv30a wl31.length wv30c) wl31, .cells D21 #[.int .i64 1, .int .i64 3, .int .i64 2] 3, .cells D15 #[.int .i64 1, .int .i64 3, .int .i64 2, .int .i64 5, .int .i64 9] 3, .cells D12 #[.int .i64 pw9, .int .i64 ph9, .int .i64 pm9, .slice pv9a ps9.length pv9c] 35, .own (.slice pv9a ps9.length pv9c) ps9, .tape K3, .cells B #[.int .i64 r0, .int .i64 r1, .int .i64 r2, .int .i64 r3] 33] [] ((w365.setCell ⟨D330, 0, none⟩ (.int .i64 e333_0)).setCell ⟨D330, 1, none⟩ (.int .i64 e333_1)) from ((H366.out.set 1 rfl 0 (.int .i64 e333_0)).set 1 rfl 1 (.int .i64 e333_1)))
         go_simp
         refine hK.out _ _ ?_ (fun hHeld2 => ?_)
         focus ((try dsimp only); (exact ⟨H371.out.cell 5 rfl 0 rfl, H371.out.cell 5 rfl 1 rfl, H371.out.cell 5 rfl 2 rfl, H371.out.cell 5 rfl 3 rfl⟩))
         clear hK K hHeld
         try simp only [Act.put, List.getElem_toArray, List.getElem_cons_zero, List.getElem_cons_succ, List.setIfInBounds_toArray, List.set_cons_zero, List.set_cons_succ]
         clear z367 z368 z369 z370
         generalize ((w365.setCell ⟨D330, 0, none⟩ (.int .i64 e333_0)).setCell ⟨D330, 1, none⟩ (.int .i64 e333_1)) = k372 at *
         have hHeld := hHeld2
         clear hHeld2
         refine wpAnyH_take (i := 21) (oi := _) (v := ?_) rfl (by kernel_rfl) (by kernel_rfl) (by kernel_rfl) (fun _ _ _ h => h) (Or.inl ⟨by rfl, ?_⟩) (by assumption) ?_
         rotate_left
         focus (intro wS hSw; (try dsimp only at hSw); go_simp; (try with_reducible rfl))
         try simp only [Act.put, List.getElem_toArray, List.getElem_cons_zero, List.getElem_cons_succ, List.setIfInBounds_toArray, List.set_cons_zero, List.set_cons_succ]
         refine wpAnyH_ready (rs := [22]) (by kernel_rfl) (by simp) (AllReadyH.cons (o := _) rfl (fun K hK => ?_) AllReadyH.nil)
         have z373 := H371.out.cell 0 rfl 0 rfl
         have z374 := H371.out.free 0 rfl 0
         have z375 := H371.out.cell 0 rfl 1 rfl
         have z376 := H371.out.free 0 rfl 1
         have z377 := H371.out.cell 0 rfl 2 rfl
         have z378 := H371.out.free 0 rfl 2
         have z379 := H371.out.cell 0 rfl 3 rfl
         have z380 := H371.out.free 0 rfl 3
         have H381 := hid (show St B W [.cells D361 #[.int .i64 q364_0, .int .i64 q364_1, .int .i64 q364_2, .int .i64 q364_3] 33, .cells D330 #[.int .i64 e333_0, .int .i64 e333_1] 38, .own (.slice wv30a wl31.length wv30c) wl31, .cells D21 #[.int .i64 1, .int .i64 3, .int .i64 2] 3, .cells D15 #[.int .i64 1, .int .i64 3, .int .i64 2, .int .i64 5, .int .i64 9] 3, .cells D12 #[.int .i64 pw9, .int .i64 ph9, .int .i64 pm9, .slice pv9a ps9.length pv9c] 35, .own (.slice pv9a ps9.length pv9c) ps9, .tape K3, .cells B #[.int .i64 r0, .int .i64 r1, .int .i64 r2, .int .i64 r3] 33] [] ((((k372.setCell ⟨D361, 0, none⟩ (.int .i64 q364_0)).setCell ⟨D361, 1, none⟩ (.int .i64 q364_1)).setCell ⟨D361, 2, none⟩ (.int .i64 q364_2)).setCell ⟨D361, 3, none⟩ (.int .i64 q364_3)) from (H371.out.set4 0 rfl (.int .i64 q364_0) (.int .i64 q364_1) (.int .i64 q364_2) (.int .i64 q364_3)))
         go_simp
         refine hK.out _ _ ?_ (fun hHeld2 => ?_)
         focus ((try dsimp only); (exact ⟨H381.out.cell 5 rfl 0 rfl, H381.out.cell 5 rfl 1 rfl, H381.out.cell 5 rfl 2 rfl, H381.out.cell 5 rfl 3 rfl⟩))
         clear hK K hHeld
         try simp only [Act.put, List.getElem_toArray, List.getElem_cons_zero, List.getElem_cons_succ, List.setIfInBounds_toArray, List.set_cons_zero, List.set_cons_succ]
         clear z373 z374 z375 z376 z377 z378 z379 z380
         generalize ((((k372.setCell ⟨D361, 0, none⟩ (.int .i64 q364_0)).setCell ⟨D361, 1, none⟩ (.int .i64 q364_1)).setCell ⟨D361, 2, none⟩ (.int .i64 q364_2)).setCell ⟨D361, 3, none⟩ (.int .i64 q364_3)) = k382 at *
         have hHeld := hHeld2
         clear hHeld2
         refine wpAnyH_done (by kernel_rfl) ?_ _
         try clear hHeld
         go_wp2_with fail
         go_meet
         exact ⟨D330, D361, _, _, _, _, _, _, _, _, _, _, rfl, rfl, rfl, rfl, H381.out.pick [2, 1, 0, 3, 4, 5, 6, 7, 8] rfl (by decide)⟩
       ·obtain ⟨D383, hD383⟩ : ∃ D, w334.heap.size = D := ⟨_, rfl⟩
        have H384 := hid (H335.out.alloc #[.int .i64 0, .int .i64 0, .int .i64 0, .int .i64 0] 33 hD383)
        go_simp
        refine hK.out _ _ ?_ (fun hHeld2 => ?_)
        focus ((try dsimp only); (exact ⟨H384.out.cell 5 rfl 0 rfl, H384.out.cell 5 rfl 1 rfl, H384.out.cell 5 rfl 2 rfl, H384.out.cell 5 rfl 3 rfl⟩))
        clear hK K hHeld
        try simp only [Act.put, List.getElem_toArray, List.getElem_cons_zero, List.getElem_cons_succ, List.setIfInBounds_toArray, List.set_cons_zero, List.set_cons_succ]
        clear hD383
        generalize (w334.alloc (.cells #[.int .i64 0, .int .i64 0, .int .i64 0, .int .i64 0] 33)) = k385 at *
        have hHeld := hHeld2
        clear hHeld2
        refine wpAnyH_ready (rs := [10]) (by kernel_rfl) (by simp) (AllReadyH.cons (o := _) rfl (fun K hK => ?_) AllReadyH.nil)
        go_simp
        go_at_call 18
        refine (nextB_any B K3 _ _ (by omega) (H384.out.tapeAt 7 rfl)).mono ?_
        rintro e w387 ⟨x386, rfl, x386a, x386b, htn, hgn, hsn⟩
        have H388 := hid (H384.out.next 7 rfl htn hgn)
        clear htn hgn hsn
        refine hK.out _ _ ?_ (fun hHeld2 => ?_)
        focus ((try dsimp only); (exact ⟨H388.out.cell 5 rfl 0 rfl, H388.out.cell 5 rfl 1 rfl, H388.out.cell 5 rfl 2 rfl, H388.out.cell 5 rfl 3 rfl⟩))
        clear hK K
        try simp only [Act.put, List.getElem_toArray, List.getElem_cons_zero, List.getElem_cons_succ, List.setIfInBounds_toArray, List.set_cons_zero, List.set_cons_succ]
        clear hHeld
        have hHeld := hHeld2
        clear hHeld2
        refine wpAnyH_ready (rs := [16]) (by kernel_rfl) (by simp) (AllReadyH.cons (o := _) rfl (fun K hK => ?_) AllReadyH.nil)
        go_simp
        go_at_call 26
        refine (within_any B K3 _ _ _ (by omega) (by omega) (by omega) (by omega) (H388.out.tapeAt 7 rfl)).mono ?_
        rintro e w390 ⟨q389_0, q389_1, q389_2, q389_3, rfl, hq389, ht, hg⟩
        have H391 := hid (H388.out.next 7 rfl ht hg)
        have HWq389 := hid hq389
        clear hq389 ht hg
        refine hK.out _ _ ?_ (fun hHeld2 => ?_)
        focus ((try dsimp only); (exact ⟨H391.out.cell 5 rfl 0 rfl, H391.out.cell 5 rfl 1 rfl, H391.out.cell 5 rfl 2 rfl, H391.out.cell 5 rfl 3 rfl⟩))
        clear hK K
        try simp only [Act.put, List.getElem_toArray, List.getElem_cons_zero, List.getElem_cons_succ, List.setIfInBounds_toArray, List.set_cons_zero, List.set_cons_succ]
        clear hHeld
        have hHeld := hHeld2
        clear hHeld2
        refine wpAnyH_take (i := 19) (oi := _) (v := ?_) rfl (by kernel_rfl) (by kernel_rfl) (by kernel_rfl) (fun _ _ _ h => h) (Or.inl ⟨by rfl, ?_⟩) (by assumption) ?_
        rotate_left
        focus (intro wS hSw; (try dsimp only at hSw); go_simp; (try with_reducible rfl))
        try simp only [Act.put, List.getElem_toArray, List.getElem_cons_zero, List.getElem_cons_succ, List.setIfInBounds_toArray, List.set_cons_zero, List.set_cons_succ]
        refine wpAnyH_ready (rs := [20]) (by kernel_rfl) (by simp) (AllReadyH.cons (o := _) rfl (fun K hK => ?_) AllReadyH.nil)
        have z392 := H391.out.cell 1 rfl 0 rfl
        have z393 := H391.out.free 1 rfl 0
        have z394 := H391.out.cell 1 rfl 1 rfl
        have z395 := H391.out.free 1 rfl 1
        have H396 := hid (show St B W [.cells D383 #[.int .i64 0, .int .i64 0, .int .i64 0, .int .i64 0] 33, .cells D330 #[.int .i64 e333_0, .int .i64 e333_1] 38, .own (.slice wv30a wl31.length wv30c) wl31, .cells D21 #[.int .i64 1, .int .i64 3, .int .i64 2] 3, .cells D15 #[.int .i64 1, .int .i64 3, .int .i64 2, .int .i64 5, .int .i64 9] 3, .cells D12 #[.int .i64 pw9, .int .i64 ph9, .int .i64 pm9, .slice pv9a ps9.length pv9c] 35, .own (.slice pv9a ps9.length pv9c) ps9, .tape K3, .cells B #[.int .i64 r0, .int .i64 r1, .int .i64 r2, .int .i64 r3] 33] [] ((w390.setCell ⟨D330, 0, none⟩ (.int .i64 e333_0)).setCell ⟨D330, 1, none⟩ (.int .i64 e333_1)) from ((H391.out.set 1 rfl 0 (.int .i64 e333_0)).set 1 rfl 1 (.int .i64 e333_1)))
        go_simp
        refine hK.out _ _ ?_ (fun hHeld2 => ?_)
        focus ((try dsimp only); (exact ⟨H396.out.cell 5 rfl 0 rfl, H396.out.cell 5 rfl 1 rfl, H396.out.cell 5 rfl 2 rfl, H396.out.cell 5 rfl 3 rfl⟩))
        clear hK K hHeld
        try simp only [Act.put, List.getElem_toArray, List.getElem_cons_zero, List.getElem_cons_succ, List.setIfInBounds_toArray, List.set_cons_zero, List.set_cons_succ]
        clear z392 z393 z394 z395
        generalize ((w390.setCell ⟨D330, 0, none⟩ (.int .i64 e333_0)).setCell ⟨D330, 1, none⟩ (.int .i64 e333_1)) = k397 at *
        have hHeld := hHeld2
        clear hHeld2
        refine wpAnyH_take (i := 21) (oi := _) (v := ?_) rfl (by kernel_rfl) (by kernel_rfl) (by kernel_rfl) (fun _ _ _ h => h) (Or.inl ⟨by rfl, ?_⟩) (by assumption) ?_
        rotate_left
        focus (intro wS hSw; (try dsimp only at hSw); go_simp; (try with_reducible rfl))
        try simp only [Act.put, List.getElem_toArray, List.getElem_cons_zero, List.getElem_cons_succ, List.setIfInBounds_toArray, List.set_cons_zero, List.set_cons_succ]
        refine wpAnyH_ready (rs := [22]) (by kernel_rfl) (by simp) (AllReadyH.cons (o := _) rfl (fun K hK => ?_) AllReadyH.nil)
        have z398 := H396.out.cell 0 rfl 0 rfl
        have z399 := H396.out.free 0 rfl 0
        have z400 := H396.out.cell 0 rfl 1 rfl
        have z401 := H396.out.free 0 rfl 1
        have z402 := H396.out.cell 0 rfl 2 rfl
        have z403 := H396.out.free 0 rfl 2
        have z404 := H396.out.cell 0 rfl 3 rfl
        have z405 := H396.out.free 0 rfl 3
        have H406 := hid (show St B W [.cells D383 #[.int .i64 q389_0, .int .i64 q389_1, .int .i64 q389_2, .int .i64 q389_3] 33, .cells D330 #[.int .i64 e333_0, .int .i64 e333_1] 38, .own (.slice wv30a wl31.length wv30c) wl31, .cells D21 #[.int .i64 1, .int .i64 3, .int .i64 2] 3, .cells D15 #[.int .i64 1, .int .i64 3, .int .i64 2, .int .i64 5, .int .i64 9] 3, .cells D12 #[.int .i64 pw9, .int .i64 ph9, .int .i64 pm9, .slice pv9a ps9.length pv9c] 35, .own (.slice pv9a ps9.length pv9c) ps9, .tape K3, .cells B #[.int .i64 r0, .int .i64 r1, .int .i64 r2, .int .i64 r3] 33] [] ((((k397.setCell ⟨D383, 0, none⟩ (.int .i64 q389_0)).setCell ⟨D383, 1, none⟩ (.int .i64 q389_1)).setCell ⟨D383, 2, none⟩ (.int .i64 q389_2)).setCell ⟨D383, 3, none⟩ (.int .i64 q389_3)) from (H396.out.set4 0 rfl (.int .i64 q389_0) (.int .i64 q389_1) (.int .i64 q389_2) (.int .i64 q389_3)))
        go_simp
        refine hK.out _ _ ?_ (fun hHeld2 => ?_)
        focus ((try dsimp only); (exact ⟨H406.out.cell 5 rfl 0 rfl, H406.out.cell 5 rfl 1 rfl, H406.out.cell 5 rfl 2 rfl, H406.out.cell 5 rfl 3 rfl⟩))
        clear hK K hHeld
        try simp only [Act.put, List.getElem_toArray, List.getElem_cons_zero, List.getElem_cons_succ, List.setIfInBounds_toArray, List.set_cons_zero, List.set_cons_succ]
        clear z398 z399 z400 z401 z402 z403 z404 z405
        generalize ((((k397.setCell ⟨D383, 0, none⟩ (.int .i64 q389_0)).setCell ⟨D383, 1, none⟩ (.int .i64 q389_1)).setCell ⟨D383, 2, none⟩ (.int .i64 q389_2)).setCell ⟨D383, 3, none⟩ (.int .i64 q389_3)) = k407 at *
        have hHeld := hHeld2
        clear hHeld2
        refine wpAnyH_done (by kernel_rfl) ?_ _
        try clear hHeld
        go_wp2_with fail
        go_meet
        exact ⟨D330, D383, _, _, _, _, _, _, _, _, _, _, rfl, rfl, rfl, rfl, H406.out.pick [2, 1, 0, 3, 4, 5, 6, 7, 8] rfl (by decide)⟩
      ·obtain ⟨D408, hD408⟩ : ∃ D, k332.heap.size = D := ⟨_, rfl⟩
       have H409 := hid (H331.out.alloc #[.int .i64 0, .int .i64 0, .int .i64 0, .int .i64 0] 33 hD408)
       go_simp
       refine hK.out _ _ ?_ (fun hHeld2 => ?_)
       focus ((try dsimp only); (exact ⟨H409.out.cell 5 rfl 0 rfl, H409.out.cell 5 rfl 1 rfl, H409.out.cell 5 rfl 2 rfl, H409.out.cell 5 rfl 3 rfl⟩))
       clear hK K hHeld
       try simp only [Act.put, List.getElem_toArray, List.getElem_cons_zero, List.getElem_cons_succ, List.setIfInBounds_toArray, List.set_cons_zero, List.set_cons_succ]
       clear hD408
       generalize (k332.alloc (.cells #[.int .i64 0, .int .i64 0, .int .i64 0, .int .i64 0] 33)) = k410 at *
       have hHeld := hHeld2
       clear hHeld2
       refine wpAnyH_ready (rs := [8]) (by kernel_rfl) (by simp) (AllReadyH.cons (o := _) rfl (fun K hK => ?_) AllReadyH.nil)
       go_simp
       go_at_call 25
       refine (edge_any B K3 _ _ (H409.out.tapeAt 7 rfl)).mono ?_
       rintro e w412 ⟨e411_0, e411_1, rfl, ht, hg⟩
       have H413 := hid (H409.out.next 7 rfl ht hg)
       clear ht hg
       refine hK.out _ _ ?_ (fun hHeld2 => ?_)
       focus ((try dsimp only); (exact ⟨H413.out.cell 5 rfl 0 rfl, H413.out.cell 5 rfl 1 rfl, H413.out.cell 5 rfl 2 rfl, H413.out.cell 5 rfl 3 rfl⟩))
       clear hK K
       try simp only [Act.put, List.getElem_toArray, List.getElem_cons_zero, List.getElem_cons_succ, List.setIfInBounds_toArray, List.set_cons_zero, List.set_cons_succ]
       clear hHeld
       have hHeld := hHeld2
       clear hHeld2
       refine wpAnyH_ready (rs := [10]) (by kernel_rfl) (by simp) (AllReadyH.cons (o := _) rfl (fun K hK => ?_) AllReadyH.nil)
       go_simp
       go_at_call 18
       refine (nextB_any B K3 _ _ (by omega) (H413.out.tapeAt 7 rfl)).mono ?_
       rintro e w415 ⟨x414, rfl, x414a, x414b, htn, hgn, hsn⟩
       have H416 := hid (H413.out.next 7 rfl htn hgn)
       clear htn hgn hsn
       refine hK.out _ _ ?_ (fun hHeld2 => ?_)
       focus ((try dsimp only); (exact ⟨H416.out.cell 5 rfl 0 rfl, H416.out.cell 5 rfl 1 rfl, H416.out.cell 5 rfl 2 rfl, H416.out.cell 5 rfl 3 rfl⟩))
       clear hK K
       try simp only [Act.put, List.getElem_toArray, List.getElem_cons_zero, List.getElem_cons_succ, List.setIfInBounds_toArray, List.set_cons_zero, List.set_cons_succ]
       clear hHeld
       have hHeld := hHeld2
       clear hHeld2
       refine wpAnyH_ready (rs := [16]) (by kernel_rfl) (by simp) (AllReadyH.cons (o := _) rfl (fun K hK => ?_) AllReadyH.nil)
       go_simp
       go_at_call 26
       refine (within_any B K3 _ _ _ (by omega) (by omega) (by omega) (by omega) (H416.out.tapeAt 7 rfl)).mono ?_
       rintro e w418 ⟨q417_0, q417_1, q417_2, q417_3, rfl, hq417, ht, hg⟩
       have H419 := hid (H416.out.next 7 rfl ht hg)
       have HWq417 := hid hq417
       clear hq417 ht hg
       refine hK.out _ _ ?_ (fun hHeld2 => ?_)
       focus ((try dsimp only); (exact ⟨H419.out.cell 5 rfl 0 rfl, H419.out.cell 5 rfl 1 rfl, H419.out.cell 5 rfl 2 rfl, H419.out.cell 5 rfl 3 rfl⟩))
       clear hK K
       try simp only [Act.put, List.getElem_toArray, List.getElem_cons_zero, List.getElem_cons_succ, List.setIfInBounds_toArray, List.set_cons_zero, List.set_cons_succ]
       clear hHeld
       have hHeld := hHeld2
       clear hHeld2
       refine wpAnyH_take (i := 19) (oi := _) (v := ?_) rfl (by kernel_rfl) (by kernel_rfl) (by kernel_rfl) (fun _ _ _ h => h) (Or.inl ⟨by rfl, ?_⟩) (by assumption) ?_
       rotate_left
       focus (intro wS hSw; (try dsimp only at hSw); go_simp; (try with_reducible rfl))
       try simp only [Act.put, List.getElem_toArray, List.getElem_cons_zero, List.getElem_cons_succ, List.setIfInBounds_toArray, List.set_cons_zero, List.set_cons_succ]
       refine wpAnyH_ready (rs := [20]) (by kernel_rfl) (by simp) (AllReadyH.cons (o := _) rfl (fun K hK => ?_) AllReadyH.nil)
       have z420 := H419.out.cell 1 rfl 0 rfl
       have z421 := H419.out.free 1 rfl 0
       have z422 := H419.out.cell 1 rfl 1 rfl
       have z423 := H419.out.free 1 rfl 1
       have H424 := hid (show St B W [.cells D408 #[.int .i64 0, .int .i64 0, .int .i64 0, .int .i64 0] 33, .cells D330 #[.int .i64 e411_0, .int .i64 e411_1] 38, .own (.slice wv30a wl31.length wv30c) wl31, .cells D21 #[.int .i64 1, .int .i64 3, .int .i64 2] 3, .cells D15 #[.int .i64 1, .int .i64 3, .int .i64 2, .int .i64 5, .int .i64 9] 3, .cells D12 #[.int .i64 pw9, .int .i64 ph9, .int .i64 pm9, .slice pv9a ps9.length pv9c] 35, .own (.slice pv9a ps9.length pv9c) ps9, .tape K3, .cells B #[.int .i64 r0, .int .i64 r1, .int .i64 r2, .int .i64 r3] 33] [] ((w418.setCell ⟨D330, 0, none⟩ (.int .i64 e411_0)).setCell ⟨D330, 1, none⟩ (.int .i64 e411_1)) from ((H419.out.set 1 rfl 0 (.int .i64 e411_0)).set 1 rfl 1 (.int .i64 e411_1)))
       go_simp
       refine hK.out _ _ ?_ (fun hHeld2 => ?_)
       focus ((try dsimp only); (exact ⟨H424.out.cell 5 rfl 0 rfl, H424.out.cell 5 rfl 1 rfl, H424.out.cell 5 rfl 2 rfl, H424.out.cell 5 rfl 3 rfl⟩))
       clear hK K hHeld
       try simp only [Act.put, List.getElem_toArray, List.getElem_cons_zero, List.getElem_cons_succ, List.setIfInBounds_toArray, List.set_cons_zero, List.set_cons_succ]
       clear z420 z421 z422 z423
       generalize ((w418.setCell ⟨D330, 0, none⟩ (.int .i64 e411_0)).setCell ⟨D330, 1, none⟩ (.int .i64 e411_1)) = k425 at *
       have hHeld := hHeld2
       clear hHeld2
       refine wpAnyH_take (i := 21) (oi := _) (v := ?_) rfl (by kernel_rfl) (by kernel_rfl) (by kernel_rfl) (fun _ _ _ h => h) (Or.inl ⟨by rfl, ?_⟩) (by assumption) ?_
       rotate_left
       focus (intro wS hSw; (try dsimp only at hSw); go_simp; (try with_reducible rfl))
       try simp only [Act.put, List.getElem_toArray, List.getElem_cons_zero, List.getElem_cons_succ, List.setIfInBounds_toArray, List.set_cons_zero, List.set_cons_succ]
       refine wpAnyH_ready (rs := [22]) (by kernel_rfl) (by simp) (AllReadyH.cons (o := _) rfl (fun K hK => ?_) AllReadyH.nil)
       have z426 := H424.out.cell 0 rfl 0 rfl
       have z427 := H424.out.free 0 rfl 0
       have z428 := H424.out.cell 0 rfl 1 rfl
       have z429 := H424.out.free 0 rfl 1
       have z430 := H424.out.cell 0 rfl 2 rfl
       have z431 := H424.out.free 0 rfl 2
       have z432 := H424.out.cell 0 rfl 3 rfl
       have z433 := H424.out.free 0 rfl 3
       have H434 := hid (show St B W [.cells D408 #[.int .i64 q417_0, .int .i64 q417_1, .int .i64 q417_2, .int .i64 q417_3] 33, .cells D330 #[.int .i64 e411_0, .int .i64 e411_1] 38, .own (.slice wv30a wl31.length wv30c) wl31, .cells D21 #[.int .i64 1, .int .i64 3, .int .i64 2] 3, .cells D15 #[.int .i64 1, .int .i64 3, .int .i64 2, .int .i64 5, .int .i64 9] 3, .cells D12 #[.int .i64 pw9, .int .i64 ph9, .int .i64 pm9, .slice pv9a ps9.length pv9c] 35, .own (.slice pv9a ps9.length pv9c) ps9, .tape K3, .cells B #[.int .i64 r0, .int .i64 r1, .int .i64 r2, .int .i64 r3] 33] [] ((((k425.setCell ⟨D408, 0, none⟩ (.int .i64 q417_0)).setCell ⟨D408, 1, none⟩ (.int .i64 q417_1)).setCell ⟨D408, 2, none⟩ (.int .i64 q417_2)).setCell ⟨D408, 3, none⟩ (.int .i64 q417_3)) from (H424.out.set4 0 rfl (.int .i64 q417_0) (.int .i64 q417_1) (.int .i64 q417_2) (.int .i64 q417_3)))
       go_simp
       refine hK.out _ _ ?_ (fun hHeld2 => ?_)
       focus ((try dsimp only); (exact ⟨H434.out.cell 5 rfl 0 rfl, H434.out.cell 5 rfl 1 rfl, H434.out.cell 5 rfl 2 rfl, H434.out.cell 5 rfl 3 rfl⟩))
       clear hK K hHeld
       try simp only [Act.put, List.getElem_toArray, List.getElem_cons_zero, List.getElem_cons_succ, List.setIfInBounds_toArray, List.set_cons_zero, List.set_cons_succ]
       clear z426 z427 z428 z429 z430 z431 z432 z433
       generalize ((((k425.setCell ⟨D408, 0, none⟩ (.int .i64 q417_0)).setCell ⟨D408, 1, none⟩ (.int .i64 q417_1)).setCell ⟨D408, 2, none⟩ (.int .i64 q417_2)).setCell ⟨D408, 3, none⟩ (.int .i64 q417_3)) = k435 at *
       have hHeld := hHeld2
       clear hHeld2
       refine wpAnyH_done (by kernel_rfl) ?_ _
       try clear hHeld
       go_wp2_with fail
       go_meet
       exact ⟨D330, D408, _, _, _, _, _, _, _, _, _, _, rfl, rfl, rfl, rfl, H434.out.pick [2, 1, 0, 3, 4, 5, 6, 7, 8] rfl (by decide)⟩
     ·obtain ⟨D436, hD436⟩ : ∃ D, w29.heap.size = D := ⟨_, rfl⟩
      have H437 := hid (H32.out.alloc #[.int .i64 0, .int .i64 0, .int .i64 0, .int .i64 0] 33 hD436)
      go_simp
      refine hK.out _ _ ?_ (fun hHeld2 => ?_)
      focus ((try dsimp only); (exact ⟨H437.out.cell 4 rfl 0 rfl, H437.out.cell 4 rfl 1 rfl, H437.out.cell 4 rfl 2 rfl, H437.out.cell 4 rfl 3 rfl⟩))
      clear hK K hHeld
      try simp only [Act.put, List.getElem_toArray, List.getElem_cons_zero, List.getElem_cons_succ, List.setIfInBounds_toArray, List.set_cons_zero, List.set_cons_succ]
      clear hD436
      generalize (w29.alloc (.cells #[.int .i64 0, .int .i64 0, .int .i64 0, .int .i64 0] 33)) = k438 at *
      have hHeld := hHeld2
      clear hHeld2
      refine wpAnyH_ready (rs := [8, 17]) (by kernel_rfl) (by simp) (AllReadyH.cons (o := _) rfl (fun K hK => ?_) (AllReadyH.cons (o := _) rfl (fun K hK => ?_) AllReadyH.nil))
      ·go_simp
       go_at_call 25
       refine (edge_any B K3 _ _ (H437.out.tapeAt 6 rfl)).mono ?_
       rintro e w440 ⟨e439_0, e439_1, rfl, ht, hg⟩
       have H441 := hid (H437.out.next 6 rfl ht hg)
       clear ht hg
       refine hK.out _ _ ?_ (fun hHeld2 => ?_)
       focus ((try dsimp only); (exact ⟨H441.out.cell 4 rfl 0 rfl, H441.out.cell 4 rfl 1 rfl, H441.out.cell 4 rfl 2 rfl, H441.out.cell 4 rfl 3 rfl⟩))
       clear hK K
       try simp only [Act.put, List.getElem_toArray, List.getElem_cons_zero, List.getElem_cons_succ, List.setIfInBounds_toArray, List.set_cons_zero, List.set_cons_succ]
       clear hHeld
       have hHeld := hHeld2
       clear hHeld2
       refine wpAnyH_ready (rs := [10, 17]) (by kernel_rfl) (by simp) (AllReadyH.cons (o := _) rfl (fun K hK => ?_) (AllReadyH.cons (o := _) rfl (fun K hK => ?_) AllReadyH.nil))
       ·go_simp
        go_at_call 18
        refine (nextB_any B K3 _ _ (by omega) (H441.out.tapeAt 6 rfl)).mono ?_
        rintro e w443 ⟨x442, rfl, x442a, x442b, htn, hgn, hsn⟩
        have H444 := hid (H441.out.next 6 rfl htn hgn)
        clear htn hgn hsn
        refine hK.out _ _ ?_ (fun hHeld2 => ?_)
        focus ((try dsimp only); (exact ⟨H444.out.cell 4 rfl 0 rfl, H444.out.cell 4 rfl 1 rfl, H444.out.cell 4 rfl 2 rfl, H444.out.cell 4 rfl 3 rfl⟩))
        clear hK K
        try simp only [Act.put, List.getElem_toArray, List.getElem_cons_zero, List.getElem_cons_succ, List.setIfInBounds_toArray, List.set_cons_zero, List.set_cons_succ]
        clear hHeld
        have hHeld := hHeld2
        clear hHeld2
        refine wpAnyH_ready (rs := [16, 17]) (by kernel_rfl) (by simp) (AllReadyH.cons (o := _) rfl (fun K hK => ?_) (AllReadyH.cons (o := _) rfl (fun K hK => ?_) AllReadyH.nil))
        ·go_simp
         go_at_call 26
         refine (within_any B K3 _ _ _ (by omega) (by omega) (by omega) (by omega) (H444.out.tapeAt 6 rfl)).mono ?_
         rintro e w446 ⟨q445_0, q445_1, q445_2, q445_3, rfl, hq445, ht, hg⟩
         have H447 := hid (H444.out.next 6 rfl ht hg)
         have HWq445 := hid hq445
         clear hq445 ht hg
         refine hK.out _ _ ?_ (fun hHeld2 => ?_)
         focus ((try dsimp only); (exact ⟨H447.out.cell 4 rfl 0 rfl, H447.out.cell 4 rfl 1 rfl, H447.out.cell 4 rfl 2 rfl, H447.out.cell 4 rfl 3 rfl⟩))
         clear hK K
         try simp only [Act.put, List.getElem_toArray, List.getElem_cons_zero, List.getElem_cons_succ, List.setIfInBounds_toArray, List.set_cons_zero, List.set_cons_succ]
         clear hHeld
         have hHeld := hHeld2
         clear hHeld2
         refine wpAnyH_ready (rs := [17]) (by kernel_rfl) (by simp) (AllReadyH.cons (o := _) rfl (fun K hK => ?_) AllReadyH.nil)
         obtain ⟨D448, hD448⟩ : ∃ D, w446.heap.size = D := ⟨_, rfl⟩
         have H449 := hid (H447.out.alloc #[.int .i64 0, .int .i64 0] 38 hD448)
         go_simp
         refine hK.out _ _ ?_ (fun hHeld2 => ?_)
         focus ((try dsimp only); (exact ⟨H449.out.cell 5 rfl 0 rfl, H449.out.cell 5 rfl 1 rfl, H449.out.cell 5 rfl 2 rfl, H449.out.cell 5 rfl 3 rfl⟩))
         clear hK K hHeld
         try simp only [Act.put, List.getElem_toArray, List.getElem_cons_zero, List.getElem_cons_succ, List.setIfInBounds_toArray, List.set_cons_zero, List.set_cons_succ]
         clear hD448
         generalize (w446.alloc (.cells #[.int .i64 0, .int .i64 0] 38)) = k450 at *
         have hHeld := hHeld2
         clear hHeld2
         refine wpAnyH_take (i := 19) (oi := _) (v := ?_) rfl (by kernel_rfl) (by kernel_rfl) (by kernel_rfl) (fun _ _ _ h => h) (Or.inl ⟨by rfl, ?_⟩) (by assumption) ?_
         rotate_left
         focus (intro wS hSw; (try dsimp only at hSw); go_simp; (try with_reducible rfl))
         try simp only [Act.put, List.getElem_toArray, List.getElem_cons_zero, List.getElem_cons_succ, List.setIfInBounds_toArray, List.set_cons_zero, List.set_cons_succ]
         refine wpAnyH_ready (rs := [20]) (by kernel_rfl) (by simp) (AllReadyH.cons (o := _) rfl (fun K hK => ?_) AllReadyH.nil)
         have z451 := H449.out.cell 0 rfl 0 rfl
         have z452 := H449.out.free 0 rfl 0
         have z453 := H449.out.cell 0 rfl 1 rfl
         have z454 := H449.out.free 0 rfl 1
         have H455 := hid (show St B W [.cells D448 #[.int .i64 e439_0, .int .i64 e439_1] 38, .cells D436 #[.int .i64 0, .int .i64 0, .int .i64 0, .int .i64 0] 33, .own (.slice wv30a wl31.length wv30c) wl31, .cells D21 #[.int .i64 1, .int .i64 3, .int .i64 2] 3, .cells D15 #[.int .i64 1, .int .i64 3, .int .i64 2, .int .i64 5, .int .i64 9] 3, .cells D12 #[.int .i64 pw9, .int .i64 ph9, .int .i64 pm9, .slice pv9a ps9.length pv9c] 35, .own (.slice pv9a ps9.length pv9c) ps9, .tape K3, .cells B #[.int .i64 r0, .int .i64 r1, .int .i64 r2, .int .i64 r3] 33] [] ((k450.setCell ⟨D448, 0, none⟩ (.int .i64 e439_0)).setCell ⟨D448, 1, none⟩ (.int .i64 e439_1)) from ((H449.out.set 0 rfl 0 (.int .i64 e439_0)).set 0 rfl 1 (.int .i64 e439_1)))
         go_simp
         refine hK.out _ _ ?_ (fun hHeld2 => ?_)
         focus ((try dsimp only); (exact ⟨H455.out.cell 5 rfl 0 rfl, H455.out.cell 5 rfl 1 rfl, H455.out.cell 5 rfl 2 rfl, H455.out.cell 5 rfl 3 rfl⟩))
         clear hK K hHeld
         try simp only [Act.put, List.getElem_toArray, List.getElem_cons_zero, List.getElem_cons_succ, List.setIfInBounds_toArray, List.set_cons_zero, List.set_cons_succ]
         clear z451 z452 z453 z454
         generalize ((k450.setCell ⟨D448, 0, none⟩ (.int .i64 e439_0)).setCell ⟨D448, 1, none⟩ (.int .i64 e439_1)) = k456 at *
         have hHeld := hHeld2
         clear hHeld2
         refine wpAnyH_take (i := 21) (oi := _) (v := ?_) rfl (by kernel_rfl) (by kernel_rfl) (by kernel_rfl) (fun _ _ _ h => h) (Or.inl ⟨by rfl, ?_⟩) (by assumption) ?_
         rotate_left
         focus (intro wS hSw; (try dsimp only at hSw); go_simp; (try with_reducible rfl))
         try simp only [Act.put, List.getElem_toArray, List.getElem_cons_zero, List.getElem_cons_succ, List.setIfInBounds_toArray, List.set_cons_zero, List.set_cons_succ]
         refine wpAnyH_ready (rs := [22]) (by kernel_rfl) (by simp) (AllReadyH.cons (o := _) rfl (fun K hK => ?_) AllReadyH.nil)
         have z457 := H455.out.cell 1 rfl 0 rfl
         have z458 := H455.out.free 1 rfl 0
         have z459 := H455.out.cell 1 rfl 1 rfl
         have z460 := H455.out.free 1 rfl 1
         have z461 := H455.out.cell 1 rfl 2 rfl
         have z462 := H455.out.free 1 rfl 2
         have z463 := H455.out.cell 1 rfl 3 rfl
         have z464 := H455.out.free 1 rfl 3
         have H465 := hid (show St B W [.cells D448 #[.int .i64 e439_0, .int .i64 e439_1] 38, .cells D436 #[.int .i64 q445_0, .int .i64 q445_1, .int .i64 q445_2, .int .i64 q445_3] 33, .own (.slice wv30a wl31.length wv30c) wl31, .cells D21 #[.int .i64 1, .int .i64 3, .int .i64 2] 3, .cells D15 #[.int .i64 1, .int .i64 3, .int .i64 2, .int .i64 5, .int .i64 9] 3, .cells D12 #[.int .i64 pw9, .int .i64 ph9, .int .i64 pm9, .slice pv9a ps9.length pv9c] 35, .own (.slice pv9a ps9.length pv9c) ps9, .tape K3, .cells B #[.int .i64 r0, .int .i64 r1, .int .i64 r2, .int .i64 r3] 33] [] ((((k456.setCell ⟨D436, 0, none⟩ (.int .i64 q445_0)).setCell ⟨D436, 1, none⟩ (.int .i64 q445_1)).setCell ⟨D436, 2, none⟩ (.int .i64 q445_2)).setCell ⟨D436, 3, none⟩ (.int .i64 q445_3)) from (H455.out.set4 1 rfl (.int .i64 q445_0) (.int .i64 q445_1) (.int .i64 q445_2) (.int .i64 q445_3)))
         go_simp
         refine hK.out _ _ ?_ (fun hHeld2 => ?_)
         focus ((try dsimp only); (exact ⟨H465.out.cell 5 rfl 0 rfl, H465.out.cell 5 rfl 1 rfl, H465.out.cell 5 rfl 2 rfl, H465.out.cell 5 rfl 3 rfl⟩))
         clear hK K hHeld
         try simp only [Act.put, List.getElem_toArray, List.getElem_cons_zero, List.getElem_cons_succ, List.setIfInBounds_toArray, List.set_cons_zero, List.set_cons_succ]
         clear z457 z458 z459 z460 z461 z462 z463 z464
         generalize ((((k456.setCell ⟨D436, 0, none⟩ (.int .i64 q445_0)).setCell ⟨D436, 1, none⟩ (.int .i64 q445_1)).setCell ⟨D436, 2, none⟩ (.int .i64 q445_2)).setCell ⟨D436, 3, none⟩ (.int .i64 q445_3)) = k466 at *
         have hHeld := hHeld2
         clear hHeld2
         refine wpAnyH_done (by kernel_rfl) ?_ _
         try clear hHeld
         go_wp2_with fail
         go_meet
         exact ⟨D448, D436, _, _, _, _, _, _, _, _, _, _, rfl, rfl, rfl, rfl, H465.out.pick [2, 0, 1, 3, 4, 5, 6, 7, 8] rfl (by decide)⟩
        ·obtain ⟨D467, hD467⟩ : ∃ D, w443.heap.size = D := ⟨_, rfl⟩
         have H468 := hid (H444.out.alloc #[.int .i64 0, .int .i64 0] 38 hD467)
         go_simp
         refine hK.out _ _ ?_ (fun hHeld2 => ?_)
         focus ((try dsimp only); (exact ⟨H468.out.cell 5 rfl 0 rfl, H468.out.cell 5 rfl 1 rfl, H468.out.cell 5 rfl 2 rfl, H468.out.cell 5 rfl 3 rfl⟩))
         clear hK K hHeld
         try simp only [Act.put, List.getElem_toArray, List.getElem_cons_zero, List.getElem_cons_succ, List.setIfInBounds_toArray, List.set_cons_zero, List.set_cons_succ]
         clear hD467
         generalize (w443.alloc (.cells #[.int .i64 0, .int .i64 0] 38)) = k469 at *
         have hHeld := hHeld2
         clear hHeld2
         refine wpAnyH_ready (rs := [16]) (by kernel_rfl) (by simp) (AllReadyH.cons (o := _) rfl (fun K hK => ?_) AllReadyH.nil)
         go_simp
         go_at_call 26
         refine (within_any B K3 _ _ _ (by omega) (by omega) (by omega) (by omega) (H468.out.tapeAt 7 rfl)).mono ?_
         rintro e w471 ⟨q470_0, q470_1, q470_2, q470_3, rfl, hq470, ht, hg⟩
         have H472 := hid (H468.out.next 7 rfl ht hg)
         have HWq470 := hid hq470
         clear hq470 ht hg
         refine hK.out _ _ ?_ (fun hHeld2 => ?_)
         focus ((try dsimp only); (exact ⟨H472.out.cell 5 rfl 0 rfl, H472.out.cell 5 rfl 1 rfl, H472.out.cell 5 rfl 2 rfl, H472.out.cell 5 rfl 3 rfl⟩))
         clear hK K
         try simp only [Act.put, List.getElem_toArray, List.getElem_cons_zero, List.getElem_cons_succ, List.setIfInBounds_toArray, List.set_cons_zero, List.set_cons_succ]
         clear hHeld
         have hHeld := hHeld2
         clear hHeld2
         refine wpAnyH_take (i := 19) (oi := _) (v := ?_) rfl (by kernel_rfl) (by kernel_rfl) (by kernel_rfl) (fun _ _ _ h => h) (Or.inl ⟨by rfl, ?_⟩) (by assumption) ?_
         rotate_left
         focus (intro wS hSw; (try dsimp only at hSw); go_simp; (try with_reducible rfl))
         try simp only [Act.put, List.getElem_toArray, List.getElem_cons_zero, List.getElem_cons_succ, List.setIfInBounds_toArray, List.set_cons_zero, List.set_cons_succ]
         refine wpAnyH_ready (rs := [20]) (by kernel_rfl) (by simp) (AllReadyH.cons (o := _) rfl (fun K hK => ?_) AllReadyH.nil)
         have z473 := H472.out.cell 0 rfl 0 rfl
         have z474 := H472.out.free 0 rfl 0
         have z475 := H472.out.cell 0 rfl 1 rfl
         have z476 := H472.out.free 0 rfl 1
         have H477 := hid (show St B W [.cells D467 #[.int .i64 e439_0, .int .i64 e439_1] 38, .cells D436 #[.int .i64 0, .int .i64 0, .int .i64 0, .int .i64 0] 33, .own (.slice wv30a wl31.length wv30c) wl31, .cells D21 #[.int .i64 1, .int .i64 3, .int .i64 2] 3, .cells D15 #[.int .i64 1, .int .i64 3, .int .i64 2, .int .i64 5, .int .i64 9] 3, .cells D12 #[.int .i64 pw9, .int .i64 ph9, .int .i64 pm9, .slice pv9a ps9.length pv9c] 35, .own (.slice pv9a ps9.length pv9c) ps9, .tape K3, .cells B #[.int .i64 r0, .int .i64 r1, .int .i64 r2, .int .i64 r3] 33] [] ((w471.setCell ⟨D467, 0, none⟩ (.int .i64 e439_0)).setCell ⟨D467, 1, none⟩ (.int .i64 e439_1)) from ((H472.out.set 0 rfl 0 (.int .i64 e439_0)).set 0 rfl 1 (.int .i64 e439_1)))
         go_simp
         refine hK.out _ _ ?_ (fun hHeld2 => ?_)
         focus ((try dsimp only); (exact ⟨H477.out.cell 5 rfl 0 rfl, H477.out.cell 5 rfl 1 rfl, H477.out.cell 5 rfl 2 rfl, H477.out.cell 5 rfl 3 rfl⟩))
         clear hK K hHeld
         try simp only [Act.put, List.getElem_toArray, List.getElem_cons_zero, List.getElem_cons_succ, List.setIfInBounds_toArray, List.set_cons_zero, List.set_cons_succ]
         clear z473 z474 z475 z476
         generalize ((w471.setCell ⟨D467, 0, none⟩ (.int .i64 e439_0)).setCell ⟨D467, 1, none⟩ (.int .i64 e439_1)) = k478 at *
         have hHeld := hHeld2
         clear hHeld2
         refine wpAnyH_take (i := 21) (oi := _) (v := ?_) rfl (by kernel_rfl) (by kernel_rfl) (by kernel_rfl) (fun _ _ _ h => h) (Or.inl ⟨by rfl, ?_⟩) (by assumption) ?_
         rotate_left
         focus (intro wS hSw; (try dsimp only at hSw); go_simp; (try with_reducible rfl))
         try simp only [Act.put, List.getElem_toArray, List.getElem_cons_zero, List.getElem_cons_succ, List.setIfInBounds_toArray, List.set_cons_zero, List.set_cons_succ]
         refine wpAnyH_ready (rs := [22]) (by kernel_rfl) (by simp) (AllReadyH.cons (o := _) rfl (fun K hK => ?_) AllReadyH.nil)
         have z479 := H477.out.cell 1 rfl 0 rfl
         have z480 := H477.out.free 1 rfl 0
         have z481 := H477.out.cell 1 rfl 1 rfl
         have z482 := H477.out.free 1 rfl 1
         have z483 := H477.out.cell 1 rfl 2 rfl
         have z484 := H477.out.free 1 rfl 2
         have z485 := H477.out.cell 1 rfl 3 rfl
         have z486 := H477.out.free 1 rfl 3
         have H487 := hid (show St B W [.cells D467 #[.int .i64 e439_0, .int .i64 e439_1] 38, .cells D436 #[.int .i64 q470_0, .int .i64 q470_1, .int .i64 q470_2, .int .i64 q470_3] 33, .own (.slice wv30a wl31.length wv30c) wl31, .cells D21 #[.int .i64 1, .int .i64 3, .int .i64 2] 3, .cells D15 #[.int .i64 1, .int .i64 3, .int .i64 2, .int .i64 5, .int .i64 9] 3, .cells D12 #[.int .i64 pw9, .int .i64 ph9, .int .i64 pm9, .slice pv9a ps9.length pv9c] 35, .own (.slice pv9a ps9.length pv9c) ps9, .tape K3, .cells B #[.int .i64 r0, .int .i64 r1, .int .i64 r2, .int .i64 r3] 33] [] ((((k478.setCell ⟨D436, 0, none⟩ (.int .i64 q470_0)).setCell ⟨D436, 1, none⟩ (.int .i64 q470_1)).setCell ⟨D436, 2, none⟩ (.int .i64 q470_2)).setCell ⟨D436, 3, none⟩ (.int .i64 q470_3)) from (H477.out.set4 1 rfl (.int .i64 q470_0) (.int .i64 q470_1) (.int .i64 q470_2) (.int .i64 q470_3)))
         go_simp
         refine hK.out _ _ ?_ (fun hHeld2 => ?_)
         focus ((try dsimp only); (exact ⟨H487.out.cell 5 rfl 0 rfl, H487.out.cell 5 rfl 1 rfl, H487.out.cell 5 rfl 2 rfl, H487.out.cell 5 rfl 3 rfl⟩))
         clear hK K hHeld
         try simp only [Act.put, List.getElem_toArray, List.getElem_cons_zero, List.getElem_cons_succ, List.setIfInBounds_toArray, List.set_cons_zero, List.set_cons_succ]
         clear z479 z480 z481 z482 z483 z484 z485 z486
         generalize ((((k478.setCell ⟨D436, 0, none⟩ (.int .i64 q470_0)).setCell ⟨D436, 1, none⟩ (.int .i64 q470_1)).setCell ⟨D436, 2, none⟩ (.int .i64 q470_2)).setCell ⟨D436, 3, none⟩ (.int .i64 q470_3)) = k488 at *
         have hHeld := hHeld2
         clear hHeld2
         refine wpAnyH_done (by kernel_rfl) ?_ _
         try clear hHeld
         go_wp2_with fail
         go_meet
         exact ⟨D467, D436, _, _, _, _, _, _, _, _, _, _, rfl, rfl, rfl, rfl, H487.out.pick [2, 0, 1, 3, 4, 5, 6, 7, 8] rfl (by decide)⟩
       ·obtain ⟨D489, hD489⟩ : ∃ D, w440.heap.size = D := ⟨_, rfl⟩
        have H490 := hid (H441.out.alloc #[.int .i64 0, .int .i64 0] 38 hD489)
        go_simp
        refine hK.out _ _ ?_ (fun hHeld2 => ?_)
        focus ((try dsimp only); (exact ⟨H490.out.cell 5 rfl 0 rfl, H490.out.cell 5 rfl 1 rfl, H490.out.cell 5 rfl 2 rfl, H490.out.cell 5 rfl 3 rfl⟩))
        clear hK K hHeld
        try simp only [Act.put, List.getElem_toArray, List.getElem_cons_zero, List.getElem_cons_succ, List.setIfInBounds_toArray, List.set_cons_zero, List.set_cons_succ]
        clear hD489
        generalize (w440.alloc (.cells #[.int .i64 0, .int .i64 0] 38)) = k491 at *
        have hHeld := hHeld2
        clear hHeld2
        refine wpAnyH_ready (rs := [10]) (by kernel_rfl) (by simp) (AllReadyH.cons (o := _) rfl (fun K hK => ?_) AllReadyH.nil)
        go_simp
        go_at_call 18
        refine (nextB_any B K3 _ _ (by omega) (H490.out.tapeAt 7 rfl)).mono ?_
        rintro e w493 ⟨x492, rfl, x492a, x492b, htn, hgn, hsn⟩
        have H494 := hid (H490.out.next 7 rfl htn hgn)
        clear htn hgn hsn
        refine hK.out _ _ ?_ (fun hHeld2 => ?_)
        focus ((try dsimp only); (exact ⟨H494.out.cell 5 rfl 0 rfl, H494.out.cell 5 rfl 1 rfl, H494.out.cell 5 rfl 2 rfl, H494.out.cell 5 rfl 3 rfl⟩))
        clear hK K
        try simp only [Act.put, List.getElem_toArray, List.getElem_cons_zero, List.getElem_cons_succ, List.setIfInBounds_toArray, List.set_cons_zero, List.set_cons_succ]
        clear hHeld
        have hHeld := hHeld2
        clear hHeld2
        refine wpAnyH_ready (rs := [16]) (by kernel_rfl) (by simp) (AllReadyH.cons (o := _) rfl (fun K hK => ?_) AllReadyH.nil)
        go_simp
        go_at_call 26
        refine (within_any B K3 _ _ _ (by omega) (by omega) (by omega) (by omega) (H494.out.tapeAt 7 rfl)).mono ?_
        rintro e w496 ⟨q495_0, q495_1, q495_2, q495_3, rfl, hq495, ht, hg⟩
        have H497 := hid (H494.out.next 7 rfl ht hg)
        have HWq495 := hid hq495
        clear hq495 ht hg
        refine hK.out _ _ ?_ (fun hHeld2 => ?_)
        focus ((try dsimp only); (exact ⟨H497.out.cell 5 rfl 0 rfl, H497.out.cell 5 rfl 1 rfl, H497.out.cell 5 rfl 2 rfl, H497.out.cell 5 rfl 3 rfl⟩))
        clear hK K
        try simp only [Act.put, List.getElem_toArray, List.getElem_cons_zero, List.getElem_cons_succ, List.setIfInBounds_toArray, List.set_cons_zero, List.set_cons_succ]
        clear hHeld
        have hHeld := hHeld2
        clear hHeld2
        refine wpAnyH_take (i := 19) (oi := _) (v := ?_) rfl (by kernel_rfl) (by kernel_rfl) (by kernel_rfl) (fun _ _ _ h => h) (Or.inl ⟨by rfl, ?_⟩) (by assumption) ?_
        rotate_left
        focus (intro wS hSw; (try dsimp only at hSw); go_simp; (try with_reducible rfl))
        try simp only [Act.put, List.getElem_toArray, List.getElem_cons_zero, List.getElem_cons_succ, List.setIfInBounds_toArray, List.set_cons_zero, List.set_cons_succ]
        refine wpAnyH_ready (rs := [20]) (by kernel_rfl) (by simp) (AllReadyH.cons (o := _) rfl (fun K hK => ?_) AllReadyH.nil)
        have z498 := H497.out.cell 0 rfl 0 rfl
        have z499 := H497.out.free 0 rfl 0
        have z500 := H497.out.cell 0 rfl 1 rfl
        have z501 := H497.out.free 0 rfl 1
        have H502 := hid (show St B W [.cells D489 #[.int .i64 e439_0, .int .i64 e439_1] 38, .cells D436 #[.int .i64 0, .int .i64 0, .int .i64 0, .int .i64 0] 33, .own (.slice wv30a wl31.length wv30c) wl31, .cells D21 #[.int .i64 1, .int .i64 3, .int .i64 2] 3, .cells D15 #[.int .i64 1, .int .i64 3, .int .i64 2, .int .i64 5, .int .i64 9] 3, .cells D12 #[.int .i64 pw9, .int .i64 ph9, .int .i64 pm9, .slice pv9a ps9.length pv9c] 35, .own (.slice pv9a ps9.length pv9c) ps9, .tape K3, .cells B #[.int .i64 r0, .int .i64 r1, .int .i64 r2, .int .i64 r3] 33] [] ((w496.setCell ⟨D489, 0, none⟩ (.int .i64 e439_0)).setCell ⟨D489, 1, none⟩ (.int .i64 e439_1)) from ((H497.out.set 0 rfl 0 (.int .i64 e439_0)).set 0 rfl 1 (.int .i64 e439_1)))
        go_simp
        refine hK.out _ _ ?_ (fun hHeld2 => ?_)
        focus ((try dsimp only); (exact ⟨H502.out.cell 5 rfl 0 rfl, H502.out.cell 5 rfl 1 rfl, H502.out.cell 5 rfl 2 rfl, H502.out.cell 5 rfl 3 rfl⟩))
        clear hK K hHeld
        try simp only [Act.put, List.getElem_toArray, List.getElem_cons_zero, List.getElem_cons_succ, List.setIfInBounds_toArray, List.set_cons_zero, List.set_cons_succ]
        clear z498 z499 z500 z501
        generalize ((w496.setCell ⟨D489, 0, none⟩ (.int .i64 e439_0)).setCell ⟨D489, 1, none⟩ (.int .i64 e439_1)) = k503 at *
        have hHeld := hHeld2
        clear hHeld2
        refine wpAnyH_take (i := 21) (oi := _) (v := ?_) rfl (by kernel_rfl) (by kernel_rfl) (by kernel_rfl) (fun _ _ _ h => h) (Or.inl ⟨by rfl, ?_⟩) (by assumption) ?_
        rotate_left
        focus (intro wS hSw; (try dsimp only at hSw); go_simp; (try with_reducible rfl))
        try simp only [Act.put, List.getElem_toArray, List.getElem_cons_zero, List.getElem_cons_succ, List.setIfInBounds_toArray, List.set_cons_zero, List.set_cons_succ]
        refine wpAnyH_ready (rs := [22]) (by kernel_rfl) (by simp) (AllReadyH.cons (o := _) rfl (fun K hK => ?_) AllReadyH.nil)
        have z504 := H502.out.cell 1 rfl 0 rfl
        have z505 := H502.out.free 1 rfl 0
        have z506 := H502.out.cell 1 rfl 1 rfl
        have z507 := H502.out.free 1 rfl 1
        have z508 := H502.out.cell 1 rfl 2 rfl
        have z509 := H502.out.free 1 rfl 2
        have z510 := H502.out.cell 1 rfl 3 rfl
        have z511 := H502.out.free 1 rfl 3
        have H512 := hid (show St B W [.cells D489 #[.int .i64 e439_0, .int .i64 e439_1] 38, .cells D436 #[.int .i64 q495_0, .int .i64 q495_1, .int .i64 q495_2, .int .i64 q495_3] 33, .own (.slice wv30a wl31.length wv30c) wl31, .cells D21 #[.int .i64 1, .int .i64 3, .int .i64 2] 3, .cells D15 #[.int .i64 1, .int .i64 3, .int .i64 2, .int .i64 5, .int .i64 9] 3, .cells D12 #[.int .i64 pw9, .int .i64 ph9, .int .i64 pm9, .slice pv9a ps9.length pv9c] 35, .own (.slice pv9a ps9.length pv9c) ps9, .tape K3, .cells B #[.int .i64 r0, .int .i64 r1, .int .i64 r2, .int .i64 r3] 33] [] ((((k503.setCell ⟨D436, 0, none⟩ (.int .i64 q495_0)).setCell ⟨D436, 1, none⟩ (.int .i64 q495_1)).setCell ⟨D436, 2, none⟩ (.int .i64 q495_2)).setCell ⟨D436, 3, none⟩ (.int .i64 q495_3)) from (H502.out.set4 1 rfl (.int .i64 q495_0) (.int .i64 q495_1) (.int .i64 q495_2) (.int .i64 q495_3)))
        go_simp
        refine hK.out _ _ ?_ (fun hHeld2 => ?_)
        focus ((try dsimp only); (exact ⟨H512.out.cell 5 rfl 0 rfl, H512.out.cell 5 rfl 1 rfl, H512.out.cell 5 rfl 2 rfl, H512.out.cell 5 rfl 3 rfl⟩))
        clear hK K hHeld
        try simp only [Act.put, List.getElem_toArray, List.getElem_cons_zero, List.getElem_cons_succ, List.setIfInBounds_toArray, List.set_cons_zero, List.set_cons_succ]
        clear z504 z505 z506 z507 z508 z509 z510 z511
        generalize ((((k503.setCell ⟨D436, 0, none⟩ (.int .i64 q495_0)).setCell ⟨D436, 1, none⟩ (.int .i64 q495_1)).setCell ⟨D436, 2, none⟩ (.int .i64 q495_2)).setCell ⟨D436, 3, none⟩ (.int .i64 q495_3)) = k513 at *
        have hHeld := hHeld2
        clear hHeld2
        refine wpAnyH_done (by kernel_rfl) ?_ _
        try clear hHeld
        go_wp2_with fail
        go_meet
        exact ⟨D489, D436, _, _, _, _, _, _, _, _, _, _, rfl, rfl, rfl, rfl, H512.out.pick [2, 0, 1, 3, 4, 5, 6, 7, 8] rfl (by decide)⟩
      ·obtain ⟨D514, hD514⟩ : ∃ D, k438.heap.size = D := ⟨_, rfl⟩
       have H515 := hid (H437.out.alloc #[.int .i64 0, .int .i64 0] 38 hD514)
       go_simp
       refine hK.out _ _ ?_ (fun hHeld2 => ?_)
       focus ((try dsimp only); (exact ⟨H515.out.cell 5 rfl 0 rfl, H515.out.cell 5 rfl 1 rfl, H515.out.cell 5 rfl 2 rfl, H515.out.cell 5 rfl 3 rfl⟩))
       clear hK K hHeld
       try simp only [Act.put, List.getElem_toArray, List.getElem_cons_zero, List.getElem_cons_succ, List.setIfInBounds_toArray, List.set_cons_zero, List.set_cons_succ]
       clear hD514
       generalize (k438.alloc (.cells #[.int .i64 0, .int .i64 0] 38)) = k516 at *
       have hHeld := hHeld2
       clear hHeld2
       refine wpAnyH_ready (rs := [8]) (by kernel_rfl) (by simp) (AllReadyH.cons (o := _) rfl (fun K hK => ?_) AllReadyH.nil)
       go_simp
       go_at_call 25
       refine (edge_any B K3 _ _ (H515.out.tapeAt 7 rfl)).mono ?_
       rintro e w518 ⟨e517_0, e517_1, rfl, ht, hg⟩
       have H519 := hid (H515.out.next 7 rfl ht hg)
       clear ht hg
       refine hK.out _ _ ?_ (fun hHeld2 => ?_)
       focus ((try dsimp only); (exact ⟨H519.out.cell 5 rfl 0 rfl, H519.out.cell 5 rfl 1 rfl, H519.out.cell 5 rfl 2 rfl, H519.out.cell 5 rfl 3 rfl⟩))
       clear hK K
       try simp only [Act.put, List.getElem_toArray, List.getElem_cons_zero, List.getElem_cons_succ, List.setIfInBounds_toArray, List.set_cons_zero, List.set_cons_succ]
       clear hHeld
       have hHeld := hHeld2
       clear hHeld2
       refine wpAnyH_ready (rs := [10]) (by kernel_rfl) (by simp) (AllReadyH.cons (o := _) rfl (fun K hK => ?_) AllReadyH.nil)
       go_simp
       go_at_call 18
       refine (nextB_any B K3 _ _ (by omega) (H519.out.tapeAt 7 rfl)).mono ?_
       rintro e w521 ⟨x520, rfl, x520a, x520b, htn, hgn, hsn⟩
       have H522 := hid (H519.out.next 7 rfl htn hgn)
       clear htn hgn hsn
       refine hK.out _ _ ?_ (fun hHeld2 => ?_)
       focus ((try dsimp only); (exact ⟨H522.out.cell 5 rfl 0 rfl, H522.out.cell 5 rfl 1 rfl, H522.out.cell 5 rfl 2 rfl, H522.out.cell 5 rfl 3 rfl⟩))
       clear hK K
       try simp only [Act.put, List.getElem_toArray, List.getElem_cons_zero, List.getElem_cons_succ, List.setIfInBounds_toArray, List.set_cons_zero, List.set_cons_succ]
       clear hHeld
       have hHeld := hHeld2
       clear hHeld2
       refine wpAnyH_ready (rs := [16]) (by kernel_rfl) (by simp) (AllReadyH.cons (o := _) rfl (fun K hK => ?_) AllReadyH.nil)
       go_simp
       go_at_call 26
       refine (within_any B K3 _ _ _ (by omega) (by omega) (by omega) (by omega) (H522.out.tapeAt 7 rfl)).mono ?_
       rintro e w524 ⟨q523_0, q523_1, q523_2, q523_3, rfl, hq523, ht, hg⟩
       have H525 := hid (H522.out.next 7 rfl ht hg)
       have HWq523 := hid hq523
       clear hq523 ht hg
       refine hK.out _ _ ?_ (fun hHeld2 => ?_)
       focus ((try dsimp only); (exact ⟨H525.out.cell 5 rfl 0 rfl, H525.out.cell 5 rfl 1 rfl, H525.out.cell 5 rfl 2 rfl, H525.out.cell 5 rfl 3 rfl⟩))
       clear hK K
       try simp only [Act.put, List.getElem_toArray, List.getElem_cons_zero, List.getElem_cons_succ, List.setIfInBounds_toArray, List.set_cons_zero, List.set_cons_succ]
       clear hHeld
       have hHeld := hHeld2
       clear hHeld2
       refine wpAnyH_take (i := 19) (oi := _) (v := ?_) rfl (by kernel_rfl) (by kernel_rfl) (by kernel_rfl) (fun _ _ _ h => h) (Or.inl ⟨by rfl, ?_⟩) (by assumption) ?_
       rotate_left
       focus (intro wS hSw; (try dsimp only at hSw); go_simp; (try with_reducible rfl))
       try simp only [Act.put, List.getElem_toArray, List.getElem_cons_zero, List.getElem_cons_succ, List.setIfInBounds_toArray, List.set_cons_zero, List.set_cons_succ]
       refine wpAnyH_ready (rs := [20]) (by kernel_rfl) (by simp) (AllReadyH.cons (o := _) rfl (fun K hK => ?_) AllReadyH.nil)
       have z526 := H525.out.cell 0 rfl 0 rfl
       have z527 := H525.out.free 0 rfl 0
       have z528 := H525.out.cell 0 rfl 1 rfl
       have z529 := H525.out.free 0 rfl 1
       have H530 := hid (show St B W [.cells D514 #[.int .i64 e517_0, .int .i64 e517_1] 38, .cells D436 #[.int .i64 0, .int .i64 0, .int .i64 0, .int .i64 0] 33, .own (.slice wv30a wl31.length wv30c) wl31, .cells D21 #[.int .i64 1, .int .i64 3, .int .i64 2] 3, .cells D15 #[.int .i64 1, .int .i64 3, .int .i64 2, .int .i64 5, .int .i64 9] 3, .cells D12 #[.int .i64 pw9, .int .i64 ph9, .int .i64 pm9, .slice pv9a ps9.length pv9c] 35, .own (.slice pv9a ps9.length pv9c) ps9, .tape K3, .cells B #[.int .i64 r0, .int .i64 r1, .int .i64 r2, .int .i64 r3] 33] [] ((w524.setCell ⟨D514, 0, none⟩ (.int .i64 e517_0)).setCell ⟨D514, 1, none⟩ (.int .i64 e517_1)) from ((H525.out.set 0 rfl 0 (.int .i64 e517_0)).set 0 rfl 1 (.int .i64 e517_1)))
       go_simp
       refine hK.out _ _ ?_ (fun hHeld2 => ?_)
       focus ((try dsimp only); (exact ⟨H530.out.cell 5 rfl 0 rfl, H530.out.cell 5 rfl 1 rfl, H530.out.cell 5 rfl 2 rfl, H530.out.cell 5 rfl 3 rfl⟩))
       clear hK K hHeld
       try simp only [Act.put, List.getElem_toArray, List.getElem_cons_zero, List.getElem_cons_succ, List.setIfInBounds_toArray, List.set_cons_zero, List.set_cons_succ]
       clear z526 z527 z528 z529
       generalize ((w524.setCell ⟨D514, 0, none⟩ (.int .i64 e517_0)).setCell ⟨D514, 1, none⟩ (.int .i64 e517_1)) = k531 at *
       have hHeld := hHeld2
       clear hHeld2
       refine wpAnyH_take (i := 21) (oi := _) (v := ?_) rfl (by kernel_rfl) (by kernel_rfl) (by kernel_rfl) (fun _ _ _ h => h) (Or.inl ⟨by rfl, ?_⟩) (by assumption) ?_
       rotate_left
       focus (intro wS hSw; (try dsimp only at hSw); go_simp; (try with_reducible rfl))
       try simp only [Act.put, List.getElem_toArray, List.getElem_cons_zero, List.getElem_cons_succ, List.setIfInBounds_toArray, List.set_cons_zero, List.set_cons_succ]
       refine wpAnyH_ready (rs := [22]) (by kernel_rfl) (by simp) (AllReadyH.cons (o := _) rfl (fun K hK => ?_) AllReadyH.nil)
       have z532 := H530.out.cell 1 rfl 0 rfl
       have z533 := H530.out.free 1 rfl 0
       have z534 := H530.out.cell 1 rfl 1 rfl
       have z535 := H530.out.free 1 rfl 1
       have z536 := H530.out.cell 1 rfl 2 rfl
       have z537 := H530.out.free 1 rfl 2
       have z538 := H530.out.cell 1 rfl 3 rfl
       have z539 := H530.out.free 1 rfl 3
       have H540 := hid (show St B W [.cells D514 #[.int .i64 e517_0, .int .i64 e517_1] 38, .cells D436 #[.int .i64 q523_0, .int .i64 q523_1, .int .i64 q523_2, .int .i64 q523_3] 33, .own (.slice wv30a wl31.length wv30c) wl31, .cells D21 #[.int .i64 1, .int .i64 3, .int .i64 2] 3, .cells D15 #[.int .i64 1, .int .i64 3, .int .i64 2, .int .i64 5, .int .i64 9] 3, .cells D12 #[.int .i64 pw9, .int .i64 ph9, .int .i64 pm9, .slice pv9a ps9.length pv9c] 35, .own (.slice pv9a ps9.length pv9c) ps9, .tape K3, .cells B #[.int .i64 r0, .int .i64 r1, .int .i64 r2, .int .i64 r3] 33] [] ((((k531.setCell ⟨D436, 0, none⟩ (.int .i64 q523_0)).setCell ⟨D436, 1, none⟩ (.int .i64 q523_1)).setCell ⟨D436, 2, none⟩ (.int .i64 q523_2)).setCell ⟨D436, 3, none⟩ (.int .i64 q523_3)) from (H530.out.set4 1 rfl (.int .i64 q523_0) (.int .i64 q523_1) (.int .i64 q523_2) (.int .i64 q523_3)))
       go_simp
       refine hK.out _ _ ?_ (fun hHeld2 => ?_)
       focus ((try dsimp only); (exact ⟨H540.out.cell 5 rfl 0 rfl, H540.out.cell 5 rfl 1 rfl, H540.out.cell 5 rfl 2 rfl, H540.out.cell 5 rfl 3 rfl⟩))
       clear hK K hHeld
       try simp only [Act.put, List.getElem_toArray, List.getElem_cons_zero, List.getElem_cons_succ, List.setIfInBounds_toArray, List.set_cons_zero, List.set_cons_succ]
       clear z532 z533 z534 z535 z536 z537 z538 z539
       generalize ((((k531.setCell ⟨D436, 0, none⟩ (.int .i64 q523_0)).setCell ⟨D436, 1, none⟩ (.int .i64 q523_1)).setCell ⟨D436, 2, none⟩ (.int .i64 q523_2)).setCell ⟨D436, 3, none⟩ (.int .i64 q523_3)) = k541 at *
       have hHeld := hHeld2
       clear hHeld2
       refine wpAnyH_done (by kernel_rfl) ?_ _
       try clear hHeld
       go_wp2_with fail
       go_meet
       exact ⟨D514, D436, _, _, _, _, _, _, _, _, _, _, rfl, rfl, rfl, rfl, H540.out.pick [2, 0, 1, 3, 4, 5, 6, 7, 8] rfl (by decide)⟩
    ·obtain ⟨D542, hD542⟩ : ∃ D, k28.heap.size = D := ⟨_, rfl⟩
     have H543 := hid (H27.out.alloc #[.int .i64 0, .int .i64 0] 38 hD542)
     go_simp
     refine hK.out _ _ ?_ (fun hHeld2 => ?_)
     focus ((try dsimp only); (exact ⟨H543.out.cell 3 rfl 0 rfl, H543.out.cell 3 rfl 1 rfl, H543.out.cell 3 rfl 2 rfl, H543.out.cell 3 rfl 3 rfl⟩))
     clear hK K hHeld
     try simp only [Act.put, List.getElem_toArray, List.getElem_cons_zero, List.getElem_cons_succ, List.setIfInBounds_toArray, List.set_cons_zero, List.set_cons_succ]
     clear hD542
     generalize (k28.alloc (.cells #[.int .i64 0, .int .i64 0] 38)) = k544 at *
     have hHeld := hHeld2
     clear hHeld2
     refine wpAnyH_ready (rs := [4, 18]) (by kernel_rfl) (by simp) (AllReadyH.cons (o := _) rfl (fun K hK => ?_) (AllReadyH.cons (o := _) rfl (fun K hK => ?_) AllReadyH.nil))
     ·go_simp
      go_at_call 19
      refine (weights_any B K3 _ _ (by omega) (H543.out.tapeAt 5 rfl)).mono ?_
      rintro e w545 ⟨wv546, wl547, rfl, hlen, hin, ho, ht, hg⟩
      have H548 := hid (H543.out.add (H543.out.next 5 rfl ht hg) ho)
      have HWLwl547 := hid hlen
      have HWBwl547 := hid hin
      obtain ⟨wv546a, wv546c, rfl, _⟩ := ho.slc
      clear hlen hin ho ht hg
      refine hK.out _ _ ?_ (fun hHeld2 => ?_)
      focus ((try dsimp only); (exact ⟨H548.out.cell 4 rfl 0 rfl, H548.out.cell 4 rfl 1 rfl, H548.out.cell 4 rfl 2 rfl, H548.out.cell 4 rfl 3 rfl⟩))
      clear hK K
      try simp only [Act.put, List.getElem_toArray, List.getElem_cons_zero, List.getElem_cons_succ, List.setIfInBounds_toArray, List.set_cons_zero, List.set_cons_succ]
      clear hHeld
      have hHeld := hHeld2
      clear hHeld2
      refine wpAnyH_ready (rs := [8, 18]) (by kernel_rfl) (by simp) (AllReadyH.cons (o := _) rfl (fun K hK => ?_) (AllReadyH.cons (o := _) rfl (fun K hK => ?_) AllReadyH.nil))
      ·go_simp
       go_at_call 25
       refine (edge_any B K3 _ _ (H548.out.tapeAt 6 rfl)).mono ?_
       rintro e w550 ⟨e549_0, e549_1, rfl, ht, hg⟩
       have H551 := hid (H548.out.next 6 rfl ht hg)
       clear ht hg
       refine hK.out _ _ ?_ (fun hHeld2 => ?_)
       focus ((try dsimp only); (exact ⟨H551.out.cell 4 rfl 0 rfl, H551.out.cell 4 rfl 1 rfl, H551.out.cell 4 rfl 2 rfl, H551.out.cell 4 rfl 3 rfl⟩))
       clear hK K
       try simp only [Act.put, List.getElem_toArray, List.getElem_cons_zero, List.getElem_cons_succ, List.setIfInBounds_toArray, List.set_cons_zero, List.set_cons_succ]
       clear hHeld
       have hHeld := hHeld2
       clear hHeld2
       refine wpAnyH_ready (rs := [10, 18]) (by kernel_rfl) (by simp) (AllReadyH.cons (o := _) rfl (fun K hK => ?_) (AllReadyH.cons (o := _) rfl (fun K hK => ?_) AllReadyH.nil))
       ·go_simp
        go_at_call 18
        refine (nextB_any B K3 _ _ (by omega) (H551.out.tapeAt 6 rfl)).mono ?_
        rintro e w553 ⟨x552, rfl, x552a, x552b, htn, hgn, hsn⟩
        have H554 := hid (H551.out.next 6 rfl htn hgn)
        clear htn hgn hsn
        refine hK.out _ _ ?_ (fun hHeld2 => ?_)
        focus ((try dsimp only); (exact ⟨H554.out.cell 4 rfl 0 rfl, H554.out.cell 4 rfl 1 rfl, H554.out.cell 4 rfl 2 rfl, H554.out.cell 4 rfl 3 rfl⟩))
        clear hK K
        try simp only [Act.put, List.getElem_toArray, List.getElem_cons_zero, List.getElem_cons_succ, List.setIfInBounds_toArray, List.set_cons_zero, List.set_cons_succ]
        clear hHeld
        have hHeld := hHeld2
        clear hHeld2
        refine wpAnyH_ready (rs := [16, 18]) (by kernel_rfl) (by simp) (AllReadyH.cons (o := _) rfl (fun K hK => ?_) (AllReadyH.cons (o := _) rfl (fun K hK => ?_) AllReadyH.nil))
        ·go_simp
         go_at_call 26
         refine (within_any B K3 _ _ _ (by omega) (by omega) (by omega) (by omega) (H554.out.tapeAt 6 rfl)).mono ?_
         rintro e w556 ⟨q555_0, q555_1, q555_2, q555_3, rfl, hq555, ht, hg⟩
         have H557 := hid (H554.out.next 6 rfl ht hg)
         have HWq555 := hid hq555
         clear hq555 ht hg
         refine hK.out _ _ ?_ (fun hHeld2 => ?_)
         focus ((try dsimp only); (exact ⟨H557.out.cell 4 rfl 0 rfl, H557.out.cell 4 rfl 1 rfl, H557.out.cell 4 rfl 2 rfl, H557.out.cell 4 rfl 3 rfl⟩))
         clear hK K
         try simp only [Act.put, List.getElem_toArray, List.getElem_cons_zero, List.getElem_cons_succ, List.setIfInBounds_toArray, List.set_cons_zero, List.set_cons_succ]
         clear hHeld
         have hHeld := hHeld2
         clear hHeld2
         refine wpAnyH_ready (rs := [18]) (by kernel_rfl) (by simp) (AllReadyH.cons (o := _) rfl (fun K hK => ?_) AllReadyH.nil)
         obtain ⟨D558, hD558⟩ : ∃ D, w556.heap.size = D := ⟨_, rfl⟩
         have H559 := hid (H557.out.alloc #[.int .i64 0, .int .i64 0, .int .i64 0, .int .i64 0] 33 hD558)
         go_simp
         refine hK.out _ _ ?_ (fun hHeld2 => ?_)
         focus ((try dsimp only); (exact ⟨H559.out.cell 5 rfl 0 rfl, H559.out.cell 5 rfl 1 rfl, H559.out.cell 5 rfl 2 rfl, H559.out.cell 5 rfl 3 rfl⟩))
         clear hK K hHeld
         try simp only [Act.put, List.getElem_toArray, List.getElem_cons_zero, List.getElem_cons_succ, List.setIfInBounds_toArray, List.set_cons_zero, List.set_cons_succ]
         clear hD558
         generalize (w556.alloc (.cells #[.int .i64 0, .int .i64 0, .int .i64 0, .int .i64 0] 33)) = k560 at *
         have hHeld := hHeld2
         clear hHeld2
         refine wpAnyH_take (i := 19) (oi := _) (v := ?_) rfl (by kernel_rfl) (by kernel_rfl) (by kernel_rfl) (fun _ _ _ h => h) (Or.inl ⟨by rfl, ?_⟩) (by assumption) ?_
         rotate_left
         focus (intro wS hSw; (try dsimp only at hSw); go_simp; (try with_reducible rfl))
         try simp only [Act.put, List.getElem_toArray, List.getElem_cons_zero, List.getElem_cons_succ, List.setIfInBounds_toArray, List.set_cons_zero, List.set_cons_succ]
         refine wpAnyH_ready (rs := [20]) (by kernel_rfl) (by simp) (AllReadyH.cons (o := _) rfl (fun K hK => ?_) AllReadyH.nil)
         have z561 := H559.out.cell 2 rfl 0 rfl
         have z562 := H559.out.free 2 rfl 0
         have z563 := H559.out.cell 2 rfl 1 rfl
         have z564 := H559.out.free 2 rfl 1
         have H565 := hid (show St B W [.cells D558 #[.int .i64 0, .int .i64 0, .int .i64 0, .int .i64 0] 33, .own (.slice wv546a wl547.length wv546c) wl547, .cells D542 #[.int .i64 e549_0, .int .i64 e549_1] 38, .cells D21 #[.int .i64 1, .int .i64 3, .int .i64 2] 3, .cells D15 #[.int .i64 1, .int .i64 3, .int .i64 2, .int .i64 5, .int .i64 9] 3, .cells D12 #[.int .i64 pw9, .int .i64 ph9, .int .i64 pm9, .slice pv9a ps9.length pv9c] 35, .own (.slice pv9a ps9.length pv9c) ps9, .tape K3, .cells B #[.int .i64 r0, .int .i64 r1, .int .i64 r2, .int .i64 r3] 33] [] ((k560.setCell ⟨D542, 0, none⟩ (.int .i64 e549_0)).setCell ⟨D542, 1, none⟩ (.int .i64 e549_1)) from ((H559.out.set 2 rfl 0 (.int .i64 e549_0)).set 2 rfl 1 (.int .i64 e549_1)))
         go_simp
         refine hK.out _ _ ?_ (fun hHeld2 => ?_)
         focus ((try dsimp only); (exact ⟨H565.out.cell 5 rfl 0 rfl, H565.out.cell 5 rfl 1 rfl, H565.out.cell 5 rfl 2 rfl, H565.out.cell 5 rfl 3 rfl⟩))
         clear hK K hHeld
         try simp only [Act.put, List.getElem_toArray, List.getElem_cons_zero, List.getElem_cons_succ, List.setIfInBounds_toArray, List.set_cons_zero, List.set_cons_succ]
         clear z561 z562 z563 z564
         generalize ((k560.setCell ⟨D542, 0, none⟩ (.int .i64 e549_0)).setCell ⟨D542, 1, none⟩ (.int .i64 e549_1)) = k566 at *
         have hHeld := hHeld2
         clear hHeld2
         refine wpAnyH_take (i := 21) (oi := _) (v := ?_) rfl (by kernel_rfl) (by kernel_rfl) (by kernel_rfl) (fun _ _ _ h => h) (Or.inl ⟨by rfl, ?_⟩) (by assumption) ?_
         rotate_left
         focus (intro wS hSw; (try dsimp only at hSw); go_simp; (try with_reducible rfl))
         try simp only [Act.put, List.getElem_toArray, List.getElem_cons_zero, List.getElem_cons_succ, List.setIfInBounds_toArray, List.set_cons_zero, List.set_cons_succ]
         refine wpAnyH_ready (rs := [22]) (by kernel_rfl) (by simp) (AllReadyH.cons (o := _) rfl (fun K hK => ?_) AllReadyH.nil)
         have z567 := H565.out.cell 0 rfl 0 rfl
         have z568 := H565.out.free 0 rfl 0
         have z569 := H565.out.cell 0 rfl 1 rfl
         have z570 := H565.out.free 0 rfl 1
         have z571 := H565.out.cell 0 rfl 2 rfl
         have z572 := H565.out.free 0 rfl 2
         have z573 := H565.out.cell 0 rfl 3 rfl
         have z574 := H565.out.free 0 rfl 3
         have H575 := hid (show St B W [.cells D558 #[.int .i64 q555_0, .int .i64 q555_1, .int .i64 q555_2, .int .i64 q555_3] 33, .own (.slice wv546a wl547.length wv546c) wl547, .cells D542 #[.int .i64 e549_0, .int .i64 e549_1] 38, .cells D21 #[.int .i64 1, .int .i64 3, .int .i64 2] 3, .cells D15 #[.int .i64 1, .int .i64 3, .int .i64 2, .int .i64 5, .int .i64 9] 3, .cells D12 #[.int .i64 pw9, .int .i64 ph9, .int .i64 pm9, .slice pv9a ps9.length pv9c] 35, .own (.slice pv9a ps9.length pv9c) ps9, .tape K3, .cells B #[.int .i64 r0, .int .i64 r1, .int .i64 r2, .int .i64 r3] 33] [] ((((k566.setCell ⟨D558, 0, none⟩ (.int .i64 q555_0)).setCell ⟨D558, 1, none⟩ (.int .i64 q555_1)).setCell ⟨D558, 2, none⟩ (.int .i64 q555_2)).setCell ⟨D558, 3, none⟩ (.int .i64 q555_3)) from (H565.out.set4 0 rfl (.int .i64 q555_0) (.int .i64 q555_1) (.int .i64 q555_2) (.int .i64 q555_3)))
         go_simp
         refine hK.out _ _ ?_ (fun hHeld2 => ?_)
         focus ((try dsimp only); (exact ⟨H575.out.cell 5 rfl 0 rfl, H575.out.cell 5 rfl 1 rfl, H575.out.cell 5 rfl 2 rfl, H575.out.cell 5 rfl 3 rfl⟩))
         clear hK K hHeld
         try simp only [Act.put, List.getElem_toArray, List.getElem_cons_zero, List.getElem_cons_succ, List.setIfInBounds_toArray, List.set_cons_zero, List.set_cons_succ]
         clear z567 z568 z569 z570 z571 z572 z573 z574
         generalize ((((k566.setCell ⟨D558, 0, none⟩ (.int .i64 q555_0)).setCell ⟨D558, 1, none⟩ (.int .i64 q555_1)).setCell ⟨D558, 2, none⟩ (.int .i64 q555_2)).setCell ⟨D558, 3, none⟩ (.int .i64 q555_3)) = k576 at *
         have hHeld := hHeld2
         clear hHeld2
         refine wpAnyH_done (by kernel_rfl) ?_ _
         try clear hHeld
         go_wp2_with fail
         go_meet
         exact ⟨D542, D558, _, _, _, _, _, _, _, _, _, _, rfl, rfl, rfl, rfl, H575.out.pick [1, 2, 0, 3, 4, 5, 6, 7, 8] rfl (by decide)⟩
        ·obtain ⟨D577, hD577⟩ : ∃ D, w553.heap.size = D := ⟨_, rfl⟩
         have H578 := hid (H554.out.alloc #[.int .i64 0, .int .i64 0, .int .i64 0, .int .i64 0] 33 hD577)
         go_simp
         refine hK.out _ _ ?_ (fun hHeld2 => ?_)
         focus ((try dsimp only); (exact ⟨H578.out.cell 5 rfl 0 rfl, H578.out.cell 5 rfl 1 rfl, H578.out.cell 5 rfl 2 rfl, H578.out.cell 5 rfl 3 rfl⟩))
         clear hK K hHeld
         try simp only [Act.put, List.getElem_toArray, List.getElem_cons_zero, List.getElem_cons_succ, List.setIfInBounds_toArray, List.set_cons_zero, List.set_cons_succ]
         clear hD577
         generalize (w553.alloc (.cells #[.int .i64 0, .int .i64 0, .int .i64 0, .int .i64 0] 33)) = k579 at *
         have hHeld := hHeld2
         clear hHeld2
         refine wpAnyH_ready (rs := [16]) (by kernel_rfl) (by simp) (AllReadyH.cons (o := _) rfl (fun K hK => ?_) AllReadyH.nil)
         go_simp
         go_at_call 26
         refine (within_any B K3 _ _ _ (by omega) (by omega) (by omega) (by omega) (H578.out.tapeAt 7 rfl)).mono ?_
         rintro e w581 ⟨q580_0, q580_1, q580_2, q580_3, rfl, hq580, ht, hg⟩
         have H582 := hid (H578.out.next 7 rfl ht hg)
         have HWq580 := hid hq580
         clear hq580 ht hg
         refine hK.out _ _ ?_ (fun hHeld2 => ?_)
         focus ((try dsimp only); (exact ⟨H582.out.cell 5 rfl 0 rfl, H582.out.cell 5 rfl 1 rfl, H582.out.cell 5 rfl 2 rfl, H582.out.cell 5 rfl 3 rfl⟩))
         clear hK K
         try simp only [Act.put, List.getElem_toArray, List.getElem_cons_zero, List.getElem_cons_succ, List.setIfInBounds_toArray, List.set_cons_zero, List.set_cons_succ]
         clear hHeld
         have hHeld := hHeld2
         clear hHeld2
         refine wpAnyH_take (i := 19) (oi := _) (v := ?_) rfl (by kernel_rfl) (by kernel_rfl) (by kernel_rfl) (fun _ _ _ h => h) (Or.inl ⟨by rfl, ?_⟩) (by assumption) ?_
         rotate_left
         focus (intro wS hSw; (try dsimp only at hSw); go_simp; (try with_reducible rfl))
         try simp only [Act.put, List.getElem_toArray, List.getElem_cons_zero, List.getElem_cons_succ, List.setIfInBounds_toArray, List.set_cons_zero, List.set_cons_succ]
         refine wpAnyH_ready (rs := [20]) (by kernel_rfl) (by simp) (AllReadyH.cons (o := _) rfl (fun K hK => ?_) AllReadyH.nil)
         have z583 := H582.out.cell 2 rfl 0 rfl
         have z584 := H582.out.free 2 rfl 0
         have z585 := H582.out.cell 2 rfl 1 rfl
         have z586 := H582.out.free 2 rfl 1
         have H587 := hid (show St B W [.cells D577 #[.int .i64 0, .int .i64 0, .int .i64 0, .int .i64 0] 33, .own (.slice wv546a wl547.length wv546c) wl547, .cells D542 #[.int .i64 e549_0, .int .i64 e549_1] 38, .cells D21 #[.int .i64 1, .int .i64 3, .int .i64 2] 3, .cells D15 #[.int .i64 1, .int .i64 3, .int .i64 2, .int .i64 5, .int .i64 9] 3, .cells D12 #[.int .i64 pw9, .int .i64 ph9, .int .i64 pm9, .slice pv9a ps9.length pv9c] 35, .own (.slice pv9a ps9.length pv9c) ps9, .tape K3, .cells B #[.int .i64 r0, .int .i64 r1, .int .i64 r2, .int .i64 r3] 33] [] ((w581.setCell ⟨D542, 0, none⟩ (.int .i64 e549_0)).setCell ⟨D542, 1, none⟩ (.int .i64 e549_1)) from ((H582.out.set 2 rfl 0 (.int .i64 e549_0)).set 2 rfl 1 (.int .i64 e549_1)))
         go_simp
         refine hK.out _ _ ?_ (fun hHeld2 => ?_)
         focus ((try dsimp only); (exact ⟨H587.out.cell 5 rfl 0 rfl, H587.out.cell 5 rfl 1 rfl, H587.out.cell 5 rfl 2 rfl, H587.out.cell 5 rfl 3 rfl⟩))
         clear hK K hHeld
         try simp only [Act.put, List.getElem_toArray, List.getElem_cons_zero, List.getElem_cons_succ, List.setIfInBounds_toArray, List.set_cons_zero, List.set_cons_succ]
         clear z583 z584 z585 z586
         generalize ((w581.setCell ⟨D542, 0, none⟩ (.int .i64 e549_0)).setCell ⟨D542, 1, none⟩ (.int .i64 e549_1)) = k588 at *
         have hHeld := hHeld2
         clear hHeld2
         refine wpAnyH_take (i := 21) (oi := _) (v := ?_) rfl (by kernel_rfl) (by kernel_rfl) (by kernel_rfl) (fun _ _ _ h => h) (Or.inl ⟨by rfl, ?_⟩) (by assumption) ?_
         rotate_left
         focus (intro wS hSw; (try dsimp only at hSw); go_simp; (try with_reducible rfl))
         try simp only [Act.put, List.getElem_toArray, List.getElem_cons_zero, List.getElem_cons_succ, List.setIfInBounds_toArray, List.set_cons_zero, List.set_cons_succ]
         refine wpAnyH_ready (rs := [22]) (by kernel_rfl) (by simp) (AllReadyH.cons (o := _) rfl (fun K hK => ?_) AllReadyH.nil)
         have z589 := H587.out.cell 0 rfl 0 rfl
         have z590 := H587.out.free 0 rfl 0
         have z591 := H587.out.cell 0 rfl 1 rfl
         have z592 := H587.out.free 0 rfl 1
         have z593 := H587.out.cell 0 rfl 2 rfl
         have z594 := H587.out.free 0 rfl 2
         have z595 := H587.out.cell 0 rfl 3 rfl
         have z596 := H587.out.free 0 rfl 3
         have H597 := hid (show St B W [.cells D577 #[.int .i64 q580_0, .int .i64 q580_1, .int .i64 q580_2, .int .i64 q580_3] 33, .own (.slice wv546a wl547.length wv546c) wl547, .cells D542 #[.int .i64 e549_0, .int .i64 e549_1] 38, .cells D21 #[.int .i64 1, .int .i64 3, .int .i64 2] 3, .cells D15 #[.int .i64 1, .int .i64 3, .int .i64 2, .int .i64 5, .int .i64 9] 3, .cells D12 #[.int .i64 pw9, .int .i64 ph9, .int .i64 pm9, .slice pv9a ps9.length pv9c] 35, .own (.slice pv9a ps9.length pv9c) ps9, .tape K3, .cells B #[.int .i64 r0, .int .i64 r1, .int .i64 r2, .int .i64 r3] 33] [] ((((k588.setCell ⟨D577, 0, none⟩ (.int .i64 q580_0)).setCell ⟨D577, 1, none⟩ (.int .i64 q580_1)).setCell ⟨D577, 2, none⟩ (.int .i64 q580_2)).setCell ⟨D577, 3, none⟩ (.int .i64 q580_3)) from (H587.out.set4 0 rfl (.int .i64 q580_0) (.int .i64 q580_1) (.int .i64 q580_2) (.int .i64 q580_3)))
         go_simp
         refine hK.out _ _ ?_ (fun hHeld2 => ?_)
         focus ((try dsimp only); (exact ⟨H597.out.cell 5 rfl 0 rfl, H597.out.cell 5 rfl 1 rfl, H597.out.cell 5 rfl 2 rfl, H597.out.cell 5 rfl 3 rfl⟩))
         clear hK K hHeld
         try simp only [Act.put, List.getElem_toArray, List.getElem_cons_zero, List.getElem_cons_succ, List.setIfInBounds_toArray, List.set_cons_zero, List.set_cons_succ]
         clear z589 z590 z591 z592 z593 z594 z595 z596
         generalize ((((k588.setCell ⟨D577, 0, none⟩ (.int .i64 q580_0)).setCell ⟨D577, 1, none⟩ (.int .i64 q580_1)).setCell ⟨D577, 2, none⟩ (.int .i64 q580_2)).setCell ⟨D577, 3, none⟩ (.int .i64 q580_3)) = k598 at *
         have hHeld := hHeld2
         clear hHeld2
         refine wpAnyH_done (by kernel_rfl) ?_ _
         try clear hHeld
         go_wp2_with fail
         go_meet
         exact ⟨D542, D577, _, _, _, _, _, _, _, _, _, _, rfl, rfl, rfl, rfl, H597.out.pick [1, 2, 0, 3, 4, 5, 6, 7, 8] rfl (by decide)⟩
       ·obtain ⟨D599, hD599⟩ : ∃ D, w550.heap.size = D := ⟨_, rfl⟩
        have H600 := hid (H551.out.alloc #[.int .i64 0, .int .i64 0, .int .i64 0, .int .i64 0] 33 hD599)
        go_simp
        refine hK.out _ _ ?_ (fun hHeld2 => ?_)
        focus ((try dsimp only); (exact ⟨H600.out.cell 5 rfl 0 rfl, H600.out.cell 5 rfl 1 rfl, H600.out.cell 5 rfl 2 rfl, H600.out.cell 5 rfl 3 rfl⟩))
        clear hK K hHeld
        try simp only [Act.put, List.getElem_toArray, List.getElem_cons_zero, List.getElem_cons_succ, List.setIfInBounds_toArray, List.set_cons_zero, List.set_cons_succ]
        clear hD599
        generalize (w550.alloc (.cells #[.int .i64 0, .int .i64 0, .int .i64 0, .int .i64 0] 33)) = k601 at *
        have hHeld := hHeld2
        clear hHeld2
        refine wpAnyH_ready (rs := [10]) (by kernel_rfl) (by simp) (AllReadyH.cons (o := _) rfl (fun K hK => ?_) AllReadyH.nil)
        go_simp
        go_at_call 18
        refine (nextB_any B K3 _ _ (by omega) (H600.out.tapeAt 7 rfl)).mono ?_
        rintro e w603 ⟨x602, rfl, x602a, x602b, htn, hgn, hsn⟩
        have H604 := hid (H600.out.next 7 rfl htn hgn)
        clear htn hgn hsn
        refine hK.out _ _ ?_ (fun hHeld2 => ?_)
        focus ((try dsimp only); (exact ⟨H604.out.cell 5 rfl 0 rfl, H604.out.cell 5 rfl 1 rfl, H604.out.cell 5 rfl 2 rfl, H604.out.cell 5 rfl 3 rfl⟩))
        clear hK K
        try simp only [Act.put, List.getElem_toArray, List.getElem_cons_zero, List.getElem_cons_succ, List.setIfInBounds_toArray, List.set_cons_zero, List.set_cons_succ]
        clear hHeld
        have hHeld := hHeld2
        clear hHeld2
        refine wpAnyH_ready (rs := [16]) (by kernel_rfl) (by simp) (AllReadyH.cons (o := _) rfl (fun K hK => ?_) AllReadyH.nil)
        go_simp
        go_at_call 26
        refine (within_any B K3 _ _ _ (by omega) (by omega) (by omega) (by omega) (H604.out.tapeAt 7 rfl)).mono ?_
        rintro e w606 ⟨q605_0, q605_1, q605_2, q605_3, rfl, hq605, ht, hg⟩
        have H607 := hid (H604.out.next 7 rfl ht hg)
        have HWq605 := hid hq605
        clear hq605 ht hg
        refine hK.out _ _ ?_ (fun hHeld2 => ?_)
        focus ((try dsimp only); (exact ⟨H607.out.cell 5 rfl 0 rfl, H607.out.cell 5 rfl 1 rfl, H607.out.cell 5 rfl 2 rfl, H607.out.cell 5 rfl 3 rfl⟩))
        clear hK K
        try simp only [Act.put, List.getElem_toArray, List.getElem_cons_zero, List.getElem_cons_succ, List.setIfInBounds_toArray, List.set_cons_zero, List.set_cons_succ]
        clear hHeld
        have hHeld := hHeld2
        clear hHeld2
        refine wpAnyH_take (i := 19) (oi := _) (v := ?_) rfl (by kernel_rfl) (by kernel_rfl) (by kernel_rfl) (fun _ _ _ h => h) (Or.inl ⟨by rfl, ?_⟩) (by assumption) ?_
        rotate_left
        focus (intro wS hSw; (try dsimp only at hSw); go_simp; (try with_reducible rfl))
        try simp only [Act.put, List.getElem_toArray, List.getElem_cons_zero, List.getElem_cons_succ, List.setIfInBounds_toArray, List.set_cons_zero, List.set_cons_succ]
        refine wpAnyH_ready (rs := [20]) (by kernel_rfl) (by simp) (AllReadyH.cons (o := _) rfl (fun K hK => ?_) AllReadyH.nil)
        have z608 := H607.out.cell 2 rfl 0 rfl
        have z609 := H607.out.free 2 rfl 0
        have z610 := H607.out.cell 2 rfl 1 rfl
        have z611 := H607.out.free 2 rfl 1
        have H612 := hid (show St B W [.cells D599 #[.int .i64 0, .int .i64 0, .int .i64 0, .int .i64 0] 33, .own (.slice wv546a wl547.length wv546c) wl547, .cells D542 #[.int .i64 e549_0, .int .i64 e549_1] 38, .cells D21 #[.int .i64 1, .int .i64 3, .int .i64 2] 3, .cells D15 #[.int .i64 1, .int .i64 3, .int .i64 2, .int .i64 5, .int .i64 9] 3, .cells D12 #[.int .i64 pw9, .int .i64 ph9, .int .i64 pm9, .slice pv9a ps9.length pv9c] 35, .own (.slice pv9a ps9.length pv9c) ps9, .tape K3, .cells B #[.int .i64 r0, .int .i64 r1, .int .i64 r2, .int .i64 r3] 33] [] ((w606.setCell ⟨D542, 0, none⟩ (.int .i64 e549_0)).setCell ⟨D542, 1, none⟩ (.int .i64 e549_1)) from ((H607.out.set 2 rfl 0 (.int .i64 e549_0)).set 2 rfl 1 (.int .i64 e549_1)))
        go_simp
        refine hK.out _ _ ?_ (fun hHeld2 => ?_)
        focus ((try dsimp only); (exact ⟨H612.out.cell 5 rfl 0 rfl, H612.out.cell 5 rfl 1 rfl, H612.out.cell 5 rfl 2 rfl, H612.out.cell 5 rfl 3 rfl⟩))
        clear hK K hHeld
        try simp only [Act.put, List.getElem_toArray, List.getElem_cons_zero, List.getElem_cons_succ, List.setIfInBounds_toArray, List.set_cons_zero, List.set_cons_succ]
        clear z608 z609 z610 z611
        generalize ((w606.setCell ⟨D542, 0, none⟩ (.int .i64 e549_0)).setCell ⟨D542, 1, none⟩ (.int .i64 e549_1)) = k613 at *
        have hHeld := hHeld2
        clear hHeld2
        refine wpAnyH_take (i := 21) (oi := _) (v := ?_) rfl (by kernel_rfl) (by kernel_rfl) (by kernel_rfl) (fun _ _ _ h => h) (Or.inl ⟨by rfl, ?_⟩) (by assumption) ?_
        rotate_left
        focus (intro wS hSw; (try dsimp only at hSw); go_simp; (try with_reducible rfl))
        try simp only [Act.put, List.getElem_toArray, List.getElem_cons_zero, List.getElem_cons_succ, List.setIfInBounds_toArray, List.set_cons_zero, List.set_cons_succ]
        refine wpAnyH_ready (rs := [22]) (by kernel_rfl) (by simp) (AllReadyH.cons (o := _) rfl (fun K hK => ?_) AllReadyH.nil)
        have z614 := H612.out.cell 0 rfl 0 rfl
        have z615 := H612.out.free 0 rfl 0
        have z616 := H612.out.cell 0 rfl 1 rfl
        have z617 := H612.out.free 0 rfl 1
        have z618 := H612.out.cell 0 rfl 2 rfl
        have z619 := H612.out.free 0 rfl 2
        have z620 := H612.out.cell 0 rfl 3 rfl
        have z621 := H612.out.free 0 rfl 3
        have H622 := hid (show St B W [.cells D599 #[.int .i64 q605_0, .int .i64 q605_1, .int .i64 q605_2, .int .i64 q605_3] 33, .own (.slice wv546a wl547.length wv546c) wl547, .cells D542 #[.int .i64 e549_0, .int .i64 e549_1] 38, .cells D21 #[.int .i64 1, .int .i64 3, .int .i64 2] 3, .cells D15 #[.int .i64 1, .int .i64 3, .int .i64 2, .int .i64 5, .int .i64 9] 3, .cells D12 #[.int .i64 pw9, .int .i64 ph9, .int .i64 pm9, .slice pv9a ps9.length pv9c] 35, .own (.slice pv9a ps9.length pv9c) ps9, .tape K3, .cells B #[.int .i64 r0, .int .i64 r1, .int .i64 r2, .int .i64 r3] 33] [] ((((k613.setCell ⟨D599, 0, none⟩ (.int .i64 q605_0)).setCell ⟨D599, 1, none⟩ (.int .i64 q605_1)).setCell ⟨D599, 2, none⟩ (.int .i64 q605_2)).setCell ⟨D599, 3, none⟩ (.int .i64 q605_3)) from (H612.out.set4 0 rfl (.int .i64 q605_0) (.int .i64 q605_1) (.int .i64 q605_2) (.int .i64 q605_3)))
        go_simp
        refine hK.out _ _ ?_ (fun hHeld2 => ?_)
        focus ((try dsimp only); (exact ⟨H622.out.cell 5 rfl 0 rfl, H622.out.cell 5 rfl 1 rfl, H622.out.cell 5 rfl 2 rfl, H622.out.cell 5 rfl 3 rfl⟩))
        clear hK K hHeld
        try simp only [Act.put, List.getElem_toArray, List.getElem_cons_zero, List.getElem_cons_succ, List.setIfInBounds_toArray, List.set_cons_zero, List.set_cons_succ]
        clear z614 z615 z616 z617 z618 z619 z620 z621
        generalize ((((k613.setCell ⟨D599, 0, none⟩ (.int .i64 q605_0)).setCell ⟨D599, 1, none⟩ (.int .i64 q605_1)).setCell ⟨D599, 2, none⟩ (.int .i64 q605_2)).setCell ⟨D599, 3, none⟩ (.int .i64 q605_3)) = k623 at *
        have hHeld := hHeld2
        clear hHeld2
        refine wpAnyH_done (by kernel_rfl) ?_ _
        try clear hHeld
        go_wp2_with fail
        go_meet
        exact ⟨D542, D599, _, _, _, _, _, _, _, _, _, _, rfl, rfl, rfl, rfl, H622.out.pick [1, 2, 0, 3, 4, 5, 6, 7, 8] rfl (by decide)⟩
      ·obtain ⟨D624, hD624⟩ : ∃ D, w545.heap.size = D := ⟨_, rfl⟩
       have H625 := hid (H548.out.alloc #[.int .i64 0, .int .i64 0, .int .i64 0, .int .i64 0] 33 hD624)
       go_simp
       refine hK.out _ _ ?_ (fun hHeld2 => ?_)
       focus ((try dsimp only); (exact ⟨H625.out.cell 5 rfl 0 rfl, H625.out.cell 5 rfl 1 rfl, H625.out.cell 5 rfl 2 rfl, H625.out.cell 5 rfl 3 rfl⟩))
       clear hK K hHeld
       try simp only [Act.put, List.getElem_toArray, List.getElem_cons_zero, List.getElem_cons_succ, List.setIfInBounds_toArray, List.set_cons_zero, List.set_cons_succ]
       clear hD624
       generalize (w545.alloc (.cells #[.int .i64 0, .int .i64 0, .int .i64 0, .int .i64 0] 33)) = k626 at *
       have hHeld := hHeld2
       clear hHeld2
       refine wpAnyH_ready (rs := [8]) (by kernel_rfl) (by simp) (AllReadyH.cons (o := _) rfl (fun K hK => ?_) AllReadyH.nil)
       go_simp
       go_at_call 25
       refine (edge_any B K3 _ _ (H625.out.tapeAt 7 rfl)).mono ?_
       rintro e w628 ⟨e627_0, e627_1, rfl, ht, hg⟩
       have H629 := hid (H625.out.next 7 rfl ht hg)
       clear ht hg
       refine hK.out _ _ ?_ (fun hHeld2 => ?_)
       focus ((try dsimp only); (exact ⟨H629.out.cell 5 rfl 0 rfl, H629.out.cell 5 rfl 1 rfl, H629.out.cell 5 rfl 2 rfl, H629.out.cell 5 rfl 3 rfl⟩))
       clear hK K
       try simp only [Act.put, List.getElem_toArray, List.getElem_cons_zero, List.getElem_cons_succ, List.setIfInBounds_toArray, List.set_cons_zero, List.set_cons_succ]
       clear hHeld
       have hHeld := hHeld2
       clear hHeld2
       refine wpAnyH_ready (rs := [10]) (by kernel_rfl) (by simp) (AllReadyH.cons (o := _) rfl (fun K hK => ?_) AllReadyH.nil)
       go_simp
       go_at_call 18
       refine (nextB_any B K3 _ _ (by omega) (H629.out.tapeAt 7 rfl)).mono ?_
       rintro e w631 ⟨x630, rfl, x630a, x630b, htn, hgn, hsn⟩
       have H632 := hid (H629.out.next 7 rfl htn hgn)
       clear htn hgn hsn
       refine hK.out _ _ ?_ (fun hHeld2 => ?_)
       focus ((try dsimp only); (exact ⟨H632.out.cell 5 rfl 0 rfl, H632.out.cell 5 rfl 1 rfl, H632.out.cell 5 rfl 2 rfl, H632.out.cell 5 rfl 3 rfl⟩))
       clear hK K
       try simp only [Act.put, List.getElem_toArray, List.getElem_cons_zero, List.getElem_cons_succ, List.setIfInBounds_toArray, List.set_cons_zero, List.set_cons_succ]
       clear hHeld
       have hHeld := hHeld2
       clear hHeld2
       refine wpAnyH_ready (rs := [16]) (by kernel_rfl) (by simp) (AllReadyH.cons (o := _) rfl (fun K hK => ?_) AllReadyH.nil)
       go_simp
       go_at_call 26
       refine (within_any B K3 _ _ _ (by omega) (by omega) (by omega) (by omega) (H632.out.tapeAt 7 rfl)).mono ?_
       rintro e w634 ⟨q633_0, q633_1, q633_2, q633_3, rfl, hq633, ht, hg⟩
       have H635 := hid (H632.out.next 7 rfl ht hg)
       have HWq633 := hid hq633
       clear hq633 ht hg
       refine hK.out _ _ ?_ (fun hHeld2 => ?_)
       focus ((try dsimp only); (exact ⟨H635.out.cell 5 rfl 0 rfl, H635.out.cell 5 rfl 1 rfl, H635.out.cell 5 rfl 2 rfl, H635.out.cell 5 rfl 3 rfl⟩))
       clear hK K
       try simp only [Act.put, List.getElem_toArray, List.getElem_cons_zero, List.getElem_cons_succ, List.setIfInBounds_toArray, List.set_cons_zero, List.set_cons_succ]
       clear hHeld
       have hHeld := hHeld2
       clear hHeld2
       refine wpAnyH_take (i := 19) (oi := _) (v := ?_) rfl (by kernel_rfl) (by kernel_rfl) (by kernel_rfl) (fun _ _ _ h => h) (Or.inl ⟨by rfl, ?_⟩) (by assumption) ?_
       rotate_left
       focus (intro wS hSw; (try dsimp only at hSw); go_simp; (try with_reducible rfl))
       try simp only [Act.put, List.getElem_toArray, List.getElem_cons_zero, List.getElem_cons_succ, List.setIfInBounds_toArray, List.set_cons_zero, List.set_cons_succ]
       refine wpAnyH_ready (rs := [20]) (by kernel_rfl) (by simp) (AllReadyH.cons (o := _) rfl (fun K hK => ?_) AllReadyH.nil)
       have z636 := H635.out.cell 2 rfl 0 rfl
       have z637 := H635.out.free 2 rfl 0
       have z638 := H635.out.cell 2 rfl 1 rfl
       have z639 := H635.out.free 2 rfl 1
       have H640 := hid (show St B W [.cells D624 #[.int .i64 0, .int .i64 0, .int .i64 0, .int .i64 0] 33, .own (.slice wv546a wl547.length wv546c) wl547, .cells D542 #[.int .i64 e627_0, .int .i64 e627_1] 38, .cells D21 #[.int .i64 1, .int .i64 3, .int .i64 2] 3, .cells D15 #[.int .i64 1, .int .i64 3, .int .i64 2, .int .i64 5, .int .i64 9] 3, .cells D12 #[.int .i64 pw9, .int .i64 ph9, .int .i64 pm9, .slice pv9a ps9.length pv9c] 35, .own (.slice pv9a ps9.length pv9c) ps9, .tape K3, .cells B #[.int .i64 r0, .int .i64 r1, .int .i64 r2, .int .i64 r3] 33] [] ((w634.setCell ⟨D542, 0, none⟩ (.int .i64 e627_0)).setCell ⟨D542, 1, none⟩ (.int .i64 e627_1)) from ((H635.out.set 2 rfl 0 (.int .i64 e627_0)).set 2 rfl 1 (.int .i64 e627_1)))
       go_simp
       refine hK.out _ _ ?_ (fun hHeld2 => ?_)
       focus ((try dsimp only); (exact ⟨H640.out.cell 5 rfl 0 rfl, H640.out.cell 5 rfl 1 rfl, H640.out.cell 5 rfl 2 rfl, H640.out.cell 5 rfl 3 rfl⟩))
       clear hK K hHeld
       try simp only [Act.put, List.getElem_toArray, List.getElem_cons_zero, List.getElem_cons_succ, List.setIfInBounds_toArray, List.set_cons_zero, List.set_cons_succ]
       clear z636 z637 z638 z639
       generalize ((w634.setCell ⟨D542, 0, none⟩ (.int .i64 e627_0)).setCell ⟨D542, 1, none⟩ (.int .i64 e627_1)) = k641 at *
       have hHeld := hHeld2
       clear hHeld2
       refine wpAnyH_take (i := 21) (oi := _) (v := ?_) rfl (by kernel_rfl) (by kernel_rfl) (by kernel_rfl) (fun _ _ _ h => h) (Or.inl ⟨by rfl, ?_⟩) (by assumption) ?_
       rotate_left
       focus (intro wS hSw; (try dsimp only at hSw); go_simp; (try with_reducible rfl))
       try simp only [Act.put, List.getElem_toArray, List.getElem_cons_zero, List.getElem_cons_succ, List.setIfInBounds_toArray, List.set_cons_zero, List.set_cons_succ]
       refine wpAnyH_ready (rs := [22]) (by kernel_rfl) (by simp) (AllReadyH.cons (o := _) rfl (fun K hK => ?_) AllReadyH.nil)
       have z642 := H640.out.cell 0 rfl 0 rfl
       have z643 := H640.out.free 0 rfl 0
       have z644 := H640.out.cell 0 rfl 1 rfl
       have z645 := H640.out.free 0 rfl 1
       have z646 := H640.out.cell 0 rfl 2 rfl
       have z647 := H640.out.free 0 rfl 2
       have z648 := H640.out.cell 0 rfl 3 rfl
       have z649 := H640.out.free 0 rfl 3
       have H650 := hid (show St B W [.cells D624 #[.int .i64 q633_0, .int .i64 q633_1, .int .i64 q633_2, .int .i64 q633_3] 33, .own (.slice wv546a wl547.length wv546c) wl547, .cells D542 #[.int .i64 e627_0, .int .i64 e627_1] 38, .cells D21 #[.int .i64 1, .int .i64 3, .int .i64 2] 3, .cells D15 #[.int .i64 1, .int .i64 3, .int .i64 2, .int .i64 5, .int .i64 9] 3, .cells D12 #[.int .i64 pw9, .int .i64 ph9, .int .i64 pm9, .slice pv9a ps9.length pv9c] 35, .own (.slice pv9a ps9.length pv9c) ps9, .tape K3, .cells B #[.int .i64 r0, .int .i64 r1, .int .i64 r2, .int .i64 r3] 33] [] ((((k641.setCell ⟨D624, 0, none⟩ (.int .i64 q633_0)).setCell ⟨D624, 1, none⟩ (.int .i64 q633_1)).setCell ⟨D624, 2, none⟩ (.int .i64 q633_2)).setCell ⟨D624, 3, none⟩ (.int .i64 q633_3)) from (H640.out.set4 0 rfl (.int .i64 q633_0) (.int .i64 q633_1) (.int .i64 q633_2) (.int .i64 q633_3)))
       go_simp
       refine hK.out _ _ ?_ (fun hHeld2 => ?_)
       focus ((try dsimp only); (exact ⟨H650.out.cell 5 rfl 0 rfl, H650.out.cell 5 rfl 1 rfl, H650.out.cell 5 rfl 2 rfl, H650.out.cell 5 rfl 3 rfl⟩))
       clear hK K hHeld
       try simp only [Act.put, List.getElem_toArray, List.getElem_cons_zero, List.getElem_cons_succ, List.setIfInBounds_toArray, List.set_cons_zero, List.set_cons_succ]
       clear z642 z643 z644 z645 z646 z647 z648 z649
       generalize ((((k641.setCell ⟨D624, 0, none⟩ (.int .i64 q633_0)).setCell ⟨D624, 1, none⟩ (.int .i64 q633_1)).setCell ⟨D624, 2, none⟩ (.int .i64 q633_2)).setCell ⟨D624, 3, none⟩ (.int .i64 q633_3)) = k651 at *
       have hHeld := hHeld2
       clear hHeld2
       refine wpAnyH_done (by kernel_rfl) ?_ _
       try clear hHeld
       go_wp2_with fail
       go_meet
       exact ⟨D542, D624, _, _, _, _, _, _, _, _, _, _, rfl, rfl, rfl, rfl, H650.out.pick [1, 2, 0, 3, 4, 5, 6, 7, 8] rfl (by decide)⟩
     ·obtain ⟨D652, hD652⟩ : ∃ D, k544.heap.size = D := ⟨_, rfl⟩
      have H653 := hid (H543.out.alloc #[.int .i64 0, .int .i64 0, .int .i64 0, .int .i64 0] 33 hD652)
      go_simp
      refine hK.out _ _ ?_ (fun hHeld2 => ?_)
      focus ((try dsimp only); (exact ⟨H653.out.cell 4 rfl 0 rfl, H653.out.cell 4 rfl 1 rfl, H653.out.cell 4 rfl 2 rfl, H653.out.cell 4 rfl 3 rfl⟩))
      clear hK K hHeld
      try simp only [Act.put, List.getElem_toArray, List.getElem_cons_zero, List.getElem_cons_succ, List.setIfInBounds_toArray, List.set_cons_zero, List.set_cons_succ]
      clear hD652
      generalize (k544.alloc (.cells #[.int .i64 0, .int .i64 0, .int .i64 0, .int .i64 0] 33)) = k654 at *
      have hHeld := hHeld2
      clear hHeld2
      refine wpAnyH_ready (rs := [4]) (by kernel_rfl) (by simp) (AllReadyH.cons (o := _) rfl (fun K hK => ?_) AllReadyH.nil)
      go_simp
      go_at_call 19
      refine (weights_any B K3 _ _ (by omega) (H653.out.tapeAt 6 rfl)).mono ?_
      rintro e w655 ⟨wv656, wl657, rfl, hlen, hin, ho, ht, hg⟩
      have H658 := hid (H653.out.add (H653.out.next 6 rfl ht hg) ho)
      have HWLwl657 := hid hlen
      have HWBwl657 := hid hin
      obtain ⟨wv656a, wv656c, rfl, _⟩ := ho.slc
      clear hlen hin ho ht hg
      refine hK.out _ _ ?_ (fun hHeld2 => ?_)
      focus ((try dsimp only); (exact ⟨H658.out.cell 5 rfl 0 rfl, H658.out.cell 5 rfl 1 rfl, H658.out.cell 5 rfl 2 rfl, H658.out.cell 5 rfl 3 rfl⟩))
      clear hK K
      try simp only [Act.put, List.getElem_toArray, List.getElem_cons_zero, List.getElem_cons_succ, List.setIfInBounds_toArray, List.set_cons_zero, List.set_cons_succ]
      clear hHeld
      have hHeld := hHeld2
      clear hHeld2
      refine wpAnyH_ready (rs := [8]) (by kernel_rfl) (by simp) (AllReadyH.cons (o := _) rfl (fun K hK => ?_) AllReadyH.nil)
      go_simp
      go_at_call 25
      refine (edge_any B K3 _ _ (H658.out.tapeAt 7 rfl)).mono ?_
      rintro e w660 ⟨e659_0, e659_1, rfl, ht, hg⟩
      have H661 := hid (H658.out.next 7 rfl ht hg)
      clear ht hg
      refine hK.out _ _ ?_ (fun hHeld2 => ?_)
      focus ((try dsimp only); (exact ⟨H661.out.cell 5 rfl 0 rfl, H661.out.cell 5 rfl 1 rfl, H661.out.cell 5 rfl 2 rfl, H661.out.cell 5 rfl 3 rfl⟩))
      clear hK K
      try simp only [Act.put, List.getElem_toArray, List.getElem_cons_zero, List.getElem_cons_succ, List.setIfInBounds_toArray, List.set_cons_zero, List.set_cons_succ]
      clear hHeld
      have hHeld := hHeld2
      clear hHeld2
      refine wpAnyH_ready (rs := [10]) (by kernel_rfl) (by simp) (AllReadyH.cons (o := _) rfl (fun K hK => ?_) AllReadyH.nil)
      go_simp
      go_at_call 18
      refine (nextB_any B K3 _ _ (by omega) (H661.out.tapeAt 7 rfl)).mono ?_
      rintro e w663 ⟨x662, rfl, x662a, x662b, htn, hgn, hsn⟩
      have H664 := hid (H661.out.next 7 rfl htn hgn)
      clear htn hgn hsn
      refine hK.out _ _ ?_ (fun hHeld2 => ?_)
      focus ((try dsimp only); (exact ⟨H664.out.cell 5 rfl 0 rfl, H664.out.cell 5 rfl 1 rfl, H664.out.cell 5 rfl 2 rfl, H664.out.cell 5 rfl 3 rfl⟩))
      clear hK K
      try simp only [Act.put, List.getElem_toArray, List.getElem_cons_zero, List.getElem_cons_succ, List.setIfInBounds_toArray, List.set_cons_zero, List.set_cons_succ]
      clear hHeld
      have hHeld := hHeld2
      clear hHeld2
      refine wpAnyH_ready (rs := [16]) (by kernel_rfl) (by simp) (AllReadyH.cons (o := _) rfl (fun K hK => ?_) AllReadyH.nil)
      go_simp
      go_at_call 26
      refine (within_any B K3 _ _ _ (by omega) (by omega) (by omega) (by omega) (H664.out.tapeAt 7 rfl)).mono ?_
      rintro e w666 ⟨q665_0, q665_1, q665_2, q665_3, rfl, hq665, ht, hg⟩
      have H667 := hid (H664.out.next 7 rfl ht hg)
      have HWq665 := hid hq665
      clear hq665 ht hg
      refine hK.out _ _ ?_ (fun hHeld2 => ?_)
      focus ((try dsimp only); (exact ⟨H667.out.cell 5 rfl 0 rfl, H667.out.cell 5 rfl 1 rfl, H667.out.cell 5 rfl 2 rfl, H667.out.cell 5 rfl 3 rfl⟩))
      clear hK K
      try simp only [Act.put, List.getElem_toArray, List.getElem_cons_zero, List.getElem_cons_succ, List.setIfInBounds_toArray, List.set_cons_zero, List.set_cons_succ]
      clear hHeld
      have hHeld := hHeld2
      clear hHeld2
      refine wpAnyH_take (i := 19) (oi := _) (v := ?_) rfl (by kernel_rfl) (by kernel_rfl) (by kernel_rfl) (fun _ _ _ h => h) (Or.inl ⟨by rfl, ?_⟩) (by assumption) ?_
      rotate_left
      focus (intro wS hSw; (try dsimp only at hSw); go_simp; (try with_reducible rfl))
      try simp only [Act.put, List.getElem_toArray, List.getElem_cons_zero, List.getElem_cons_succ, List.setIfInBounds_toArray, List.set_cons_zero, List.set_cons_succ]
      refine wpAnyH_ready (rs := [20]) (by kernel_rfl) (by simp) (AllReadyH.cons (o := _) rfl (fun K hK => ?_) AllReadyH.nil)
      have z668 := H667.out.cell 2 rfl 0 rfl
      have z669 := H667.out.free 2 rfl 0
      have z670 := H667.out.cell 2 rfl 1 rfl
      have z671 := H667.out.free 2 rfl 1
      have H672 := hid (show St B W [.own (.slice wv656a wl657.length wv656c) wl657, .cells D652 #[.int .i64 0, .int .i64 0, .int .i64 0, .int .i64 0] 33, .cells D542 #[.int .i64 e659_0, .int .i64 e659_1] 38, .cells D21 #[.int .i64 1, .int .i64 3, .int .i64 2] 3, .cells D15 #[.int .i64 1, .int .i64 3, .int .i64 2, .int .i64 5, .int .i64 9] 3, .cells D12 #[.int .i64 pw9, .int .i64 ph9, .int .i64 pm9, .slice pv9a ps9.length pv9c] 35, .own (.slice pv9a ps9.length pv9c) ps9, .tape K3, .cells B #[.int .i64 r0, .int .i64 r1, .int .i64 r2, .int .i64 r3] 33] [] ((w666.setCell ⟨D542, 0, none⟩ (.int .i64 e659_0)).setCell ⟨D542, 1, none⟩ (.int .i64 e659_1)) from ((H667.out.set 2 rfl 0 (.int .i64 e659_0)).set 2 rfl 1 (.int .i64 e659_1)))
      go_simp
      refine hK.out _ _ ?_ (fun hHeld2 => ?_)
      focus ((try dsimp only); (exact ⟨H672.out.cell 5 rfl 0 rfl, H672.out.cell 5 rfl 1 rfl, H672.out.cell 5 rfl 2 rfl, H672.out.cell 5 rfl 3 rfl⟩))
      clear hK K hHeld
      try simp only [Act.put, List.getElem_toArray, List.getElem_cons_zero, List.getElem_cons_succ, List.setIfInBounds_toArray, List.set_cons_zero, List.set_cons_succ]
      clear z668 z669 z670 z671
      generalize ((w666.setCell ⟨D542, 0, none⟩ (.int .i64 e659_0)).setCell ⟨D542, 1, none⟩ (.int .i64 e659_1)) = k673 at *
      have hHeld := hHeld2
      clear hHeld2
      refine wpAnyH_take (i := 21) (oi := _) (v := ?_) rfl (by kernel_rfl) (by kernel_rfl) (by kernel_rfl) (fun _ _ _ h => h) (Or.inl ⟨by rfl, ?_⟩) (by assumption) ?_
      rotate_left
      focus (intro wS hSw; (try dsimp only at hSw); go_simp; (try with_reducible rfl))
      try simp only [Act.put, List.getElem_toArray, List.getElem_cons_zero, List.getElem_cons_succ, List.setIfInBounds_toArray, List.set_cons_zero, List.set_cons_succ]
      refine wpAnyH_ready (rs := [22]) (by kernel_rfl) (by simp) (AllReadyH.cons (o := _) rfl (fun K hK => ?_) AllReadyH.nil)
      have z674 := H672.out.cell 1 rfl 0 rfl
      have z675 := H672.out.free 1 rfl 0
      have z676 := H672.out.cell 1 rfl 1 rfl
      have z677 := H672.out.free 1 rfl 1
      have z678 := H672.out.cell 1 rfl 2 rfl
      have z679 := H672.out.free 1 rfl 2
      have z680 := H672.out.cell 1 rfl 3 rfl
      have z681 := H672.out.free 1 rfl 3
      have H682 := hid (show St B W [.own (.slice wv656a wl657.length wv656c) wl657, .cells D652 #[.int .i64 q665_0, .int .i64 q665_1, .int .i64 q665_2, .int .i64 q665_3] 33, .cells D542 #[.int .i64 e659_0, .int .i64 e659_1] 38, .cells D21 #[.int .i64 1, .int .i64 3, .int .i64 2] 3, .cells D15 #[.int .i64 1, .int .i64 3, .int .i64 2, .int .i64 5, .int .i64 9] 3, .cells D12 #[.int .i64 pw9, .int .i64 ph9, .int .i64 pm9, .slice pv9a ps9.length pv9c] 35, .own (.slice pv9a ps9.length pv9c) ps9, .tape K3, .cells B #[.int .i64 r0, .int .i64 r1, .int .i64 r2, .int .i64 r3] 33] [] ((((k673.setCell ⟨D652, 0, none⟩ (.int .i64 q665_0)).setCell ⟨D652, 1, none⟩ (.int .i64 q665_1)).setCell ⟨D652, 2, none⟩ (.int .i64 q665_2)).setCell ⟨D652, 3, none⟩ (.int .i64 q665_3)) from (H672.out.set4 1 rfl (.int .i64 q665_0) (.int .i64 q665_1) (.int .i64 q665_2) (.int .i64 q665_3)))
      go_simp
      refine hK.out _ _ ?_ (fun hHeld2 => ?_)
      focus ((try dsimp only); (exact ⟨H682.out.cell 5 rfl 0 rfl, H682.out.cell 5 rfl 1 rfl, H682.out.cell 5 rfl 2 rfl, H682.out.cell 5 rfl 3 rfl⟩))
      clear hK K hHeld
      try simp only [Act.put, List.getElem_toArray, List.getElem_cons_zero, List.getElem_cons_succ, List.setIfInBounds_toArray, List.set_cons_zero, List.set_cons_succ]
      clear z674 z675 z676 z677 z678 z679 z680 z681
      generalize ((((k673.setCell ⟨D652, 0, none⟩ (.int .i64 q665_0)).setCell ⟨D652, 1, none⟩ (.int .i64 q665_1)).setCell ⟨D652, 2, none⟩ (.int .i64 q665_2)).setCell ⟨D652, 3, none⟩ (.int .i64 q665_3)) = k683 at *
      have hHeld := hHeld2
      clear hHeld2
      refine wpAnyH_done (by kernel_rfl) ?_ _
      try clear hHeld
      go_wp2_with fail
      go_meet
      exact ⟨D542, D652, _, _, _, _, _, _, _, _, _, _, rfl, rfl, rfl, rfl, H682.out.pick [0, 2, 1, 3, 4, 5, 6, 7, 8] rfl (by decide)⟩
    ·obtain ⟨D684, hD684⟩ : ∃ D, k28.heap.size = D := ⟨_, rfl⟩
     have H685 := hid (H27.out.alloc #[.int .i64 0, .int .i64 0, .int .i64 0, .int .i64 0] 33 hD684)
     go_simp
     refine hK.out _ _ ?_ (fun hHeld2 => ?_)
     focus ((try dsimp only); (exact ⟨H685.out.cell 3 rfl 0 rfl, H685.out.cell 3 rfl 1 rfl, H685.out.cell 3 rfl 2 rfl, H685.out.cell 3 rfl 3 rfl⟩))
     clear hK K hHeld
     try simp only [Act.put, List.getElem_toArray, List.getElem_cons_zero, List.getElem_cons_succ, List.setIfInBounds_toArray, List.set_cons_zero, List.set_cons_succ]
     clear hD684
     generalize (k28.alloc (.cells #[.int .i64 0, .int .i64 0, .int .i64 0, .int .i64 0] 33)) = k686 at *
     have hHeld := hHeld2
     clear hHeld2
     refine wpAnyH_ready (rs := [4, 17]) (by kernel_rfl) (by simp) (AllReadyH.cons (o := _) rfl (fun K hK => ?_) (AllReadyH.cons (o := _) rfl (fun K hK => ?_) AllReadyH.nil))
     ·go_simp
      go_at_call 19
      refine (weights_any B K3 _ _ (by omega) (H685.out.tapeAt 5 rfl)).mono ?_
      rintro e w687 ⟨wv688, wl689, rfl, hlen, hin, ho, ht, hg⟩
      have H690 := hid (H685.out.add (H685.out.next 5 rfl ht hg) ho)
      have HWLwl689 := hid hlen
      have HWBwl689 := hid hin
      obtain ⟨wv688a, wv688c, rfl, _⟩ := ho.slc
      clear hlen hin ho ht hg
      refine hK.out _ _ ?_ (fun hHeld2 => ?_)
      focus ((try dsimp only); (exact ⟨H690.out.cell 4 rfl 0 rfl, H690.out.cell 4 rfl 1 rfl, H690.out.cell 4 rfl 2 rfl, H690.out.cell 4 rfl 3 rfl⟩))
      clear hK K
      try simp only [Act.put, List.getElem_toArray, List.getElem_cons_zero, List.getElem_cons_succ, List.setIfInBounds_toArray, List.set_cons_zero, List.set_cons_succ]
      clear hHeld
      have hHeld := hHeld2
      clear hHeld2
      refine wpAnyH_ready (rs := [8, 17]) (by kernel_rfl) (by simp) (AllReadyH.cons (o := _) rfl (fun K hK => ?_) (AllReadyH.cons (o := _) rfl (fun K hK => ?_) AllReadyH.nil))
      ·go_simp
       go_at_call 25
       refine (edge_any B K3 _ _ (H690.out.tapeAt 6 rfl)).mono ?_
       rintro e w692 ⟨e691_0, e691_1, rfl, ht, hg⟩
       have H693 := hid (H690.out.next 6 rfl ht hg)
       clear ht hg
       refine hK.out _ _ ?_ (fun hHeld2 => ?_)
       focus ((try dsimp only); (exact ⟨H693.out.cell 4 rfl 0 rfl, H693.out.cell 4 rfl 1 rfl, H693.out.cell 4 rfl 2 rfl, H693.out.cell 4 rfl 3 rfl⟩))
       clear hK K
       try simp only [Act.put, List.getElem_toArray, List.getElem_cons_zero, List.getElem_cons_succ, List.setIfInBounds_toArray, List.set_cons_zero, List.set_cons_succ]
       clear hHeld
       have hHeld := hHeld2
       clear hHeld2
       refine wpAnyH_ready (rs := [10, 17]) (by kernel_rfl) (by simp) (AllReadyH.cons (o := _) rfl (fun K hK => ?_) (AllReadyH.cons (o := _) rfl (fun K hK => ?_) AllReadyH.nil))
       ·go_simp
        go_at_call 18
        refine (nextB_any B K3 _ _ (by omega) (H693.out.tapeAt 6 rfl)).mono ?_
        rintro e w695 ⟨x694, rfl, x694a, x694b, htn, hgn, hsn⟩
        have H696 := hid (H693.out.next 6 rfl htn hgn)
        clear htn hgn hsn
        refine hK.out _ _ ?_ (fun hHeld2 => ?_)
        focus ((try dsimp only); (exact ⟨H696.out.cell 4 rfl 0 rfl, H696.out.cell 4 rfl 1 rfl, H696.out.cell 4 rfl 2 rfl, H696.out.cell 4 rfl 3 rfl⟩))
        clear hK K
        try simp only [Act.put, List.getElem_toArray, List.getElem_cons_zero, List.getElem_cons_succ, List.setIfInBounds_toArray, List.set_cons_zero, List.set_cons_succ]
        clear hHeld
        have hHeld := hHeld2
        clear hHeld2
        refine wpAnyH_ready (rs := [16, 17]) (by kernel_rfl) (by simp) (AllReadyH.cons (o := _) rfl (fun K hK => ?_) (AllReadyH.cons (o := _) rfl (fun K hK => ?_) AllReadyH.nil))
        ·go_simp
         go_at_call 26
         refine (within_any B K3 _ _ _ (by omega) (by omega) (by omega) (by omega) (H696.out.tapeAt 6 rfl)).mono ?_
         rintro e w698 ⟨q697_0, q697_1, q697_2, q697_3, rfl, hq697, ht, hg⟩
         have H699 := hid (H696.out.next 6 rfl ht hg)
         have HWq697 := hid hq697
         clear hq697 ht hg
         refine hK.out _ _ ?_ (fun hHeld2 => ?_)
         focus ((try dsimp only); (exact ⟨H699.out.cell 4 rfl 0 rfl, H699.out.cell 4 rfl 1 rfl, H699.out.cell 4 rfl 2 rfl, H699.out.cell 4 rfl 3 rfl⟩))
         clear hK K
         try simp only [Act.put, List.getElem_toArray, List.getElem_cons_zero, List.getElem_cons_succ, List.setIfInBounds_toArray, List.set_cons_zero, List.set_cons_succ]
         clear hHeld
         have hHeld := hHeld2
         clear hHeld2
         refine wpAnyH_ready (rs := [17]) (by kernel_rfl) (by simp) (AllReadyH.cons (o := _) rfl (fun K hK => ?_) AllReadyH.nil)
         obtain ⟨D700, hD700⟩ : ∃ D, w698.heap.size = D := ⟨_, rfl⟩
         have H701 := hid (H699.out.alloc #[.int .i64 0, .int .i64 0] 38 hD700)
         go_simp
         refine hK.out _ _ ?_ (fun hHeld2 => ?_)
         focus ((try dsimp only); (exact ⟨H701.out.cell 5 rfl 0 rfl, H701.out.cell 5 rfl 1 rfl, H701.out.cell 5 rfl 2 rfl, H701.out.cell 5 rfl 3 rfl⟩))
         clear hK K hHeld
         try simp only [Act.put, List.getElem_toArray, List.getElem_cons_zero, List.getElem_cons_succ, List.setIfInBounds_toArray, List.set_cons_zero, List.set_cons_succ]
         clear hD700
         generalize (w698.alloc (.cells #[.int .i64 0, .int .i64 0] 38)) = k702 at *
         have hHeld := hHeld2
         clear hHeld2
         refine wpAnyH_take (i := 19) (oi := _) (v := ?_) rfl (by kernel_rfl) (by kernel_rfl) (by kernel_rfl) (fun _ _ _ h => h) (Or.inl ⟨by rfl, ?_⟩) (by assumption) ?_
         rotate_left
         focus (intro wS hSw; (try dsimp only at hSw); go_simp; (try with_reducible rfl))
         try simp only [Act.put, List.getElem_toArray, List.getElem_cons_zero, List.getElem_cons_succ, List.setIfInBounds_toArray, List.set_cons_zero, List.set_cons_succ]
         refine wpAnyH_ready (rs := [20]) (by kernel_rfl) (by simp) (AllReadyH.cons (o := _) rfl (fun K hK => ?_) AllReadyH.nil)
         have z703 := H701.out.cell 0 rfl 0 rfl
         have z704 := H701.out.free 0 rfl 0
         have z705 := H701.out.cell 0 rfl 1 rfl
         have z706 := H701.out.free 0 rfl 1
         have H707 := hid (show St B W [.cells D700 #[.int .i64 e691_0, .int .i64 e691_1] 38, .own (.slice wv688a wl689.length wv688c) wl689, .cells D684 #[.int .i64 0, .int .i64 0, .int .i64 0, .int .i64 0] 33, .cells D21 #[.int .i64 1, .int .i64 3, .int .i64 2] 3, .cells D15 #[.int .i64 1, .int .i64 3, .int .i64 2, .int .i64 5, .int .i64 9] 3, .cells D12 #[.int .i64 pw9, .int .i64 ph9, .int .i64 pm9, .slice pv9a ps9.length pv9c] 35, .own (.slice pv9a ps9.length pv9c) ps9, .tape K3, .cells B #[.int .i64 r0, .int .i64 r1, .int .i64 r2, .int .i64 r3] 33] [] ((k702.setCell ⟨D700, 0, none⟩ (.int .i64 e691_0)).setCell ⟨D700, 1, none⟩ (.int .i64 e691_1)) from ((H701.out.set 0 rfl 0 (.int .i64 e691_0)).set 0 rfl 1 (.int .i64 e691_1)))
         go_simp
         refine hK.out _ _ ?_ (fun hHeld2 => ?_)
         focus ((try dsimp only); (exact ⟨H707.out.cell 5 rfl 0 rfl, H707.out.cell 5 rfl 1 rfl, H707.out.cell 5 rfl 2 rfl, H707.out.cell 5 rfl 3 rfl⟩))
         clear hK K hHeld
         try simp only [Act.put, List.getElem_toArray, List.getElem_cons_zero, List.getElem_cons_succ, List.setIfInBounds_toArray, List.set_cons_zero, List.set_cons_succ]
         clear z703 z704 z705 z706
         generalize ((k702.setCell ⟨D700, 0, none⟩ (.int .i64 e691_0)).setCell ⟨D700, 1, none⟩ (.int .i64 e691_1)) = k708 at *
         have hHeld := hHeld2
         clear hHeld2
         refine wpAnyH_take (i := 21) (oi := _) (v := ?_) rfl (by kernel_rfl) (by kernel_rfl) (by kernel_rfl) (fun _ _ _ h => h) (Or.inl ⟨by rfl, ?_⟩) (by assumption) ?_
         rotate_left
         focus (intro wS hSw; (try dsimp only at hSw); go_simp; (try with_reducible rfl))
         try simp only [Act.put, List.getElem_toArray, List.getElem_cons_zero, List.getElem_cons_succ, List.setIfInBounds_toArray, List.set_cons_zero, List.set_cons_succ]
         refine wpAnyH_ready (rs := [22]) (by kernel_rfl) (by simp) (AllReadyH.cons (o := _) rfl (fun K hK => ?_) AllReadyH.nil)
         have z709 := H707.out.cell 2 rfl 0 rfl
         have z710 := H707.out.free 2 rfl 0
         have z711 := H707.out.cell 2 rfl 1 rfl
         have z712 := H707.out.free 2 rfl 1
         have z713 := H707.out.cell 2 rfl 2 rfl
         have z714 := H707.out.free 2 rfl 2
         have z715 := H707.out.cell 2 rfl 3 rfl
         have z716 := H707.out.free 2 rfl 3
         have H717 := hid (show St B W [.cells D700 #[.int .i64 e691_0, .int .i64 e691_1] 38, .own (.slice wv688a wl689.length wv688c) wl689, .cells D684 #[.int .i64 q697_0, .int .i64 q697_1, .int .i64 q697_2, .int .i64 q697_3] 33, .cells D21 #[.int .i64 1, .int .i64 3, .int .i64 2] 3, .cells D15 #[.int .i64 1, .int .i64 3, .int .i64 2, .int .i64 5, .int .i64 9] 3, .cells D12 #[.int .i64 pw9, .int .i64 ph9, .int .i64 pm9, .slice pv9a ps9.length pv9c] 35, .own (.slice pv9a ps9.length pv9c) ps9, .tape K3, .cells B #[.int .i64 r0, .int .i64 r1, .int .i64 r2, .int .i64 r3] 33] [] ((((k708.setCell ⟨D684, 0, none⟩ (.int .i64 q697_0)).setCell ⟨D684, 1, none⟩ (.int .i64 q697_1)).setCell ⟨D684, 2, none⟩ (.int .i64 q697_2)).setCell ⟨D684, 3, none⟩ (.int .i64 q697_3)) from (H707.out.set4 2 rfl (.int .i64 q697_0) (.int .i64 q697_1) (.int .i64 q697_2) (.int .i64 q697_3)))
         go_simp
         refine hK.out _ _ ?_ (fun hHeld2 => ?_)
         focus ((try dsimp only); (exact ⟨H717.out.cell 5 rfl 0 rfl, H717.out.cell 5 rfl 1 rfl, H717.out.cell 5 rfl 2 rfl, H717.out.cell 5 rfl 3 rfl⟩))
         clear hK K hHeld
         try simp only [Act.put, List.getElem_toArray, List.getElem_cons_zero, List.getElem_cons_succ, List.setIfInBounds_toArray, List.set_cons_zero, List.set_cons_succ]
         clear z709 z710 z711 z712 z713 z714 z715 z716
         generalize ((((k708.setCell ⟨D684, 0, none⟩ (.int .i64 q697_0)).setCell ⟨D684, 1, none⟩ (.int .i64 q697_1)).setCell ⟨D684, 2, none⟩ (.int .i64 q697_2)).setCell ⟨D684, 3, none⟩ (.int .i64 q697_3)) = k718 at *
         have hHeld := hHeld2
         clear hHeld2
         refine wpAnyH_done (by kernel_rfl) ?_ _
         try clear hHeld
         go_wp2_with fail
         go_meet
         exact ⟨D700, D684, _, _, _, _, _, _, _, _, _, _, rfl, rfl, rfl, rfl, H717.out.pick [1, 0, 2, 3, 4, 5, 6, 7, 8] rfl (by decide)⟩
        ·obtain ⟨D719, hD719⟩ : ∃ D, w695.heap.size = D := ⟨_, rfl⟩
         have H720 := hid (H696.out.alloc #[.int .i64 0, .int .i64 0] 38 hD719)
         go_simp
         refine hK.out _ _ ?_ (fun hHeld2 => ?_)
         focus ((try dsimp only); (exact ⟨H720.out.cell 5 rfl 0 rfl, H720.out.cell 5 rfl 1 rfl, H720.out.cell 5 rfl 2 rfl, H720.out.cell 5 rfl 3 rfl⟩))
         clear hK K hHeld
         try simp only [Act.put, List.getElem_toArray, List.getElem_cons_zero, List.getElem_cons_succ, List.setIfInBounds_toArray, List.set_cons_zero, List.set_cons_succ]
         clear hD719
         generalize (w695.alloc (.cells #[.int .i64 0, .int .i64 0] 38)) = k721 at *
         have hHeld := hHeld2
         clear hHeld2
         refine wpAnyH_ready (rs := [16]) (by kernel_rfl) (by simp) (AllReadyH.cons (o := _) rfl (fun K hK => ?_) AllReadyH.nil)
         go_simp
         go_at_call 26
         refine (within_any B K3 _ _ _ (by omega) (by omega) (by omega) (by omega) (H720.out.tapeAt 7 rfl)).mono ?_
         rintro e w723 ⟨q722_0, q722_1, q722_2, q722_3, rfl, hq722, ht, hg⟩
         have H724 := hid (H720.out.next 7 rfl ht hg)
         have HWq722 := hid hq722
         clear hq722 ht hg
         refine hK.out _ _ ?_ (fun hHeld2 => ?_)
         focus ((try dsimp only); (exact ⟨H724.out.cell 5 rfl 0 rfl, H724.out.cell 5 rfl 1 rfl, H724.out.cell 5 rfl 2 rfl, H724.out.cell 5 rfl 3 rfl⟩))
         clear hK K
         try simp only [Act.put, List.getElem_toArray, List.getElem_cons_zero, List.getElem_cons_succ, List.setIfInBounds_toArray, List.set_cons_zero, List.set_cons_succ]
         clear hHeld
         have hHeld := hHeld2
         clear hHeld2
         refine wpAnyH_take (i := 19) (oi := _) (v := ?_) rfl (by kernel_rfl) (by kernel_rfl) (by kernel_rfl) (fun _ _ _ h => h) (Or.inl ⟨by rfl, ?_⟩) (by assumption) ?_
         rotate_left
         focus (intro wS hSw; (try dsimp only at hSw); go_simp; (try with_reducible rfl))
         try simp only [Act.put, List.getElem_toArray, List.getElem_cons_zero, List.getElem_cons_succ, List.setIfInBounds_toArray, List.set_cons_zero, List.set_cons_succ]
         refine wpAnyH_ready (rs := [20]) (by kernel_rfl) (by simp) (AllReadyH.cons (o := _) rfl (fun K hK => ?_) AllReadyH.nil)
         have z725 := H724.out.cell 0 rfl 0 rfl
         have z726 := H724.out.free 0 rfl 0
         have z727 := H724.out.cell 0 rfl 1 rfl
         have z728 := H724.out.free 0 rfl 1
         have H729 := hid (show St B W [.cells D719 #[.int .i64 e691_0, .int .i64 e691_1] 38, .own (.slice wv688a wl689.length wv688c) wl689, .cells D684 #[.int .i64 0, .int .i64 0, .int .i64 0, .int .i64 0] 33, .cells D21 #[.int .i64 1, .int .i64 3, .int .i64 2] 3, .cells D15 #[.int .i64 1, .int .i64 3, .int .i64 2, .int .i64 5, .int .i64 9] 3, .cells D12 #[.int .i64 pw9, .int .i64 ph9, .int .i64 pm9, .slice pv9a ps9.length pv9c] 35, .own (.slice pv9a ps9.length pv9c) ps9, .tape K3, .cells B #[.int .i64 r0, .int .i64 r1, .int .i64 r2, .int .i64 r3] 33] [] ((w723.setCell ⟨D719, 0, none⟩ (.int .i64 e691_0)).setCell ⟨D719, 1, none⟩ (.int .i64 e691_1)) from ((H724.out.set 0 rfl 0 (.int .i64 e691_0)).set 0 rfl 1 (.int .i64 e691_1)))
         go_simp
         refine hK.out _ _ ?_ (fun hHeld2 => ?_)
         focus ((try dsimp only); (exact ⟨H729.out.cell 5 rfl 0 rfl, H729.out.cell 5 rfl 1 rfl, H729.out.cell 5 rfl 2 rfl, H729.out.cell 5 rfl 3 rfl⟩))
         clear hK K hHeld
         try simp only [Act.put, List.getElem_toArray, List.getElem_cons_zero, List.getElem_cons_succ, List.setIfInBounds_toArray, List.set_cons_zero, List.set_cons_succ]
         clear z725 z726 z727 z728
         generalize ((w723.setCell ⟨D719, 0, none⟩ (.int .i64 e691_0)).setCell ⟨D719, 1, none⟩ (.int .i64 e691_1)) = k730 at *
         have hHeld := hHeld2
         clear hHeld2
         refine wpAnyH_take (i := 21) (oi := _) (v := ?_) rfl (by kernel_rfl) (by kernel_rfl) (by kernel_rfl) (fun _ _ _ h => h) (Or.inl ⟨by rfl, ?_⟩) (by assumption) ?_
         rotate_left
         focus (intro wS hSw; (try dsimp only at hSw); go_simp; (try with_reducible rfl))
         try simp only [Act.put, List.getElem_toArray, List.getElem_cons_zero, List.getElem_cons_succ, List.setIfInBounds_toArray, List.set_cons_zero, List.set_cons_succ]
         refine wpAnyH_ready (rs := [22]) (by kernel_rfl) (by simp) (AllReadyH.cons (o := _) rfl (fun K hK => ?_) AllReadyH.nil)
         have z731 := H729.out.cell 2 rfl 0 rfl
         have z732 := H729.out.free 2 rfl 0
         have z733 := H729.out.cell 2 rfl 1 rfl
         have z734 := H729.out.free 2 rfl 1
         have z735 := H729.out.cell 2 rfl 2 rfl
         have z736 := H729.out.free 2 rfl 2
         have z737 := H729.out.cell 2 rfl 3 rfl
         have z738 := H729.out.free 2 rfl 3
         have H739 := hid (show St B W [.cells D719 #[.int .i64 e691_0, .int .i64 e691_1] 38, .own (.slice wv688a wl689.length wv688c) wl689, .cells D684 #[.int .i64 q722_0, .int .i64 q722_1, .int .i64 q722_2, .int .i64 q722_3] 33, .cells D21 #[.int .i64 1, .int .i64 3, .int .i64 2] 3, .cells D15 #[.int .i64 1, .int .i64 3, .int .i64 2, .int .i64 5, .int .i64 9] 3, .cells D12 #[.int .i64 pw9, .int .i64 ph9, .int .i64 pm9, .slice pv9a ps9.length pv9c] 35, .own (.slice pv9a ps9.length pv9c) ps9, .tape K3, .cells B #[.int .i64 r0, .int .i64 r1, .int .i64 r2, .int .i64 r3] 33] [] ((((k730.setCell ⟨D684, 0, none⟩ (.int .i64 q722_0)).setCell ⟨D684, 1, none⟩ (.int .i64 q722_1)).setCell ⟨D684, 2, none⟩ (.int .i64 q722_2)).setCell ⟨D684, 3, none⟩ (.int .i64 q722_3)) from (H729.out.set4 2 rfl (.int .i64 q722_0) (.int .i64 q722_1) (.int .i64 q722_2) (.int .i64 q722_3)))
         go_simp
         refine hK.out _ _ ?_ (fun hHeld2 => ?_)
         focus ((try dsimp only); (exact ⟨H739.out.cell 5 rfl 0 rfl, H739.out.cell 5 rfl 1 rfl, H739.out.cell 5 rfl 2 rfl, H739.out.cell 5 rfl 3 rfl⟩))
         clear hK K hHeld
         try simp only [Act.put, List.getElem_toArray, List.getElem_cons_zero, List.getElem_cons_succ, List.setIfInBounds_toArray, List.set_cons_zero, List.set_cons_succ]
         clear z731 z732 z733 z734 z735 z736 z737 z738
         generalize ((((k730.setCell ⟨D684, 0, none⟩ (.int .i64 q722_0)).setCell ⟨D684, 1, none⟩ (.int .i64 q722_1)).setCell ⟨D684, 2, none⟩ (.int .i64 q722_2)).setCell ⟨D684, 3, none⟩ (.int .i64 q722_3)) = k740 at *
         have hHeld := hHeld2
         clear hHeld2
         refine wpAnyH_done (by kernel_rfl) ?_ _
         try clear hHeld
         go_wp2_with fail
         go_meet
         exact ⟨D719, D684, _, _, _, _, _, _, _, _, _, _, rfl, rfl, rfl, rfl, H739.out.pick [1, 0, 2, 3, 4, 5, 6, 7, 8] rfl (by decide)⟩
       ·obtain ⟨D741, hD741⟩ : ∃ D, w692.heap.size = D := ⟨_, rfl⟩
        have H742 := hid (H693.out.alloc #[.int .i64 0, .int .i64 0] 38 hD741)
        go_simp
        refine hK.out _ _ ?_ (fun hHeld2 => ?_)
        focus ((try dsimp only); (exact ⟨H742.out.cell 5 rfl 0 rfl, H742.out.cell 5 rfl 1 rfl, H742.out.cell 5 rfl 2 rfl, H742.out.cell 5 rfl 3 rfl⟩))
        clear hK K hHeld
        try simp only [Act.put, List.getElem_toArray, List.getElem_cons_zero, List.getElem_cons_succ, List.setIfInBounds_toArray, List.set_cons_zero, List.set_cons_succ]
        clear hD741
        generalize (w692.alloc (.cells #[.int .i64 0, .int .i64 0] 38)) = k743 at *
        have hHeld := hHeld2
        clear hHeld2
        refine wpAnyH_ready (rs := [10]) (by kernel_rfl) (by simp) (AllReadyH.cons (o := _) rfl (fun K hK => ?_) AllReadyH.nil)
        go_simp
        go_at_call 18
        refine (nextB_any B K3 _ _ (by omega) (H742.out.tapeAt 7 rfl)).mono ?_
        rintro e w745 ⟨x744, rfl, x744a, x744b, htn, hgn, hsn⟩
        have H746 := hid (H742.out.next 7 rfl htn hgn)
        clear htn hgn hsn
        refine hK.out _ _ ?_ (fun hHeld2 => ?_)
        focus ((try dsimp only); (exact ⟨H746.out.cell 5 rfl 0 rfl, H746.out.cell 5 rfl 1 rfl, H746.out.cell 5 rfl 2 rfl, H746.out.cell 5 rfl 3 rfl⟩))
        clear hK K
        try simp only [Act.put, List.getElem_toArray, List.getElem_cons_zero, List.getElem_cons_succ, List.setIfInBounds_toArray, List.set_cons_zero, List.set_cons_succ]
        clear hHeld
        have hHeld := hHeld2
        clear hHeld2
        refine wpAnyH_ready (rs := [16]) (by kernel_rfl) (by simp) (AllReadyH.cons (o := _) rfl (fun K hK => ?_) AllReadyH.nil)
        go_simp
        go_at_call 26
        refine (within_any B K3 _ _ _ (by omega) (by omega) (by omega) (by omega) (H746.out.tapeAt 7 rfl)).mono ?_
        rintro e w748 ⟨q747_0, q747_1, q747_2, q747_3, rfl, hq747, ht, hg⟩
        have H749 := hid (H746.out.next 7 rfl ht hg)
        have HWq747 := hid hq747
        clear hq747 ht hg
        refine hK.out _ _ ?_ (fun hHeld2 => ?_)
        focus ((try dsimp only); (exact ⟨H749.out.cell 5 rfl 0 rfl, H749.out.cell 5 rfl 1 rfl, H749.out.cell 5 rfl 2 rfl, H749.out.cell 5 rfl 3 rfl⟩))
        clear hK K
        try simp only [Act.put, List.getElem_toArray, List.getElem_cons_zero, List.getElem_cons_succ, List.setIfInBounds_toArray, List.set_cons_zero, List.set_cons_succ]
        clear hHeld
        have hHeld := hHeld2
        clear hHeld2
        refine wpAnyH_take (i := 19) (oi := _) (v := ?_) rfl (by kernel_rfl) (by kernel_rfl) (by kernel_rfl) (fun _ _ _ h => h) (Or.inl ⟨by rfl, ?_⟩) (by assumption) ?_
        rotate_left
        focus (intro wS hSw; (try dsimp only at hSw); go_simp; (try with_reducible rfl))
        try simp only [Act.put, List.getElem_toArray, List.getElem_cons_zero, List.getElem_cons_succ, List.setIfInBounds_toArray, List.set_cons_zero, List.set_cons_succ]
        refine wpAnyH_ready (rs := [20]) (by kernel_rfl) (by simp) (AllReadyH.cons (o := _) rfl (fun K hK => ?_) AllReadyH.nil)
        have z750 := H749.out.cell 0 rfl 0 rfl
        have z751 := H749.out.free 0 rfl 0
        have z752 := H749.out.cell 0 rfl 1 rfl
        have z753 := H749.out.free 0 rfl 1
        have H754 := hid (show St B W [.cells D741 #[.int .i64 e691_0, .int .i64 e691_1] 38, .own (.slice wv688a wl689.length wv688c) wl689, .cells D684 #[.int .i64 0, .int .i64 0, .int .i64 0, .int .i64 0] 33, .cells D21 #[.int .i64 1, .int .i64 3, .int .i64 2] 3, .cells D15 #[.int .i64 1, .int .i64 3, .int .i64 2, .int .i64 5, .int .i64 9] 3, .cells D12 #[.int .i64 pw9, .int .i64 ph9, .int .i64 pm9, .slice pv9a ps9.length pv9c] 35, .own (.slice pv9a ps9.length pv9c) ps9, .tape K3, .cells B #[.int .i64 r0, .int .i64 r1, .int .i64 r2, .int .i64 r3] 33] [] ((w748.setCell ⟨D741, 0, none⟩ (.int .i64 e691_0)).setCell ⟨D741, 1, none⟩ (.int .i64 e691_1)) from ((H749.out.set 0 rfl 0 (.int .i64 e691_0)).set 0 rfl 1 (.int .i64 e691_1)))
        go_simp
        refine hK.out _ _ ?_ (fun hHeld2 => ?_)
        focus ((try dsimp only); (exact ⟨H754.out.cell 5 rfl 0 rfl, H754.out.cell 5 rfl 1 rfl, H754.out.cell 5 rfl 2 rfl, H754.out.cell 5 rfl 3 rfl⟩))
        clear hK K hHeld
        try simp only [Act.put, List.getElem_toArray, List.getElem_cons_zero, List.getElem_cons_succ, List.setIfInBounds_toArray, List.set_cons_zero, List.set_cons_succ]
        clear z750 z751 z752 z753
        generalize ((w748.setCell ⟨D741, 0, none⟩ (.int .i64 e691_0)).setCell ⟨D741, 1, none⟩ (.int .i64 e691_1)) = k755 at *
        have hHeld := hHeld2
        clear hHeld2
        refine wpAnyH_take (i := 21) (oi := _) (v := ?_) rfl (by kernel_rfl) (by kernel_rfl) (by kernel_rfl) (fun _ _ _ h => h) (Or.inl ⟨by rfl, ?_⟩) (by assumption) ?_
        rotate_left
        focus (intro wS hSw; (try dsimp only at hSw); go_simp; (try with_reducible rfl))
        try simp only [Act.put, List.getElem_toArray, List.getElem_cons_zero, List.getElem_cons_succ, List.setIfInBounds_toArray, List.set_cons_zero, List.set_cons_succ]
        refine wpAnyH_ready (rs := [22]) (by kernel_rfl) (by simp) (AllReadyH.cons (o := _) rfl (fun K hK => ?_) AllReadyH.nil)
        have z756 := H754.out.cell 2 rfl 0 rfl
        have z757 := H754.out.free 2 rfl 0
        have z758 := H754.out.cell 2 rfl 1 rfl
        have z759 := H754.out.free 2 rfl 1
        have z760 := H754.out.cell 2 rfl 2 rfl
        have z761 := H754.out.free 2 rfl 2
        have z762 := H754.out.cell 2 rfl 3 rfl
        have z763 := H754.out.free 2 rfl 3
        have H764 := hid (show St B W [.cells D741 #[.int .i64 e691_0, .int .i64 e691_1] 38, .own (.slice wv688a wl689.length wv688c) wl689, .cells D684 #[.int .i64 q747_0, .int .i64 q747_1, .int .i64 q747_2, .int .i64 q747_3] 33, .cells D21 #[.int .i64 1, .int .i64 3, .int .i64 2] 3, .cells D15 #[.int .i64 1, .int .i64 3, .int .i64 2, .int .i64 5, .int .i64 9] 3, .cells D12 #[.int .i64 pw9, .int .i64 ph9, .int .i64 pm9, .slice pv9a ps9.length pv9c] 35, .own (.slice pv9a ps9.length pv9c) ps9, .tape K3, .cells B #[.int .i64 r0, .int .i64 r1, .int .i64 r2, .int .i64 r3] 33] [] ((((k755.setCell ⟨D684, 0, none⟩ (.int .i64 q747_0)).setCell ⟨D684, 1, none⟩ (.int .i64 q747_1)).setCell ⟨D684, 2, none⟩ (.int .i64 q747_2)).setCell ⟨D684, 3, none⟩ (.int .i64 q747_3)) from (H754.out.set4 2 rfl (.int .i64 q747_0) (.int .i64 q747_1) (.int .i64 q747_2) (.int .i64 q747_3)))
        go_simp
        refine hK.out _ _ ?_ (fun hHeld2 => ?_)
        focus ((try dsimp only); (exact ⟨H764.out.cell 5 rfl 0 rfl, H764.out.cell 5 rfl 1 rfl, H764.out.cell 5 rfl 2 rfl, H764.out.cell 5 rfl 3 rfl⟩))
        clear hK K hHeld
        try simp only [Act.put, List.getElem_toArray, List.getElem_cons_zero, List.getElem_cons_succ, List.setIfInBounds_toArray, List.set_cons_zero, List.set_cons_succ]
        clear z756 z757 z758 z759 z760 z761 z762 z763
        generalize ((((k755.setCell ⟨D684, 0, none⟩ (.int .i64 q747_0)).setCell ⟨D684, 1, none⟩ (.int .i64 q747_1)).setCell ⟨D684, 2, none⟩ (.int .i64 q747_2)).setCell ⟨D684, 3, none⟩ (.int .i64 q747_3)) = k765 at *
        have hHeld := hHeld2
        clear hHeld2
        refine wpAnyH_done (by kernel_rfl) ?_ _
        try clear hHeld
        go_wp2_with fail
        go_meet
        exact ⟨D741, D684, _, _, _, _, _, _, _, _, _, _, rfl, rfl, rfl, rfl, H764.out.pick [1, 0, 2, 3, 4, 5, 6, 7, 8] rfl (by decide)⟩
      ·obtain ⟨D766, hD766⟩ : ∃ D, w687.heap.size = D := ⟨_, rfl⟩
       have H767 := hid (H690.out.alloc #[.int .i64 0, .int .i64 0] 38 hD766)
       go_simp
       refine hK.out _ _ ?_ (fun hHeld2 => ?_)
       focus ((try dsimp only); (exact ⟨H767.out.cell 5 rfl 0 rfl, H767.out.cell 5 rfl 1 rfl, H767.out.cell 5 rfl 2 rfl, H767.out.cell 5 rfl 3 rfl⟩))
       clear hK K hHeld
       try simp only [Act.put, List.getElem_toArray, List.getElem_cons_zero, List.getElem_cons_succ, List.setIfInBounds_toArray, List.set_cons_zero, List.set_cons_succ]
       clear hD766
       generalize (w687.alloc (.cells #[.int .i64 0, .int .i64 0] 38)) = k768 at *
       have hHeld := hHeld2
       clear hHeld2
       refine wpAnyH_ready (rs := [8]) (by kernel_rfl) (by simp) (AllReadyH.cons (o := _) rfl (fun K hK => ?_) AllReadyH.nil)
       go_simp
       go_at_call 25
       refine (edge_any B K3 _ _ (H767.out.tapeAt 7 rfl)).mono ?_
       rintro e w770 ⟨e769_0, e769_1, rfl, ht, hg⟩
       have H771 := hid (H767.out.next 7 rfl ht hg)
       clear ht hg
       refine hK.out _ _ ?_ (fun hHeld2 => ?_)
       focus ((try dsimp only); (exact ⟨H771.out.cell 5 rfl 0 rfl, H771.out.cell 5 rfl 1 rfl, H771.out.cell 5 rfl 2 rfl, H771.out.cell 5 rfl 3 rfl⟩))
       clear hK K
       try simp only [Act.put, List.getElem_toArray, List.getElem_cons_zero, List.getElem_cons_succ, List.setIfInBounds_toArray, List.set_cons_zero, List.set_cons_succ]
       clear hHeld
       have hHeld := hHeld2
       clear hHeld2
       refine wpAnyH_ready (rs := [10]) (by kernel_rfl) (by simp) (AllReadyH.cons (o := _) rfl (fun K hK => ?_) AllReadyH.nil)
       go_simp
       go_at_call 18
       refine (nextB_any B K3 _ _ (by omega) (H771.out.tapeAt 7 rfl)).mono ?_
       rintro e w773 ⟨x772, rfl, x772a, x772b, htn, hgn, hsn⟩
       have H774 := hid (H771.out.next 7 rfl htn hgn)
       clear htn hgn hsn
       refine hK.out _ _ ?_ (fun hHeld2 => ?_)
       focus ((try dsimp only); (exact ⟨H774.out.cell 5 rfl 0 rfl, H774.out.cell 5 rfl 1 rfl, H774.out.cell 5 rfl 2 rfl, H774.out.cell 5 rfl 3 rfl⟩))
       clear hK K
       try simp only [Act.put, List.getElem_toArray, List.getElem_cons_zero, List.getElem_cons_succ, List.setIfInBounds_toArray, List.set_cons_zero, List.set_cons_succ]
       clear hHeld
       have hHeld := hHeld2
       clear hHeld2
       refine wpAnyH_ready (rs := [16]) (by kernel_rfl) (by simp) (AllReadyH.cons (o := _) rfl (fun K hK => ?_) AllReadyH.nil)
       go_simp
       go_at_call 26
       refine (within_any B K3 _ _ _ (by omega) (by omega) (by omega) (by omega) (H774.out.tapeAt 7 rfl)).mono ?_
       rintro e w776 ⟨q775_0, q775_1, q775_2, q775_3, rfl, hq775, ht, hg⟩
       have H777 := hid (H774.out.next 7 rfl ht hg)
       have HWq775 := hid hq775
       clear hq775 ht hg
       refine hK.out _ _ ?_ (fun hHeld2 => ?_)
       focus ((try dsimp only); (exact ⟨H777.out.cell 5 rfl 0 rfl, H777.out.cell 5 rfl 1 rfl, H777.out.cell 5 rfl 2 rfl, H777.out.cell 5 rfl 3 rfl⟩))
       clear hK K
       try simp only [Act.put, List.getElem_toArray, List.getElem_cons_zero, List.getElem_cons_succ, List.setIfInBounds_toArray, List.set_cons_zero, List.set_cons_succ]
       clear hHeld
       have hHeld := hHeld2
       clear hHeld2
       refine wpAnyH_take (i := 19) (oi := _) (v := ?_) rfl (by kernel_rfl) (by kernel_rfl) (by kernel_rfl) (fun _ _ _ h => h) (Or.inl ⟨by rfl, ?_⟩) (by assumption) ?_
       rotate_left
       focus (intro wS hSw; (try dsimp only at hSw); go_simp; (try with_reducible rfl))
       try simp only [Act.put, List.getElem_toArray, List.getElem_cons_zero, List.getElem_cons_succ, List.setIfInBounds_toArray, List.set_cons_zero, List.set_cons_succ]
       refine wpAnyH_ready (rs := [20]) (by kernel_rfl) (by simp) (AllReadyH.cons (o := _) rfl (fun K hK => ?_) AllReadyH.nil)
       have z778 := H777.out.cell 0 rfl 0 rfl
       have z779 := H777.out.free 0 rfl 0
       have z780 := H777.out.cell 0 rfl 1 rfl
       have z781 := H777.out.free 0 rfl 1
       have H782 := hid (show St B W [.cells D766 #[.int .i64 e769_0, .int .i64 e769_1] 38, .own (.slice wv688a wl689.length wv688c) wl689, .cells D684 #[.int .i64 0, .int .i64 0, .int .i64 0, .int .i64 0] 33, .cells D21 #[.int .i64 1, .int .i64 3, .int .i64 2] 3, .cells D15 #[.int .i64 1, .int .i64 3, .int .i64 2, .int .i64 5, .int .i64 9] 3, .cells D12 #[.int .i64 pw9, .int .i64 ph9, .int .i64 pm9, .slice pv9a ps9.length pv9c] 35, .own (.slice pv9a ps9.length pv9c) ps9, .tape K3, .cells B #[.int .i64 r0, .int .i64 r1, .int .i64 r2, .int .i64 r3] 33] [] ((w776.setCell ⟨D766, 0, none⟩ (.int .i64 e769_0)).setCell ⟨D766, 1, none⟩ (.int .i64 e769_1)) from ((H777.out.set 0 rfl 0 (.int .i64 e769_0)).set 0 rfl 1 (.int .i64 e769_1)))
       go_simp
       refine hK.out _ _ ?_ (fun hHeld2 => ?_)
       focus ((try dsimp only); (exact ⟨H782.out.cell 5 rfl 0 rfl, H782.out.cell 5 rfl 1 rfl, H782.out.cell 5 rfl 2 rfl, H782.out.cell 5 rfl 3 rfl⟩))
       clear hK K hHeld
       try simp only [Act.put, List.getElem_toArray, List.getElem_cons_zero, List.getElem_cons_succ, List.setIfInBounds_toArray, List.set_cons_zero, List.set_cons_succ]
       clear z778 z779 z780 z781
       generalize ((w776.setCell ⟨D766, 0, none⟩ (.int .i64 e769_0)).setCell ⟨D766, 1, none⟩ (.int .i64 e769_1)) = k783 at *
       have hHeld := hHeld2
       clear hHeld2
       refine wpAnyH_take (i := 21) (oi := _) (v := ?_) rfl (by kernel_rfl) (by kernel_rfl) (by kernel_rfl) (fun _ _ _ h => h) (Or.inl ⟨by rfl, ?_⟩) (by assumption) ?_
       rotate_left
       focus (intro wS hSw; (try dsimp only at hSw); go_simp; (try with_reducible rfl))
       try simp only [Act.put, List.getElem_toArray, List.getElem_cons_zero, List.getElem_cons_succ, List.setIfInBounds_toArray, List.set_cons_zero, List.set_cons_succ]
       refine wpAnyH_ready (rs := [22]) (by kernel_rfl) (by simp) (AllReadyH.cons (o := _) rfl (fun K hK => ?_) AllReadyH.nil)
       have z784 := H782.out.cell 2 rfl 0 rfl
       have z785 := H782.out.free 2 rfl 0
       have z786 := H782.out.cell 2 rfl 1 rfl
       have z787 := H782.out.free 2 rfl 1
       have z788 := H782.out.cell 2 rfl 2 rfl
       have z789 := H782.out.free 2 rfl 2
       have z790 := H782.out.cell 2 rfl 3 rfl
       have z791 := H782.out.free 2 rfl 3
       have H792 := hid (show St B W [.cells D766 #[.int .i64 e769_0, .int .i64 e769_1] 38, .own (.slice wv688a wl689.length wv688c) wl689, .cells D684 #[.int .i64 q775_0, .int .i64 q775_1, .int .i64 q775_2, .int .i64 q775_3] 33, .cells D21 #[.int .i64 1, .int .i64 3, .int .i64 2] 3, .cells D15 #[.int .i64 1, .int .i64 3, .int .i64 2, .int .i64 5, .int .i64 9] 3, .cells D12 #[.int .i64 pw9, .int .i64 ph9, .int .i64 pm9, .slice pv9a ps9.length pv9c] 35, .own (.slice pv9a ps9.length pv9c) ps9, .tape K3, .cells B #[.int .i64 r0, .int .i64 r1, .int .i64 r2, .int .i64 r3] 33] [] ((((k783.setCell ⟨D684, 0, none⟩ (.int .i64 q775_0)).setCell ⟨D684, 1, none⟩ (.int .i64 q775_1)).setCell ⟨D684, 2, none⟩ (.int .i64 q775_2)).setCell ⟨D684, 3, none⟩ (.int .i64 q775_3)) from (H782.out.set4 2 rfl (.int .i64 q775_0) (.int .i64 q775_1) (.int .i64 q775_2) (.int .i64 q775_3)))
       go_simp
       refine hK.out _ _ ?_ (fun hHeld2 => ?_)
       focus ((try dsimp only); (exact ⟨H792.out.cell 5 rfl 0 rfl, H792.out.cell 5 rfl 1 rfl, H792.out.cell 5 rfl 2 rfl, H792.out.cell 5 rfl 3 rfl⟩))
       clear hK K hHeld
       try simp only [Act.put, List.getElem_toArray, List.getElem_cons_zero, List.getElem_cons_succ, List.setIfInBounds_toArray, List.set_cons_zero, List.set_cons_succ]
       clear z784 z785 z786 z787 z788 z789 z790 z791
       generalize ((((k783.setCell ⟨D684, 0, none⟩ (.int .i64 q775_0)).setCell ⟨D684, 1, none⟩ (.int .i64 q775_1)).setCell ⟨D684, 2, none⟩ (.int .i64 q775_2)).setCell ⟨D684, 3, none⟩ (.int .i64 q775_3)) = k793 at *
       have hHeld := hHeld2
       clear hHeld2
       refine wpAnyH_done (by kernel_rfl) ?_ _
       try clear hHeld
       go_wp2_with fail
       go_meet
       exact ⟨D766, D684, _, _, _, _, _, _, _, _, _, _, rfl, rfl, rfl, rfl, H792.out.pick [1, 0, 2, 3, 4, 5, 6, 7, 8] rfl (by decide)⟩
     ·obtain ⟨D794, hD794⟩ : ∃ D, k686.heap.size = D := ⟨_, rfl⟩
      have H795 := hid (H685.out.alloc #[.int .i64 0, .int .i64 0] 38 hD794)
      go_simp
      refine hK.out _ _ ?_ (fun hHeld2 => ?_)
      focus ((try dsimp only); (exact ⟨H795.out.cell 4 rfl 0 rfl, H795.out.cell 4 rfl 1 rfl, H795.out.cell 4 rfl 2 rfl, H795.out.cell 4 rfl 3 rfl⟩))
      clear hK K hHeld
      try simp only [Act.put, List.getElem_toArray, List.getElem_cons_zero, List.getElem_cons_succ, List.setIfInBounds_toArray, List.set_cons_zero, List.set_cons_succ]
      clear hD794
      generalize (k686.alloc (.cells #[.int .i64 0, .int .i64 0] 38)) = k796 at *
      have hHeld := hHeld2
      clear hHeld2
      refine wpAnyH_ready (rs := [4]) (by kernel_rfl) (by simp) (AllReadyH.cons (o := _) rfl (fun K hK => ?_) AllReadyH.nil)
      go_simp
      go_at_call 19
      refine (weights_any B K3 _ _ (by omega) (H795.out.tapeAt 6 rfl)).mono ?_
      rintro e w797 ⟨wv798, wl799, rfl, hlen, hin, ho, ht, hg⟩
      have H800 := hid (H795.out.add (H795.out.next 6 rfl ht hg) ho)
      have HWLwl799 := hid hlen
      have HWBwl799 := hid hin
      obtain ⟨wv798a, wv798c, rfl, _⟩ := ho.slc
      clear hlen hin ho ht hg
      refine hK.out _ _ ?_ (fun hHeld2 => ?_)
      focus ((try dsimp only); (exact ⟨H800.out.cell 5 rfl 0 rfl, H800.out.cell 5 rfl 1 rfl, H800.out.cell 5 rfl 2 rfl, H800.out.cell 5 rfl 3 rfl⟩))
      clear hK K
      try simp only [Act.put, List.getElem_toArray, List.getElem_cons_zero, List.getElem_cons_succ, List.setIfInBounds_toArray, List.set_cons_zero, List.set_cons_succ]
      clear hHeld
      have hHeld := hHeld2
      clear hHeld2
      refine wpAnyH_ready (rs := [8]) (by kernel_rfl) (by simp) (AllReadyH.cons (o := _) rfl (fun K hK => ?_) AllReadyH.nil)
      go_simp
      go_at_call 25
      refine (edge_any B K3 _ _ (H800.out.tapeAt 7 rfl)).mono ?_
      rintro e w802 ⟨e801_0, e801_1, rfl, ht, hg⟩
      have H803 := hid (H800.out.next 7 rfl ht hg)
      clear ht hg
      refine hK.out _ _ ?_ (fun hHeld2 => ?_)
      focus ((try dsimp only); (exact ⟨H803.out.cell 5 rfl 0 rfl, H803.out.cell 5 rfl 1 rfl, H803.out.cell 5 rfl 2 rfl, H803.out.cell 5 rfl 3 rfl⟩))
      clear hK K
      try simp only [Act.put, List.getElem_toArray, List.getElem_cons_zero, List.getElem_cons_succ, List.setIfInBounds_toArray, List.set_cons_zero, List.set_cons_succ]
      clear hHeld
      have hHeld := hHeld2
      clear hHeld2
      refine wpAnyH_ready (rs := [10]) (by kernel_rfl) (by simp) (AllReadyH.cons (o := _) rfl (fun K hK => ?_) AllReadyH.nil)
      go_simp
      go_at_call 18
      refine (nextB_any B K3 _ _ (by omega) (H803.out.tapeAt 7 rfl)).mono ?_
      rintro e w805 ⟨x804, rfl, x804a, x804b, htn, hgn, hsn⟩
      have H806 := hid (H803.out.next 7 rfl htn hgn)
      clear htn hgn hsn
      refine hK.out _ _ ?_ (fun hHeld2 => ?_)
      focus ((try dsimp only); (exact ⟨H806.out.cell 5 rfl 0 rfl, H806.out.cell 5 rfl 1 rfl, H806.out.cell 5 rfl 2 rfl, H806.out.cell 5 rfl 3 rfl⟩))
      clear hK K
      try simp only [Act.put, List.getElem_toArray, List.getElem_cons_zero, List.getElem_cons_succ, List.setIfInBounds_toArray, List.set_cons_zero, List.set_cons_succ]
      clear hHeld
      have hHeld := hHeld2
      clear hHeld2
      refine wpAnyH_ready (rs := [16]) (by kernel_rfl) (by simp) (AllReadyH.cons (o := _) rfl (fun K hK => ?_) AllReadyH.nil)
      go_simp
      go_at_call 26
      refine (within_any B K3 _ _ _ (by omega) (by omega) (by omega) (by omega) (H806.out.tapeAt 7 rfl)).mono ?_
      rintro e w808 ⟨q807_0, q807_1, q807_2, q807_3, rfl, hq807, ht, hg⟩
      have H809 := hid (H806.out.next 7 rfl ht hg)
      have HWq807 := hid hq807
      clear hq807 ht hg
      refine hK.out _ _ ?_ (fun hHeld2 => ?_)
      focus ((try dsimp only); (exact ⟨H809.out.cell 5 rfl 0 rfl, H809.out.cell 5 rfl 1 rfl, H809.out.cell 5 rfl 2 rfl, H809.out.cell 5 rfl 3 rfl⟩))
      clear hK K
      try simp only [Act.put, List.getElem_toArray, List.getElem_cons_zero, List.getElem_cons_succ, List.setIfInBounds_toArray, List.set_cons_zero, List.set_cons_succ]
      clear hHeld
      have hHeld := hHeld2
      clear hHeld2
      refine wpAnyH_take (i := 19) (oi := _) (v := ?_) rfl (by kernel_rfl) (by kernel_rfl) (by kernel_rfl) (fun _ _ _ h => h) (Or.inl ⟨by rfl, ?_⟩) (by assumption) ?_
      rotate_left
      focus (intro wS hSw; (try dsimp only at hSw); go_simp; (try with_reducible rfl))
      try simp only [Act.put, List.getElem_toArray, List.getElem_cons_zero, List.getElem_cons_succ, List.setIfInBounds_toArray, List.set_cons_zero, List.set_cons_succ]
      refine wpAnyH_ready (rs := [20]) (by kernel_rfl) (by simp) (AllReadyH.cons (o := _) rfl (fun K hK => ?_) AllReadyH.nil)
      have z810 := H809.out.cell 1 rfl 0 rfl
      have z811 := H809.out.free 1 rfl 0
      have z812 := H809.out.cell 1 rfl 1 rfl
      have z813 := H809.out.free 1 rfl 1
      have H814 := hid (show St B W [.own (.slice wv798a wl799.length wv798c) wl799, .cells D794 #[.int .i64 e801_0, .int .i64 e801_1] 38, .cells D684 #[.int .i64 0, .int .i64 0, .int .i64 0, .int .i64 0] 33, .cells D21 #[.int .i64 1, .int .i64 3, .int .i64 2] 3, .cells D15 #[.int .i64 1, .int .i64 3, .int .i64 2, .int .i64 5, .int .i64 9] 3, .cells D12 #[.int .i64 pw9, .int .i64 ph9, .int .i64 pm9, .slice pv9a ps9.length pv9c] 35, .own (.slice pv9a ps9.length pv9c) ps9, .tape K3, .cells B #[.int .i64 r0, .int .i64 r1, .int .i64 r2, .int .i64 r3] 33] [] ((w808.setCell ⟨D794, 0, none⟩ (.int .i64 e801_0)).setCell ⟨D794, 1, none⟩ (.int .i64 e801_1)) from ((H809.out.set 1 rfl 0 (.int .i64 e801_0)).set 1 rfl 1 (.int .i64 e801_1)))
      go_simp
      refine hK.out _ _ ?_ (fun hHeld2 => ?_)
      focus ((try dsimp only); (exact ⟨H814.out.cell 5 rfl 0 rfl, H814.out.cell 5 rfl 1 rfl, H814.out.cell 5 rfl 2 rfl, H814.out.cell 5 rfl 3 rfl⟩))
      clear hK K hHeld
      try simp only [Act.put, List.getElem_toArray, List.getElem_cons_zero, List.getElem_cons_succ, List.setIfInBounds_toArray, List.set_cons_zero, List.set_cons_succ]
      clear z810 z811 z812 z813
      generalize ((w808.setCell ⟨D794, 0, none⟩ (.int .i64 e801_0)).setCell ⟨D794, 1, none⟩ (.int .i64 e801_1)) = k815 at *
      have hHeld := hHeld2
      clear hHeld2
      refine wpAnyH_take (i := 21) (oi := _) (v := ?_) rfl (by kernel_rfl) (by kernel_rfl) (by kernel_rfl) (fun _ _ _ h => h) (Or.inl ⟨by rfl, ?_⟩) (by assumption) ?_
      rotate_left
      focus (intro wS hSw; (try dsimp only at hSw); go_simp; (try with_reducible rfl))
      try simp only [Act.put, List.getElem_toArray, List.getElem_cons_zero, List.getElem_cons_succ, List.setIfInBounds_toArray, List.set_cons_zero, List.set_cons_succ]
      refine wpAnyH_ready (rs := [22]) (by kernel_rfl) (by simp) (AllReadyH.cons (o := _) rfl (fun K hK => ?_) AllReadyH.nil)
      have z816 := H814.out.cell 2 rfl 0 rfl
      have z817 := H814.out.free 2 rfl 0
      have z818 := H814.out.cell 2 rfl 1 rfl
      have z819 := H814.out.free 2 rfl 1
      have z820 := H814.out.cell 2 rfl 2 rfl
      have z821 := H814.out.free 2 rfl 2
      have z822 := H814.out.cell 2 rfl 3 rfl
      have z823 := H814.out.free 2 rfl 3
      have H824 := hid (show St B W [.own (.slice wv798a wl799.length wv798c) wl799, .cells D794 #[.int .i64 e801_0, .int .i64 e801_1] 38, .cells D684 #[.int .i64 q807_0, .int .i64 q807_1, .int .i64 q807_2, .int .i64 q807_3] 33, .cells D21 #[.int .i64 1, .int .i64 3, .int .i64 2] 3, .cells D15 #[.int .i64 1, .int .i64 3, .int .i64 2, .int .i64 5, .int .i64 9] 3, .cells D12 #[.int .i64 pw9, .int .i64 ph9, .int .i64 pm9, .slice pv9a ps9.length pv9c] 35, .own (.slice pv9a ps9.length pv9c) ps9, .tape K3, .cells B #[.int .i64 r0, .int .i64 r1, .int .i64 r2, .int .i64 r3] 33] [] ((((k815.setCell ⟨D684, 0, none⟩ (.int .i64 q807_0)).setCell ⟨D684, 1, none⟩ (.int .i64 q807_1)).setCell ⟨D684, 2, none⟩ (.int .i64 q807_2)).setCell ⟨D684, 3, none⟩ (.int .i64 q807_3)) from (H814.out.set4 2 rfl (.int .i64 q807_0) (.int .i64 q807_1) (.int .i64 q807_2) (.int .i64 q807_3)))
      go_simp
      refine hK.out _ _ ?_ (fun hHeld2 => ?_)
      focus ((try dsimp only); (exact ⟨H824.out.cell 5 rfl 0 rfl, H824.out.cell 5 rfl 1 rfl, H824.out.cell 5 rfl 2 rfl, H824.out.cell 5 rfl 3 rfl⟩))
      clear hK K hHeld
      try simp only [Act.put, List.getElem_toArray, List.getElem_cons_zero, List.getElem_cons_succ, List.setIfInBounds_toArray, List.set_cons_zero, List.set_cons_succ]
      clear z816 z817 z818 z819 z820 z821 z822 z823
      generalize ((((k815.setCell ⟨D684, 0, none⟩ (.int .i64 q807_0)).setCell ⟨D684, 1, none⟩ (.int .i64 q807_1)).setCell ⟨D684, 2, none⟩ (.int .i64 q807_2)).setCell ⟨D684, 3, none⟩ (.int .i64 q807_3)) = k825 at *
      have hHeld := hHeld2
      clear hHeld2
      refine wpAnyH_done (by kernel_rfl) ?_ _
      try clear hHeld
      go_wp2_with fail
      go_meet
      exact ⟨D794, D684, _, _, _, _, _, _, _, _, _, _, rfl, rfl, rfl, rfl, H824.out.pick [0, 1, 2, 3, 4, 5, 6, 7, 8] rfl (by decide)⟩
   case rest =>
    obtain ⟨RE, RQ, wla, wlc, wls, ep, ef, sh, q0, q1, q2, q3, rfl, rfl, rfl, rfl, hst⟩ := hcut
    obtain ⟨u826, rfl⟩ : ∃ u826 : World, u826 = wc := ⟨_, rfl⟩
    have H827 := hid hst
    clear hst
    clear ab1 ab2 hab wab
    go_upto_if 50 with fail
    go_cut [] (fun wx => ∃ (y0 y1 y2 y3 : Int), St B W [.cells RQ #[.int .i64 y0, .int .i64 y1, .int .i64 y2, .int .i64 y3] 33, .own (.slice wla wls.length wlc) wls, .cells RE #[.int .i64 ep, .int .i64 ef] 38, .cells D21 #[.int .i64 1, .int .i64 3, .int .i64 2] 3, .cells D15 #[.int .i64 1, .int .i64 3, .int .i64 2, .int .i64 5, .int .i64 9] 3, .cells D12 #[.int .i64 pw9, .int .i64 ph9, .int .i64 pm9, .slice pv9a ps9.length pv9c] 35, .own (.slice pv9a ps9.length pv9c) ps9, .tape K3, .cells B #[.int .i64 r0, .int .i64 r1, .int .i64 r2, .int .i64 r3] 33] [] wx)
    case first =>
     by_cases hN : j = 2
     ·skip
      subst hN
      go_upto_region 9 with fail
      have H828 := hid H827.out.drew
      refine wp_region_held_drew (S := (fun w' => w'.cell? ⟨B, 0, none⟩ = some (.int .i64 r0) ∧ w'.cell? ⟨B, 1, none⟩ = some (.int .i64 r1) ∧ w'.cell? ⟨B, 2, none⟩ = some (.int .i64 r2) ∧ w'.cell? ⟨B, 3, none⟩ = some (.int .i64 r3))) (by kernel_rfl) ⟨H828.out.cell 8 rfl 0 rfl, H828.out.cell 8 rfl 1 rfl, H828.out.cell 8 rfl 2 rfl, H828.out.cell 8 rfl 3 rfl⟩ (fun hHeld => ?_)
      generalize u826.drew = k829 at *
      refine wpAnyH_take (i := 0) (oi := _) (v := ?_) rfl (by kernel_rfl) (by kernel_rfl) (by kernel_rfl) (fun _ _ _ h => h) (Or.inl ⟨by rfl, ?_⟩) (by assumption) ?_
      rotate_left
      focus (intro wS hSw; (try dsimp only at hSw); go_simp; (try with_reducible rfl))
      try simp only [Act.put, List.getElem_toArray, List.getElem_cons_zero, List.getElem_cons_succ, List.setIfInBounds_toArray, List.set_cons_zero, List.set_cons_succ]
      refine wpAnyH_take (i := 1) (oi := _) (v := ?_) rfl (by kernel_rfl) (by kernel_rfl) (by kernel_rfl) (fun _ _ _ h => h) (Or.inl ⟨by rfl, ?_⟩) (by assumption) ?_
      rotate_left
      focus (intro wS hSw; (try dsimp only at hSw); go_simp; (try with_reducible rfl))
      try simp only [Act.put, List.getElem_toArray, List.getElem_cons_zero, List.getElem_cons_succ, List.setIfInBounds_toArray, List.set_cons_zero, List.set_cons_succ]
      refine wpAnyH_take (i := 4) (oi := _) (v := ?_) rfl (by kernel_rfl) (by kernel_rfl) (by kernel_rfl) (fun _ _ _ h => h) (Or.inl ⟨by rfl, ?_⟩) (by assumption) ?_
      rotate_left
      focus (intro wS hSw; (try dsimp only at hSw); go_simp; (try with_reducible rfl))
      try simp only [Act.put, List.getElem_toArray, List.getElem_cons_zero, List.getElem_cons_succ, List.setIfInBounds_toArray, List.set_cons_zero, List.set_cons_succ]
      refine wpAnyH_ready (rs := [2]) (by kernel_rfl) (by simp) (AllReadyH.cons (o := _) rfl (fun K hK => ?_) AllReadyH.nil)
      go_simp
      go_at_call 27
      refine (rectB_any B K3 _ (H828.out.tapeAt 7 rfl)).mono ?_
      rintro e w831 ⟨r830_0, r830_1, r830_2, r830_3, rfl, ht, hg⟩
      have H832 := hid (H828.out.next 7 rfl ht hg)
      clear ht hg
      refine hK.out _ _ ?_ (fun hHeld2 => ?_)
      focus ((try dsimp only); (exact ⟨H832.out.cell 8 rfl 0 rfl, H832.out.cell 8 rfl 1 rfl, H832.out.cell 8 rfl 2 rfl, H832.out.cell 8 rfl 3 rfl⟩))
      clear hK K
      try simp only [Act.put, List.getElem_toArray, List.getElem_cons_zero, List.getElem_cons_succ, List.setIfInBounds_toArray, List.set_cons_zero, List.set_cons_succ]
      clear hHeld
      have hHeld := hHeld2
      clear hHeld2
      refine wpAnyH_ready (rs := [3, 5]) (by kernel_rfl) (by simp) (AllReadyH.cons (o := _) rfl (fun K hK => ?_) (AllReadyH.cons (o := _) rfl (fun K hK => ?_) AllReadyH.nil))
      ·obtain ⟨D833, hD833⟩ : ∃ D, w831.heap.size = D := ⟨_, rfl⟩
       have H834 := hid (H832.out.alloc #[.int .i64 r0, .int .i64 r1, .int .i64 r2, .int .i64 r3, .int .i64 r830_0, .int .i64 r830_1, .int .i64 r830_2, .int .i64 r830_3] 33 hD833)
       go_simp
       refine hK.out _ _ ?_ (fun hHeld2 => ?_)
       focus ((try dsimp only); (exact ⟨H834.out.cell 9 rfl 0 rfl, H834.out.cell 9 rfl 1 rfl, H834.out.cell 9 rfl 2 rfl, H834.out.cell 9 rfl 3 rfl⟩))
       clear hK K hHeld
       try simp only [Act.put, List.getElem_toArray, List.getElem_cons_zero, List.getElem_cons_succ, List.setIfInBounds_toArray, List.set_cons_zero, List.set_cons_succ]
       clear hD833
       generalize (w831.alloc (.cells #[.int .i64 r0, .int .i64 r1, .int .i64 r2, .int .i64 r3, .int .i64 r830_0, .int .i64 r830_1, .int .i64 r830_2, .int .i64 r830_3] 33)) = k835 at *
       have hHeld := hHeld2
       clear hHeld2
       refine wpAnyH_ready (rs := [5]) (by kernel_rfl) (by simp) (AllReadyH.cons (o := _) rfl (fun K hK => ?_) AllReadyH.nil)
       go_simp
       go_at_call 18
       refine (nextB_any B K3 _ _ (by omega) (H834.out.tapeAt 8 rfl)).mono ?_
       rintro e w837 ⟨x836, rfl, x836a, x836b, htn, hgn, hsn⟩
       have H838 := hid (H834.out.next 8 rfl htn hgn)
       clear htn hgn hsn
       refine hK.out _ _ ?_ (fun hHeld2 => ?_)
       focus ((try dsimp only); (exact ⟨H838.out.cell 9 rfl 0 rfl, H838.out.cell 9 rfl 1 rfl, H838.out.cell 9 rfl 2 rfl, H838.out.cell 9 rfl 3 rfl⟩))
       clear hK K
       try simp only [Act.put, List.getElem_toArray, List.getElem_cons_zero, List.getElem_cons_succ, List.setIfInBounds_toArray, List.set_cons_zero, List.set_cons_succ]
       clear hHeld
       have hHeld := hHeld2
       clear hHeld2
       rcases (show x836 = 0 ∨ x836 = 1 by omega) with hx0 | hx0
       ·skip
        subst hx0
        refine wpAnyH_take (i := 6) (oi := _) (v := ?_) rfl (by kernel_rfl) (by kernel_rfl) (by kernel_rfl) (fun _ _ _ h => h) (Or.inl ⟨by rfl, ?_⟩) (by assumption) ?_
        rotate_left
        focus (intro wS hSw; (try dsimp only at hSw); go_simp; (try with_reducible rfl))
        try simp only [Act.put, List.getElem_toArray, List.getElem_cons_zero, List.getElem_cons_succ, List.setIfInBounds_toArray, List.set_cons_zero, List.set_cons_succ]
        refine wpAnyH_ready (rs := [7]) (by kernel_rfl) (by simp) (AllReadyH.cons (o := _) rfl (fun K hK => ?_) AllReadyH.nil)
        have g839 := H838.out.cell 0 rfl 0 rfl
        have g840 := H838.out.cell 0 rfl 1 rfl
        have g841 := H838.out.cell 0 rfl 2 rfl
        have g842 := H838.out.cell 0 rfl 3 rfl
        go_simp
        refine hK.out _ _ ?_ (fun hHeld2 => ?_)
        focus ((try dsimp only); (exact hHeld))
        clear hK K
        try simp only [Act.put, List.getElem_toArray, List.getElem_cons_zero, List.getElem_cons_succ, List.setIfInBounds_toArray, List.set_cons_zero, List.set_cons_succ]
        clear hHeld2 g839 g840 g841 g842
        refine wpAnyH_ready (rs := [8]) (by kernel_rfl) (by simp) (AllReadyH.cons (o := _) rfl (fun K hK => ?_) AllReadyH.nil)
        have z843 := H838.out.cell 3 rfl 0 rfl
        have z844 := H838.out.free 3 rfl 0
        have z845 := H838.out.cell 3 rfl 1 rfl
        have z846 := H838.out.free 3 rfl 1
        have z847 := H838.out.cell 3 rfl 2 rfl
        have z848 := H838.out.free 3 rfl 2
        have z849 := H838.out.cell 3 rfl 3 rfl
        have z850 := H838.out.free 3 rfl 3
        have H851 := hid (show St B W [.cells D833 #[.int .i64 r0, .int .i64 r1, .int .i64 r2, .int .i64 r3, .int .i64 r830_0, .int .i64 r830_1, .int .i64 r830_2, .int .i64 r830_3] 33, .own (.slice wla wls.length wlc) wls, .cells RE #[.int .i64 ep, .int .i64 ef] 38, .cells RQ #[.int .i64 r0, .int .i64 r1, .int .i64 r2, .int .i64 r3] 33, .cells D21 #[.int .i64 1, .int .i64 3, .int .i64 2] 3, .cells D15 #[.int .i64 1, .int .i64 3, .int .i64 2, .int .i64 5, .int .i64 9] 3, .cells D12 #[.int .i64 pw9, .int .i64 ph9, .int .i64 pm9, .slice pv9a ps9.length pv9c] 35, .own (.slice pv9a ps9.length pv9c) ps9, .tape K3, .cells B #[.int .i64 r0, .int .i64 r1, .int .i64 r2, .int .i64 r3] 33] [] ((((w837.setCell ⟨RQ, 0, none⟩ (.int .i64 r0)).setCell ⟨RQ, 1, none⟩ (.int .i64 r1)).setCell ⟨RQ, 2, none⟩ (.int .i64 r2)).setCell ⟨RQ, 3, none⟩ (.int .i64 r3)) from (H838.out.set4 3 rfl (.int .i64 r0) (.int .i64 r1) (.int .i64 r2) (.int .i64 r3)))
        go_simp
        refine hK.out _ _ ?_ (fun hHeld2 => ?_)
        focus ((try dsimp only); (exact ⟨H851.out.cell 9 rfl 0 rfl, H851.out.cell 9 rfl 1 rfl, H851.out.cell 9 rfl 2 rfl, H851.out.cell 9 rfl 3 rfl⟩))
        clear hK K hHeld
        try simp only [Act.put, List.getElem_toArray, List.getElem_cons_zero, List.getElem_cons_succ, List.setIfInBounds_toArray, List.set_cons_zero, List.set_cons_succ]
        clear z843 z844 z845 z846 z847 z848 z849 z850
        generalize ((((w837.setCell ⟨RQ, 0, none⟩ (.int .i64 r0)).setCell ⟨RQ, 1, none⟩ (.int .i64 r1)).setCell ⟨RQ, 2, none⟩ (.int .i64 r2)).setCell ⟨RQ, 3, none⟩ (.int .i64 r3)) = k852 at *
        have hHeld := hHeld2
        clear hHeld2
        refine wpAnyH_done (by kernel_rfl) ?_ _
        try clear hHeld
        go_wp2_with fail
        go_meet
        exact ⟨_, _, _, _, H851.out.pick [3, 1, 2, 4, 5, 6, 7, 8, 9] rfl (by decide)⟩
       ·skip
        subst hx0
        refine wpAnyH_take (i := 6) (oi := _) (v := ?_) rfl (by kernel_rfl) (by kernel_rfl) (by kernel_rfl) (fun _ _ _ h => h) (Or.inl ⟨by rfl, ?_⟩) (by assumption) ?_
        rotate_left
        focus (intro wS hSw; (try dsimp only at hSw); go_simp; (try with_reducible rfl))
        try simp only [Act.put, List.getElem_toArray, List.getElem_cons_zero, List.getElem_cons_succ, List.setIfInBounds_toArray, List.set_cons_zero, List.set_cons_succ]
        refine wpAnyH_ready (rs := [7]) (by kernel_rfl) (by simp) (AllReadyH.cons (o := _) rfl (fun K hK => ?_) AllReadyH.nil)
        have g853 := H838.out.cell 0 rfl 4 rfl
        have g854 := H838.out.cell 0 rfl 5 rfl
        have g855 := H838.out.cell 0 rfl 6 rfl
        have g856 := H838.out.cell 0 rfl 7 rfl
        go_simp
        refine hK.out _ _ ?_ (fun hHeld2 => ?_)
        focus ((try dsimp only); (exact hHeld))
        clear hK K
        try simp only [Act.put, List.getElem_toArray, List.getElem_cons_zero, List.getElem_cons_succ, List.setIfInBounds_toArray, List.set_cons_zero, List.set_cons_succ]
        clear hHeld2 g853 g854 g855 g856
        refine wpAnyH_ready (rs := [8]) (by kernel_rfl) (by simp) (AllReadyH.cons (o := _) rfl (fun K hK => ?_) AllReadyH.nil)
        have z857 := H838.out.cell 3 rfl 0 rfl
        have z858 := H838.out.free 3 rfl 0
        have z859 := H838.out.cell 3 rfl 1 rfl
        have z860 := H838.out.free 3 rfl 1
        have z861 := H838.out.cell 3 rfl 2 rfl
        have z862 := H838.out.free 3 rfl 2
        have z863 := H838.out.cell 3 rfl 3 rfl
        have z864 := H838.out.free 3 rfl 3
        have H865 := hid (show St B W [.cells D833 #[.int .i64 r0, .int .i64 r1, .int .i64 r2, .int .i64 r3, .int .i64 r830_0, .int .i64 r830_1, .int .i64 r830_2, .int .i64 r830_3] 33, .own (.slice wla wls.length wlc) wls, .cells RE #[.int .i64 ep, .int .i64 ef] 38, .cells RQ #[.int .i64 r830_0, .int .i64 r830_1, .int .i64 r830_2, .int .i64 r830_3] 33, .cells D21 #[.int .i64 1, .int .i64 3, .int .i64 2] 3, .cells D15 #[.int .i64 1, .int .i64 3, .int .i64 2, .int .i64 5, .int .i64 9] 3, .cells D12 #[.int .i64 pw9, .int .i64 ph9, .int .i64 pm9, .slice pv9a ps9.length pv9c] 35, .own (.slice pv9a ps9.length pv9c) ps9, .tape K3, .cells B #[.int .i64 r0, .int .i64 r1, .int .i64 r2, .int .i64 r3] 33] [] ((((w837.setCell ⟨RQ, 0, none⟩ (.int .i64 r830_0)).setCell ⟨RQ, 1, none⟩ (.int .i64 r830_1)).setCell ⟨RQ, 2, none⟩ (.int .i64 r830_2)).setCell ⟨RQ, 3, none⟩ (.int .i64 r830_3)) from (H838.out.set4 3 rfl (.int .i64 r830_0) (.int .i64 r830_1) (.int .i64 r830_2) (.int .i64 r830_3)))
        go_simp
        refine hK.out _ _ ?_ (fun hHeld2 => ?_)
        focus ((try dsimp only); (exact ⟨H865.out.cell 9 rfl 0 rfl, H865.out.cell 9 rfl 1 rfl, H865.out.cell 9 rfl 2 rfl, H865.out.cell 9 rfl 3 rfl⟩))
        clear hK K hHeld
        try simp only [Act.put, List.getElem_toArray, List.getElem_cons_zero, List.getElem_cons_succ, List.setIfInBounds_toArray, List.set_cons_zero, List.set_cons_succ]
        clear z857 z858 z859 z860 z861 z862 z863 z864
        generalize ((((w837.setCell ⟨RQ, 0, none⟩ (.int .i64 r830_0)).setCell ⟨RQ, 1, none⟩ (.int .i64 r830_1)).setCell ⟨RQ, 2, none⟩ (.int .i64 r830_2)).setCell ⟨RQ, 3, none⟩ (.int .i64 r830_3)) = k866 at *
        have hHeld := hHeld2
        clear hHeld2
        refine wpAnyH_done (by kernel_rfl) ?_ _
        try clear hHeld
        go_wp2_with fail
        go_meet
        exact ⟨_, _, _, _, H865.out.pick [3, 1, 2, 4, 5, 6, 7, 8, 9] rfl (by decide)⟩
      ·go_simp
       go_at_call 18
       refine (nextB_any B K3 _ _ (by omega) (H832.out.tapeAt 7 rfl)).mono ?_
       rintro e w868 ⟨x867, rfl, x867a, x867b, htn, hgn, hsn⟩
       have H869 := hid (H832.out.next 7 rfl htn hgn)
       clear htn hgn hsn
       refine hK.out _ _ ?_ (fun hHeld2 => ?_)
       focus ((try dsimp only); (exact ⟨H869.out.cell 8 rfl 0 rfl, H869.out.cell 8 rfl 1 rfl, H869.out.cell 8 rfl 2 rfl, H869.out.cell 8 rfl 3 rfl⟩))
       clear hK K
       try simp only [Act.put, List.getElem_toArray, List.getElem_cons_zero, List.getElem_cons_succ, List.setIfInBounds_toArray, List.set_cons_zero, List.set_cons_succ]
       clear hHeld
       have hHeld := hHeld2
       clear hHeld2
       rcases (show x867 = 0 ∨ x867 = 1 by omega) with hx0 | hx0
       ·skip
        subst hx0
        refine wpAnyH_ready (rs := [3]) (by kernel_rfl) (by simp) (AllReadyH.cons (o := _) rfl (fun K hK => ?_) AllReadyH.nil)
        obtain ⟨D870, hD870⟩ : ∃ D, w868.heap.size = D := ⟨_, rfl⟩
        have H871 := hid (H869.out.alloc #[.int .i64 r0, .int .i64 r1, .int .i64 r2, .int .i64 r3, .int .i64 r830_0, .int .i64 r830_1, .int .i64 r830_2, .int .i64 r830_3] 33 hD870)
        go_simp
        refine hK.out _ _ ?_ (fun hHeld2 => ?_)
        focus ((try dsimp only); (exact ⟨H871.out.cell 9 rfl 0 rfl, H871.out.cell 9 rfl 1 rfl, H871.out.cell 9 rfl 2 rfl, H871.out.cell 9 rfl 3 rfl⟩))
        clear hK K hHeld
        try simp only [Act.put, List.getElem_toArray, List.getElem_cons_zero, List.getElem_cons_succ, List.setIfInBounds_toArray, List.set_cons_zero, List.set_cons_succ]
        clear hD870
        generalize (w868.alloc (.cells #[.int .i64 r0, .int .i64 r1, .int .i64 r2, .int .i64 r3, .int .i64 r830_0, .int .i64 r830_1, .int .i64 r830_2, .int .i64 r830_3] 33)) = k872 at *
        have hHeld := hHeld2
        clear hHeld2
        refine wpAnyH_take (i := 6) (oi := _) (v := ?_) rfl (by kernel_rfl) (by kernel_rfl) (by kernel_rfl) (fun _ _ _ h => h) (Or.inl ⟨by rfl, ?_⟩) (by assumption) ?_
        rotate_left
        focus (intro wS hSw; (try dsimp only at hSw); go_simp; (try with_reducible rfl))
        try simp only [Act.put, List.getElem_toArray, List.getElem_cons_zero, List.getElem_cons_succ, List.setIfInBounds_toArray, List.set_cons_zero, List.set_cons_succ]
        refine wpAnyH_ready (rs := [7]) (by kernel_rfl) (by simp) (AllReadyH.cons (o := _) rfl (fun K hK => ?_) AllReadyH.nil)
        have g873 := H871.out.cell 0 rfl 0 rfl
        have g874 := H871.out.cell 0 rfl 1 rfl
        have g875 := H871.out.cell 0 rfl 2 rfl
        have g876 := H871.out.cell 0 rfl 3 rfl
        go_simp
        refine hK.out _ _ ?_ (fun hHeld2 => ?_)
        focus ((try dsimp only); (exact hHeld))
        clear hK K
        try simp only [Act.put, List.getElem_toArray, List.getElem_cons_zero, List.getElem_cons_succ, List.setIfInBounds_toArray, List.set_cons_zero, List.set_cons_succ]
        clear hHeld2 g873 g874 g875 g876
        refine wpAnyH_ready (rs := [8]) (by kernel_rfl) (by simp) (AllReadyH.cons (o := _) rfl (fun K hK => ?_) AllReadyH.nil)
        have z877 := H871.out.cell 3 rfl 0 rfl
        have z878 := H871.out.free 3 rfl 0
        have z879 := H871.out.cell 3 rfl 1 rfl
        have z880 := H871.out.free 3 rfl 1
        have z881 := H871.out.cell 3 rfl 2 rfl
        have z882 := H871.out.free 3 rfl 2
        have z883 := H871.out.cell 3 rfl 3 rfl
        have z884 := H871.out.free 3 rfl 3
        have H885 := hid (show St B W [.cells D870 #[.int .i64 r0, .int .i64 r1, .int .i64 r2, .int .i64 r3, .int .i64 r830_0, .int .i64 r830_1, .int .i64 r830_2, .int .i64 r830_3] 33, .own (.slice wla wls.length wlc) wls, .cells RE #[.int .i64 ep, .int .i64 ef] 38, .cells RQ #[.int .i64 r0, .int .i64 r1, .int .i64 r2, .int .i64 r3] 33, .cells D21 #[.int .i64 1, .int .i64 3, .int .i64 2] 3, .cells D15 #[.int .i64 1, .int .i64 3, .int .i64 2, .int .i64 5, .int .i64 9] 3, .cells D12 #[.int .i64 pw9, .int .i64 ph9, .int .i64 pm9, .slice pv9a ps9.length pv9c] 35, .own (.slice pv9a ps9.length pv9c) ps9, .tape K3, .cells B #[.int .i64 r0, .int .i64 r1, .int .i64 r2, .int .i64 r3] 33] [] ((((k872.setCell ⟨RQ, 0, none⟩ (.int .i64 r0)).setCell ⟨RQ, 1, none⟩ (.int .i64 r1)).setCell ⟨RQ, 2, none⟩ (.int .i64 r2)).setCell ⟨RQ, 3, none⟩ (.int .i64 r3)) from (H871.out.set4 3 rfl (.int .i64 r0) (.int .i64 r1) (.int .i64 r2) (.int .i64 r3)))
        go_simp
        refine hK.out _ _ ?_ (fun hHeld2 => ?_)
        focus ((try dsimp only); (exact ⟨H885.out.cell 9 rfl 0 rfl, H885.out.cell 9 rfl 1 rfl, H885.out.cell 9 rfl 2 rfl, H885.out.cell 9 rfl 3 rfl⟩))
        clear hK K hHeld
        try simp only [Act.put, List.getElem_toArray, List.getElem_cons_zero, List.getElem_cons_succ, List.setIfInBounds_toArray, List.set_cons_zero, List.set_cons_succ]
        clear z877 z878 z879 z880 z881 z882 z883 z884
        generalize ((((k872.setCell ⟨RQ, 0, none⟩ (.int .i64 r0)).setCell ⟨RQ, 1, none⟩ (.int .i64 r1)).setCell ⟨RQ, 2, none⟩ (.int .i64 r2)).setCell ⟨RQ, 3, none⟩ (.int .i64 r3)) = k886 at *
        have hHeld := hHeld2
        clear hHeld2
        refine wpAnyH_done (by kernel_rfl) ?_ _
        try clear hHeld
        go_wp2_with fail
        go_meet
        exact ⟨_, _, _, _, H885.out.pick [3, 1, 2, 4, 5, 6, 7, 8, 9] rfl (by decide)⟩
       ·skip
        subst hx0
        refine wpAnyH_ready (rs := [3]) (by kernel_rfl) (by simp) (AllReadyH.cons (o := _) rfl (fun K hK => ?_) AllReadyH.nil)
        obtain ⟨D887, hD887⟩ : ∃ D, w868.heap.size = D := ⟨_, rfl⟩
        have H888 := hid (H869.out.alloc #[.int .i64 r0, .int .i64 r1, .int .i64 r2, .int .i64 r3, .int .i64 r830_0, .int .i64 r830_1, .int .i64 r830_2, .int .i64 r830_3] 33 hD887)
        go_simp
        refine hK.out _ _ ?_ (fun hHeld2 => ?_)
        focus ((try dsimp only); (exact ⟨H888.out.cell 9 rfl 0 rfl, H888.out.cell 9 rfl 1 rfl, H888.out.cell 9 rfl 2 rfl, H888.out.cell 9 rfl 3 rfl⟩))
        clear hK K hHeld
        try simp only [Act.put, List.getElem_toArray, List.getElem_cons_zero, List.getElem_cons_succ, List.setIfInBounds_toArray, List.set_cons_zero, List.set_cons_succ]
        clear hD887
        generalize (w868.alloc (.cells #[.int .i64 r0, .int .i64 r1, .int .i64 r2, .int .i64 r3, .int .i64 r830_0, .int .i64 r830_1, .int .i64 r830_2, .int .i64 r830_3] 33)) = k889 at *
        have hHeld := hHeld2
        clear hHeld2
        refine wpAnyH_take (i := 6) (oi := _) (v := ?_) rfl (by kernel_rfl) (by kernel_rfl) (by kernel_rfl) (fun _ _ _ h => h) (Or.inl ⟨by rfl, ?_⟩) (by assumption) ?_
        rotate_left
        focus (intro wS hSw; (try dsimp only at hSw); go_simp; (try with_reducible rfl))
        try simp only [Act.put, List.getElem_toArray, List.getElem_cons_zero, List.getElem_cons_succ, List.setIfInBounds_toArray, List.set_cons_zero, List.set_cons_succ]
        refine wpAnyH_ready (rs := [7]) (by kernel_rfl) (by simp) (AllReadyH.cons (o := _) rfl (fun K hK => ?_) AllReadyH.nil)
        have g890 := H888.out.cell 0 rfl 4 rfl
        have g891 := H888.out.cell 0 rfl 5 rfl
        have g892 := H888.out.cell 0 rfl 6 rfl
        have g893 := H888.out.cell 0 rfl 7 rfl
        go_simp
        refine hK.out _ _ ?_ (fun hHeld2 => ?_)
        focus ((try dsimp only); (exact hHeld))
        clear hK K
        try simp only [Act.put, List.getElem_toArray, List.getElem_cons_zero, List.getElem_cons_succ, List.setIfInBounds_toArray, List.set_cons_zero, List.set_cons_succ]
        clear hHeld2 g890 g891 g892 g893
        refine wpAnyH_ready (rs := [8]) (by kernel_rfl) (by simp) (AllReadyH.cons (o := _) rfl (fun K hK => ?_) AllReadyH.nil)
        have z894 := H888.out.cell 3 rfl 0 rfl
        have z895 := H888.out.free 3 rfl 0
        have z896 := H888.out.cell 3 rfl 1 rfl
        have z897 := H888.out.free 3 rfl 1
        have z898 := H888.out.cell 3 rfl 2 rfl
        have z899 := H888.out.free 3 rfl 2
        have z900 := H888.out.cell 3 rfl 3 rfl
        have z901 := H888.out.free 3 rfl 3
        have H902 := hid (show St B W [.cells D887 #[.int .i64 r0, .int .i64 r1, .int .i64 r2, .int .i64 r3, .int .i64 r830_0, .int .i64 r830_1, .int .i64 r830_2, .int .i64 r830_3] 33, .own (.slice wla wls.length wlc) wls, .cells RE #[.int .i64 ep, .int .i64 ef] 38, .cells RQ #[.int .i64 r830_0, .int .i64 r830_1, .int .i64 r830_2, .int .i64 r830_3] 33, .cells D21 #[.int .i64 1, .int .i64 3, .int .i64 2] 3, .cells D15 #[.int .i64 1, .int .i64 3, .int .i64 2, .int .i64 5, .int .i64 9] 3, .cells D12 #[.int .i64 pw9, .int .i64 ph9, .int .i64 pm9, .slice pv9a ps9.length pv9c] 35, .own (.slice pv9a ps9.length pv9c) ps9, .tape K3, .cells B #[.int .i64 r0, .int .i64 r1, .int .i64 r2, .int .i64 r3] 33] [] ((((k889.setCell ⟨RQ, 0, none⟩ (.int .i64 r830_0)).setCell ⟨RQ, 1, none⟩ (.int .i64 r830_1)).setCell ⟨RQ, 2, none⟩ (.int .i64 r830_2)).setCell ⟨RQ, 3, none⟩ (.int .i64 r830_3)) from (H888.out.set4 3 rfl (.int .i64 r830_0) (.int .i64 r830_1) (.int .i64 r830_2) (.int .i64 r830_3)))
        go_simp
        refine hK.out _ _ ?_ (fun hHeld2 => ?_)
        focus ((try dsimp only); (exact ⟨H902.out.cell 9 rfl 0 rfl, H902.out.cell 9 rfl 1 rfl, H902.out.cell 9 rfl 2 rfl, H902.out.cell 9 rfl 3 rfl⟩))
        clear hK K hHeld
        try simp only [Act.put, List.getElem_toArray, List.getElem_cons_zero, List.getElem_cons_succ, List.setIfInBounds_toArray, List.set_cons_zero, List.set_cons_succ]
        clear z894 z895 z896 z897 z898 z899 z900 z901
        generalize ((((k889.setCell ⟨RQ, 0, none⟩ (.int .i64 r830_0)).setCell ⟨RQ, 1, none⟩ (.int .i64 r830_1)).setCell ⟨RQ, 2, none⟩ (.int .i64 r830_2)).setCell ⟨RQ, 3, none⟩ (.int .i64 r830_3)) = k903 at *
        have hHeld := hHeld2
        clear hHeld2
        refine wpAnyH_done (by kernel_rfl) ?_ _
        try clear hHeld
        go_wp2_with fail
        go_meet
        exact ⟨_, _, _, _, H902.out.pick [3, 1, 2, 4, 5, 6, 7, 8, 9] rfl (by decide)⟩
     ·skip
      have hN2 : ((j : Int) == 2) = false := by simp; omega
      clear hN
      go_wp2_with fail
      go_meet
      exact ⟨_, _, _, _, H827.out.pick [2, 0, 1, 3, 4, 5, 6, 7, 8] rfl (by decide)⟩
    case rest =>
     obtain ⟨y0, y1, y2, y3, hst⟩ := hcut
     obtain ⟨u904, rfl⟩ : ∃ u904 : World, u904 = wc := ⟨_, rfl⟩
     have H905 := hid hst
     clear hst
     go_wp2_with fail
     refine (nextB_any B K3 _ _ (by omega) (H905.out.tapeAt 7 rfl)).mono ?_
     rintro e w907 ⟨x906, rfl, x906a, x906b, htn, hgn, hsn⟩
     have H908 := hid (H905.out.next 7 rfl htn hgn)
     clear htn hgn hsn
     go_upto_if 61 with fail
     go_cut [] (fun wx => ∃ (xw xh xm : Int) (xa : Option Addr) (xc : Nat) (xl : List Int), St B W [.cells D12 #[.int .i64 xw, .int .i64 xh, .int .i64 xm, .slice xa xl.length xc] 35, .own (.slice xa xl.length xc) xl, .cells RQ #[.int .i64 y0, .int .i64 y1, .int .i64 y2, .int .i64 y3] 33, .own (.slice wla wls.length wlc) wls, .cells RE #[.int .i64 ep, .int .i64 ef] 38, .cells D21 #[.int .i64 1, .int .i64 3, .int .i64 2] 3, .cells D15 #[.int .i64 1, .int .i64 3, .int .i64 2, .int .i64 5, .int .i64 9] 3, .tape K3, .cells B #[.int .i64 r0, .int .i64 r1, .int .i64 r2, .int .i64 r3] 33] [] wx)
     case first =>
      by_cases c909 : (x906 : Int) = 9
      ·obtain ⟨c909c, c909d⟩ : (x906 : Int) ≤ 9 ∧ (9 : Int) ≤ x906 := by omega
       have c909a : ((x906 : Int) == (9)) = true := by simpa using c909
       have c909b : ((x906 : Int) != (9)) = false := by simpa using c909
       have c909h := hid c909
       clear c909
       have z910 := H908.out.cell 5 rfl 0 rfl
       have z911 := H908.out.cell 5 rfl 1 rfl
       have z912 := H908.out.cell 5 rfl 2 rfl
       have z913 := H908.out.cell 5 rfl 3 rfl
       go_wp2_with fail
       clear z910 z911 z912 z913
       refine (spoil_any B K3 _ _ _ _ _ _ _ _ (H908.out.slc 6 rfl) (H908.out.farSlc 6 7 rfl rfl (by decide) rfl) HVps9.out (H908.out.tapeAt 7 rfl)).mono ?_
       rintro e w915 ⟨pw914, ph914, pm914, pv914, ps914, rfl, ho, ht, hg⟩
       have H916 := hid (H908.out.add (H908.out.next 7 rfl ht hg) ho)
       obtain ⟨pv914a, pv914c, rfl, _⟩ := ho.slc
       clear ho ht hg
       have z917 := H916.out.cell 6 rfl 0 rfl
       have z918 := H916.out.free 6 rfl 0
       have z919 := H916.out.cell 6 rfl 1 rfl
       have z920 := H916.out.free 6 rfl 1
       have z921 := H916.out.cell 6 rfl 2 rfl
       have z922 := H916.out.free 6 rfl 2
       have z923 := H916.out.cell 6 rfl 3 rfl
       have z924 := H916.out.free 6 rfl 3
       go_wp2_with fail
       clear z917 z918 z919 z920 z921 z922 z923 z924
       have H925 := hid (show St B W [.own (.slice pv914a ps914.length pv914c) ps914, .cells RQ #[.int .i64 y0, .int .i64 y1, .int .i64 y2, .int .i64 y3] 33, .own (.slice wla wls.length wlc) wls, .cells RE #[.int .i64 ep, .int .i64 ef] 38, .cells D21 #[.int .i64 1, .int .i64 3, .int .i64 2] 3, .cells D15 #[.int .i64 1, .int .i64 3, .int .i64 2, .int .i64 5, .int .i64 9] 3, .cells D12 #[.int .i64 pw914, .int .i64 ph914, .int .i64 pm914, .slice pv914a ps914.length pv914c] 35, .own (.slice pv9a ps9.length pv9c) ps9, .tape K3, .cells B #[.int .i64 r0, .int .i64 r1, .int .i64 r2, .int .i64 r3] 33] [] ((((w915.setCell ⟨D12, 0, none⟩ (.int .i64 pw914)).setCell ⟨D12, 1, none⟩ (.int .i64 ph914)).setCell ⟨D12, 2, none⟩ (.int .i64 pm914)).setCell ⟨D12, 3, none⟩ (.slice pv914a ps914.length pv914c)) from (H916.out.set4 6 rfl (.int .i64 pw914) (.int .i64 ph914) (.int .i64 pm914) (.slice pv914a ps914.length pv914c)))
       go_meet
       exact ⟨_, _, _, _, _, _, H925.out.pick [6, 0, 1, 2, 3, 4, 5, 8, 9] rfl (by decide)⟩
      ·have c909a : ((x906 : Int) == (9)) = false := by simpa using c909
       have c909b : ((x906 : Int) != (9)) = true := by simpa using c909
       have c909h := hid c909
       clear c909
       go_wp2_with fail
       go_meet
       exact ⟨_, _, _, _, _, _, H908.out.pick [5, 6, 0, 1, 2, 3, 4, 7, 8] rfl (by decide)⟩
     case rest =>
      obtain ⟨xw, xh, xm, xa, xc, xl, hst⟩ := hcut
      obtain ⟨u926, rfl⟩ : ∃ u926 : World, u926 = wc := ⟨_, rfl⟩
      have H927 := hid hst
      clear hst
      have z928 := H927.out.cell 0 rfl 0 rfl
      have z929 := H927.out.cell 0 rfl 1 rfl
      have z930 := H927.out.cell 0 rfl 2 rfl
      have z931 := H927.out.cell 0 rfl 3 rfl
      have z932 := H927.out.cell 4 rfl 0 rfl
      have z933 := H927.out.cell 4 rfl 1 rfl
      have z934 := H927.out.cell 2 rfl 0 rfl
      have z935 := H927.out.cell 2 rfl 1 rfl
      have z936 := H927.out.cell 2 rfl 2 rfl
      have z937 := H927.out.cell 2 rfl 3 rfl
      go_wp2_with fail
      clear z928 z929 z930 z931 z932 z933 z934 z935 z936 z937
      refine (ctile_any _ _ _ _ _ _ xl _ _ _ _ _ _ _ wls _ _ _ _ _ _ _ (H927.out.slc 1 rfl) (H927.out.slc 3 rfl)).mono ?_
      rintro e w938 ⟨v939, rfl, ho, hb⟩
      obtain ⟨c941, hc941⟩ : ∃ xx', cvTC xw xh xm xl ep ef x18 x24 wls sh 255 y0 y1 y2 y3 = xx' := ⟨_, rfl⟩
      rw [hc941] at ho ⊢
      have HNc941 := hid hc941
      clear hc941
      obtain ⟨l942, hl942⟩ : ∃ xx', cvL xw xh xl ep ef x18 x24 wls sh 255 y0 y1 y2 y3 = xx' := ⟨_, rfl⟩
      rw [hl942] at ho
      have HNl942 := hid hl942
      clear hl942
      obtain ⟨l943, hl943⟩ : ∃ xx', tL c941 l942 = xx' := ⟨_, rfl⟩
      rw [hl943] at ho
      have HNl943 := hid hl943
      clear hl943
      obtain ⟨t944, ht944⟩ : ∃ xx', tI c941 (y2 - y0) = xx' := ⟨_, rfl⟩
      rw [ht944]
      have HNt944 := hid ht944
      clear ht944
      obtain ⟨t945, ht945⟩ : ∃ xx', tI c941 (y3 - y1) = xx' := ⟨_, rfl⟩
      rw [ht945]
      have HNt945 := hid ht945
      clear ht945
      obtain ⟨t946, ht946⟩ : ∃ xx', tI c941 255 = xx' := ⟨_, rfl⟩
      rw [ht946]
      have HNt946 := hid ht946
      clear ht946
      have H940 := hid (H927.out.grow hb ho)
      obtain ⟨v939a, v939c, rfl, _⟩ := ho.slc
      clear ho hb
      obtain ⟨D947, hD947⟩ : ∃ D, w938.heap.size = D := ⟨_, rfl⟩
      go_upto_region 13 with fail
      have H948 := hid (show St B W [.cells D947 #[.int .i64 t944, .int .i64 t945, .int .i64 t946, .slice v939a l943.length v939c] 35, .own (.slice v939a l943.length v939c) l943, .cells D12 #[.int .i64 xw, .int .i64 xh, .int .i64 xm, .slice xa xl.length xc] 35, .own (.slice xa xl.length xc) xl, .cells RQ #[.int .i64 y0, .int .i64 y1, .int .i64 y2, .int .i64 y3] 33, .own (.slice wla wls.length wlc) wls, .cells RE #[.int .i64 ep, .int .i64 ef] 38, .cells D21 #[.int .i64 1, .int .i64 3, .int .i64 2] 3, .cells D15 #[.int .i64 1, .int .i64 3, .int .i64 2, .int .i64 5, .int .i64 9] 3, .tape K3, .cells B #[.int .i64 r0, .int .i64 r1, .int .i64 r2, .int .i64 r3] 33] [] (w938.alloc (.cells #[.int .i64 t944, .int .i64 t945, .int .i64 t946, .slice v939a l943.length v939c] 35)) from (H940.out.alloc #[.int .i64 t944, .int .i64 t945, .int .i64 t946, .slice v939a l943.length v939c] 35 hD947))
      first | refine gen_code H948.out ?_ | refine gen_list H948.out ?_ | refine gen_calls H948.out ?_
      intro w949 hG
      clear H948
      have H948 := hid hG
      clear hG
      clear hD947
      have z950 := H948.out.cell 2 rfl 0 rfl
      have z951 := H948.out.cell 2 rfl 1 rfl
      have z952 := H948.out.cell 2 rfl 2 rfl
      have z953 := H948.out.cell 2 rfl 3 rfl
      have z954 := H948.out.cell 6 rfl 0 rfl
      have z955 := H948.out.cell 6 rfl 1 rfl
      have z956 := H948.out.cell 4 rfl 0 rfl
      have z957 := H948.out.cell 4 rfl 1 rfl
      have z958 := H948.out.cell 4 rfl 2 rfl
      have z959 := H948.out.cell 4 rfl 3 rfl
      go_wp2_with fail
      clear z950 z951 z952 z953 z954 z955 z956 z957 z958 z959
      refine (rctile_any _ _ _ _ _ _ xl _ _ _ _ _ _ _ wls _ _ _ _ _ _ _ (H948.out.slc 3 rfl) (H948.out.slc 5 rfl)).mono ?_
      rintro e w960 ⟨v961, rfl, ho, hb⟩
      rw [HNc941.out] at ho ⊢
      rw [HNl942.out] at ho
      rw [HNl943.out] at ho
      rw [HNt944.out]
      rw [HNt945.out]
      rw [HNt946.out]
      have H962 := hid (H948.out.grow hb ho)
      obtain ⟨v961a, v961c, rfl, _⟩ := ho.slc
      clear ho hb
      obtain ⟨D963, hD963⟩ : ∃ D, w960.heap.size = D := ⟨_, rfl⟩
      go_upto_region 14 with fail
      have H964 := hid (show St B W [.cells D963 #[.int .i64 t944, .int .i64 t945, .int .i64 t946, .slice v961a l943.length v961c] 35, .own (.slice v961a l943.length v961c) l943, .cells D947 #[.int .i64 t944, .int .i64 t945, .int .i64 t946, .slice v939a l943.length v939c] 35, .own (.slice v939a l943.length v939c) l943, .cells D12 #[.int .i64 xw, .int .i64 xh, .int .i64 xm, .slice xa xl.length xc] 35, .own (.slice xa xl.length xc) xl, .cells RQ #[.int .i64 y0, .int .i64 y1, .int .i64 y2, .int .i64 y3] 33, .own (.slice wla wls.length wlc) wls, .cells RE #[.int .i64 ep, .int .i64 ef] 38, .cells D21 #[.int .i64 1, .int .i64 3, .int .i64 2] 3, .cells D15 #[.int .i64 1, .int .i64 3, .int .i64 2, .int .i64 5, .int .i64 9] 3, .tape K3, .cells B #[.int .i64 r0, .int .i64 r1, .int .i64 r2, .int .i64 r3] 33] [] (w960.alloc (.cells #[.int .i64 t944, .int .i64 t945, .int .i64 t946, .slice v961a l943.length v961c] 35)) from (H962.out.alloc #[.int .i64 t944, .int .i64 t945, .int .i64 t946, .slice v961a l943.length v961c] 35 hD963))
      first | refine gen_code H964.out ?_ | refine gen_list H964.out ?_ | refine gen_calls H964.out ?_
      intro w965 hG
      clear H964
      have H964 := hid hG
      clear hG
      clear hD963
      have z966 := H964.out.cell 2 rfl 0 rfl
      have z967 := H964.out.cell 2 rfl 1 rfl
      have z968 := H964.out.cell 2 rfl 2 rfl
      have z969 := H964.out.cell 2 rfl 3 rfl
      have z970 := H964.out.cell 0 rfl 0 rfl
      have z971 := H964.out.cell 0 rfl 1 rfl
      have z972 := H964.out.cell 0 rfl 2 rfl
      have z973 := H964.out.cell 0 rfl 3 rfl
      go_wp2_with fail
      clear z966 z967 z968 z969 z970 z971 z972 z973
      refine (qequal_any _ _ _ _ _ _ l943 _ _ _ _ _ _ l943 _ (H964.out.slc 3 rfl) (H964.out.slc 1 rfl)).mono ?_
      rintro e w974 ⟨rfl, hb⟩
      have H975 := hid (H964.out.call hb)
      clear hb
      rw [show pEq t944 t945 t946 l943 t944 t945 t946 l943 = true from by simp [pEq]]
      go_wp2_with fail
      go_roundw
      case rel => exact ⟨j + 1, by omega, by go_num, H975.out.pick [11, 12] rfl (by decide)⟩
      case measure => first | (simp [intOf]; omega) | (simp [intOf]; done)
  ·skip
   go_wp2_with fail
   refine (sane9 _).mono ?_
   rintro e w976 ⟨rfl, hb⟩
   have H977 := hid (H7.out.call hb)
   clear hb
   go_wp2_with fail
   go_ret
   exact ⟨rfl, by first | exact H977.out.below | exact H977.out.below'⟩
end Go.Proofs.Ytkpdahjddjdgcaa
