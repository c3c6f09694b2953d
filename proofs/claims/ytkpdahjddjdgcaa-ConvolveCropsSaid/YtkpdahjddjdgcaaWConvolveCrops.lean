/-
  The walk of ConvolveCrops: the tile of a rectangle is the crop of the tile of the whole plane.
-/
import Derived.Test.YtkpdahjddjdgcaaSane9
import Derived.Test.YtkpdahjddjdgcaaCvQTile
import Derived.Test.YtkpdahjddjdgcaaCvLaw
import Derived.Test.YtkpdahjddjdgcaaWeights
import Derived.Test.YtkpdahjddjdgcaaEdgeOk
import Derived.Test.YtkpdahjddjdgcaaKX
namespace Go.Proofs.Ytkpdahjddjdgcaa
open Go.RowKit
attribute [local go_sem ↓] Go.wp_at_zero Go.wp_at_succ
set_option linter.unusedVariables false
set_option linter.unusedSimpArgs false

set_option maxRecDepth 100000 in
set_option maxHeartbeats 12800000 in
theorem walk_ConvolveCrops (a : Option Addr) (n c : Nat) (zs : List Int) (W : World) (hr : RowIn .i64 W a n c zs) :
    Calls Try.prog 5 #[.slice a n c] W fun e w' => e = .returned (.bool true) ∧ Below W.heap.size W w' := by
  obtain ⟨B, hB⟩ : ∃ B, W.heap.size = B := ⟨_, rfl⟩
  have HI0 := hid (St.init hB)
  have HN := hid (nearRow hr hB)
  have HR := hid hr
  clear hr
  go_enter Try.func5, Try.ntmps5
  go_wp2_with fail
  obtain ⟨K1, hK1⟩ : ∃ D, W.heap.size = D := ⟨_, rfl⟩
  refine (newB_any B _ _ _ _ _ HR.out.len (HI0.out.oldRow HR.out.row) HN.out HI0.out.size).mono ?_
  rintro e w2 ⟨rfl, ht, hb, hs⟩
  rw [hK1] at ht ⊢
  have H3 := hid (HI0.out.newTape ht hb hK1)
  clear ht hb hs hK1
  go_wp2_with fail
  refine (plane_any B K1 _ (H3.out.tapeAt 0 rfl)).mono ?_
  rintro e w5 ⟨pw4, ph4, pw41, pw42, ph41, ph42, pm4, pv4, ps4, rfl, hv, hm, ho, ht, hg⟩
  have H6 := hid (H3.out.add (H3.out.next 0 rfl ht hg) ho)
  have HVps4 := hid hv
  have HMps4 := hid hm
  obtain ⟨pv4a, pv4c, rfl, _⟩ := ho.slc
  clear hv hm ho ht hg
  obtain ⟨D7, hD7⟩ : ∃ D, w5.heap.size = D := ⟨_, rfl⟩
  go_upto_region 3 with fail
  have H8 := hid (show St B W [.cells D7 #[.int .i64 pw4, .int .i64 ph4, .int .i64 pm4, .slice pv4a ps4.length pv4c] 35, .own (.slice pv4a ps4.length pv4c) ps4, .tape K1] [] (w5.alloc (.cells #[.int .i64 pw4, .int .i64 ph4, .int .i64 pm4, .slice pv4a ps4.length pv4c] 35)) from (H6.out.alloc #[.int .i64 pw4, .int .i64 ph4, .int .i64 pm4, .slice pv4a ps4.length pv4c] 35 hD7))
  first | refine gen_code H8.out ?_ | refine gen_list H8.out ?_ | refine gen_calls H8.out ?_
  intro w9 hG
  clear H8
  have H8 := hid hG
  clear hG
  clear hD7
  have hmb := HMps4.out
  obtain ⟨_, _, _, _, _, hm1, _⟩ := pOk_iff.1 (pValid_iff.1 HVps4.out).1
  go_cut [5, 6, 7] (fun s s1 s2 wx => ∃ (RE : Nat) (wla : Option Addr) (wlc : Nat) (wls : List Int) (ep ef sh : Int), s = .slice wla wls.length wlc ∧ s1 = .pointer (some ⟨RE, 0, none⟩) ∧ s2 = .int .i64 sh ∧ wls.length = (9 : Int).toNat ∧ (∀ i, -20 ≤ wls.getD i 0 ∧ wls.getD i 0 ≤ 20) ∧ bValid ep ef pm4 = true ∧ 0 ≤ sh ∧ sh ≤ 3 ∧ St B W [.own (.slice wla wls.length wlc) wls, .cells RE #[.int .i64 ep, .int .i64 ef] 38, .cells D7 #[.int .i64 pw4, .int .i64 ph4, .int .i64 pm4, .slice pv4a ps4.length pv4c] 35, .own (.slice pv4a ps4.length pv4c) ps4, .tape K1] [] wx)
  case first =>
    go_upto_region 3 with fail
    have H10 := hid H8.out.drew
    refine wp_region_held_drew (S := (fun w' => w'.cell? ⟨D7, 0, none⟩ = some (.int .i64 pw4) ∧ w'.cell? ⟨D7, 1, none⟩ = some (.int .i64 ph4) ∧ w'.cell? ⟨D7, 2, none⟩ = some (.int .i64 pm4) ∧ w'.cell? ⟨D7, 3, none⟩ = some (.slice pv4a ps4.length pv4c))) (by kernel_rfl) ⟨H10.out.cell 0 rfl 0 rfl, H10.out.cell 0 rfl 1 rfl, H10.out.cell 0 rfl 2 rfl, H10.out.cell 0 rfl 3 rfl⟩ (fun hHeld => ?_)
    generalize w9.drew = k11 at *
    refine wpAnyH_take (i := 0) (oi := _) (v := ?_) rfl (by kernel_rfl) (by kernel_rfl) (by kernel_rfl) (fun _ _ _ h => h) (Or.inl ⟨by rfl, ?_⟩) (by assumption) ?_
    rotate_left
    focus (intro wS hSw; (try dsimp only at hSw); go_simp; (try with_reducible rfl))
    try simp only [Act.put, List.getElem_toArray, List.getElem_cons_zero, List.getElem_cons_succ, List.setIfInBounds_toArray, List.set_cons_zero, List.set_cons_succ]
    refine wpAnyH_take (i := 2) (oi := _) (v := ?_) rfl (by kernel_rfl) (by kernel_rfl) (by kernel_rfl) (fun _ _ _ h => h) (Or.inl ⟨by rfl, ?_⟩) (by assumption) ?_
    rotate_left
    focus (intro wS hSw; (try dsimp only at hSw); go_simp; (try with_reducible rfl))
    try simp only [Act.put, List.getElem_toArray, List.getElem_cons_zero, List.getElem_cons_succ, List.setIfInBounds_toArray, List.set_cons_zero, List.set_cons_succ]
    refine wpAnyH_take (i := 3) (oi := _) (v := ?_) rfl (by kernel_rfl) (by kernel_rfl) (by kernel_rfl) (fun _ _ _ h => h) (Or.inl ⟨by rfl, ?_⟩) (by assumption) ?_
    rotate_left
    focus (intro wS hSw; (try dsimp only at hSw); go_simp; (try with_reducible rfl))
    try simp only [Act.put, List.getElem_toArray, List.getElem_cons_zero, List.getElem_cons_succ, List.setIfInBounds_toArray, List.set_cons_zero, List.set_cons_succ]
    refine wpAnyH_take (i := 4) (oi := _) (v := ?_) rfl (by kernel_rfl) (by kernel_rfl) (by kernel_rfl) (fun _ _ _ h => h) (Or.inl ⟨by rfl, ?_⟩) (by assumption) ?_
    rotate_left
    focus (intro wS hSw; (try dsimp only at hSw); go_simp; (try with_reducible rfl))
    try simp only [Act.put, List.getElem_toArray, List.getElem_cons_zero, List.getElem_cons_succ, List.setIfInBounds_toArray, List.set_cons_zero, List.set_cons_succ]
    refine wpAnyH_take (i := 6) (oi := _) (v := ?_) rfl (by kernel_rfl) (by kernel_rfl) (by kernel_rfl) (fun _ _ _ h => h) (Or.inl ⟨by rfl, ?_⟩) (by assumption) ?_
    rotate_left
    focus (intro wS hSw; (try dsimp only at hSw); go_simp; (try with_reducible rfl))
    try simp only [Act.put, List.getElem_toArray, List.getElem_cons_zero, List.getElem_cons_succ, List.setIfInBounds_toArray, List.set_cons_zero, List.set_cons_succ]
    refine wpAnyH_ready (rs := [1, 8]) (by kernel_rfl) (by simp) (AllReadyH.cons (o := _) rfl (fun K hK => ?_) (AllReadyH.cons (o := _) rfl (fun K hK => ?_) AllReadyH.nil))
    · go_simp
      go_at_call 19
      refine (weights_any B K1 _ _ (by omega) (H10.out.tapeAt 2 rfl)).mono ?_
      rintro e w12 ⟨wv13, wl14, rfl, hlen, hin, ho, ht, hg⟩
      have H15 := hid (H10.out.add (H10.out.next 2 rfl ht hg) ho)
      have HWLwl14 := hid hlen
      have HWBwl14 := hid hin
      obtain ⟨wv13a, wv13c, rfl, _⟩ := ho.slc
      clear hlen hin ho ht hg
      refine hK.out _ _ ?_ (fun hHeld2 => ?_)
      focus ((try dsimp only); (exact ⟨H15.out.cell 1 rfl 0 rfl, H15.out.cell 1 rfl 1 rfl, H15.out.cell 1 rfl 2 rfl, H15.out.cell 1 rfl 3 rfl⟩))
      clear hK K
      try simp only [Act.put, List.getElem_toArray, List.getElem_cons_zero, List.getElem_cons_succ, List.setIfInBounds_toArray, List.set_cons_zero, List.set_cons_succ]
      clear hHeld
      have hHeld := hHeld2
      clear hHeld2
      refine wpAnyH_ready (rs := [5, 8]) (by kernel_rfl) (by simp) (AllReadyH.cons (o := _) rfl (fun K hK => ?_) (AllReadyH.cons (o := _) rfl (fun K hK => ?_) AllReadyH.nil))
      · go_simp
        go_at_call 25
        refine (edgeok_any B K1 _ _ (by omega) (H15.out.tapeAt 3 rfl)).mono ?_
        rintro e w17 ⟨e16_0, e16_1, rfl, hev, ht, hg⟩
        have H18 := hid (H15.out.next 3 rfl ht hg)
        have HEe16 := hid hev
        clear ht hg hev
        refine hK.out _ _ ?_ (fun hHeld2 => ?_)
        focus ((try dsimp only); (exact ⟨H18.out.cell 1 rfl 0 rfl, H18.out.cell 1 rfl 1 rfl, H18.out.cell 1 rfl 2 rfl, H18.out.cell 1 rfl 3 rfl⟩))
        clear hK K
        try simp only [Act.put, List.getElem_toArray, List.getElem_cons_zero, List.getElem_cons_succ, List.setIfInBounds_toArray, List.set_cons_zero, List.set_cons_succ]
        clear hHeld
        have hHeld := hHeld2
        clear hHeld2
        refine wpAnyH_ready (rs := [7, 8]) (by kernel_rfl) (by simp) (AllReadyH.cons (o := _) rfl (fun K hK => ?_) (AllReadyH.cons (o := _) rfl (fun K hK => ?_) AllReadyH.nil))
        · go_simp
          go_at_call 18
          refine (nextB_any B K1 _ _ (by omega) (H18.out.tapeAt 3 rfl)).mono ?_
          rintro e w20 ⟨x19, rfl, x19a, x19b, htn, hgn, hsn⟩
          have H21 := hid (H18.out.next 3 rfl htn hgn)
          clear htn hgn hsn
          refine hK.out _ _ ?_ (fun hHeld2 => ?_)
          focus ((try dsimp only); (exact ⟨H21.out.cell 1 rfl 0 rfl, H21.out.cell 1 rfl 1 rfl, H21.out.cell 1 rfl 2 rfl, H21.out.cell 1 rfl 3 rfl⟩))
          clear hK K
          try simp only [Act.put, List.getElem_toArray, List.getElem_cons_zero, List.getElem_cons_succ, List.setIfInBounds_toArray, List.set_cons_zero, List.set_cons_succ]
          clear hHeld
          have hHeld := hHeld2
          clear hHeld2
          refine wpAnyH_ready (rs := [8]) (by kernel_rfl) (by simp) (AllReadyH.cons (o := _) rfl (fun K hK => ?_) AllReadyH.nil)
          obtain ⟨D22, hD22⟩ : ∃ D, w20.heap.size = D := ⟨_, rfl⟩
          have H23 := hid (show St B W [.cells D22 #[.int .i64 0, .int .i64 0] 38, .own (.slice wv13a wl14.length wv13c) wl14, .cells D7 #[.int .i64 pw4, .int .i64 ph4, .int .i64 pm4, .slice pv4a ps4.length pv4c] 35, .own (.slice pv4a ps4.length pv4c) ps4, .tape K1] [] (w20.alloc (.cells #[.int .i64 0, .int .i64 0] 38)) from (H21.out.alloc #[.int .i64 0, .int .i64 0] 38 hD22))
          go_simp
          refine hK.out _ _ ?_ (fun hHeld2 => ?_)
          focus ((try dsimp only); (exact ⟨H23.out.cell 2 rfl 0 rfl, H23.out.cell 2 rfl 1 rfl, H23.out.cell 2 rfl 2 rfl, H23.out.cell 2 rfl 3 rfl⟩))
          clear hK K hHeld
          try simp only [Act.put, List.getElem_toArray, List.getElem_cons_zero, List.getElem_cons_succ, List.setIfInBounds_toArray, List.set_cons_zero, List.set_cons_succ]
          clear hD22
          generalize (w20.alloc (.cells #[.int .i64 0, .int .i64 0] 38)) = k24 at *
          have hHeld := hHeld2
          clear hHeld2
          refine wpAnyH_take (i := 9) (oi := _) (v := ?_) rfl (by kernel_rfl) (by kernel_rfl) (by kernel_rfl) (fun _ _ _ h => h) (Or.inl ⟨by rfl, ?_⟩) (by assumption) ?_
          rotate_left
          focus (intro wS hSw; (try dsimp only at hSw); go_simp; (try with_reducible rfl))
          try simp only [Act.put, List.getElem_toArray, List.getElem_cons_zero, List.getElem_cons_succ, List.setIfInBounds_toArray, List.set_cons_zero, List.set_cons_succ]
          refine wpAnyH_ready (rs := [10]) (by kernel_rfl) (by simp) (AllReadyH.cons (o := _) rfl (fun K hK => ?_) AllReadyH.nil)
          have z25 := H23.out.cell 0 rfl 0 rfl
          have z26 := H23.out.free 0 rfl 0
          have z27 := H23.out.cell 0 rfl 1 rfl
          have z28 := H23.out.free 0 rfl 1
          have H29 := hid (show St B W [.cells D22 #[.int .i64 e16_0, .int .i64 e16_1] 38, .own (.slice wv13a wl14.length wv13c) wl14, .cells D7 #[.int .i64 pw4, .int .i64 ph4, .int .i64 pm4, .slice pv4a ps4.length pv4c] 35, .own (.slice pv4a ps4.length pv4c) ps4, .tape K1] [] ((k24.setCell ⟨D22, 0, none⟩ (.int .i64 e16_0)).setCell ⟨D22, 1, none⟩ (.int .i64 e16_1)) from ((H23.out.set 0 rfl 0 (.int .i64 e16_0)).set 0 rfl 1 (.int .i64 e16_1)))
          go_simp
          refine hK.out _ _ ?_ (fun hHeld2 => ?_)
          focus ((try dsimp only); (exact ⟨H29.out.cell 2 rfl 0 rfl, H29.out.cell 2 rfl 1 rfl, H29.out.cell 2 rfl 2 rfl, H29.out.cell 2 rfl 3 rfl⟩))
          clear hK K hHeld
          try simp only [Act.put, List.getElem_toArray, List.getElem_cons_zero, List.getElem_cons_succ, List.setIfInBounds_toArray, List.set_cons_zero, List.set_cons_succ]
          clear z25 z26 z27 z28
          generalize ((k24.setCell ⟨D22, 0, none⟩ (.int .i64 e16_0)).setCell ⟨D22, 1, none⟩ (.int .i64 e16_1)) = k30 at *
          have hHeld := hHeld2
          clear hHeld2
          refine wpAnyH_take (i := 11) (oi := _) (v := ?_) rfl (by kernel_rfl) (by kernel_rfl) (by kernel_rfl) (fun _ _ _ h => h) (Or.inl ⟨by rfl, ?_⟩) (by assumption) ?_
          rotate_left
          focus (intro wS hSw; (try dsimp only at hSw); go_simp; (try with_reducible rfl))
          try simp only [Act.put, List.getElem_toArray, List.getElem_cons_zero, List.getElem_cons_succ, List.setIfInBounds_toArray, List.set_cons_zero, List.set_cons_succ]
          refine wpAnyH_done (by kernel_rfl) ?_ _
          try clear hHeld
          go_wp2_with fail
          go_meet
          exact ⟨D22, _, _, _, _, _, _, rfl, rfl, rfl, HWLwl14.out, HWBwl14.out, HEe16.out, by omega, by omega, H29.out.pick [1, 0, 2, 3, 4] rfl (by decide)⟩
        · obtain ⟨D31, hD31⟩ : ∃ D, w17.heap.size = D := ⟨_, rfl⟩
          have H32 := hid (show St B W [.cells D31 #[.int .i64 0, .int .i64 0] 38, .own (.slice wv13a wl14.length wv13c) wl14, .cells D7 #[.int .i64 pw4, .int .i64 ph4, .int .i64 pm4, .slice pv4a ps4.length pv4c] 35, .own (.slice pv4a ps4.length pv4c) ps4, .tape K1] [] (w17.alloc (.cells #[.int .i64 0, .int .i64 0] 38)) from (H18.out.alloc #[.int .i64 0, .int .i64 0] 38 hD31))
          go_simp
          refine hK.out _ _ ?_ (fun hHeld2 => ?_)
          focus ((try dsimp only); (exact ⟨H32.out.cell 2 rfl 0 rfl, H32.out.cell 2 rfl 1 rfl, H32.out.cell 2 rfl 2 rfl, H32.out.cell 2 rfl 3 rfl⟩))
          clear hK K hHeld
          try simp only [Act.put, List.getElem_toArray, List.getElem_cons_zero, List.getElem_cons_succ, List.setIfInBounds_toArray, List.set_cons_zero, List.set_cons_succ]
          clear hD31
          generalize (w17.alloc (.cells #[.int .i64 0, .int .i64 0] 38)) = k33 at *
          have hHeld := hHeld2
          clear hHeld2
          refine wpAnyH_ready (rs := [7]) (by kernel_rfl) (by simp) (AllReadyH.cons (o := _) rfl (fun K hK => ?_) AllReadyH.nil)
          go_simp
          go_at_call 18
          refine (nextB_any B K1 _ _ (by omega) (H32.out.tapeAt 4 rfl)).mono ?_
          rintro e w35 ⟨x34, rfl, x34a, x34b, htn, hgn, hsn⟩
          have H36 := hid (H32.out.next 4 rfl htn hgn)
          clear htn hgn hsn
          refine hK.out _ _ ?_ (fun hHeld2 => ?_)
          focus ((try dsimp only); (exact ⟨H36.out.cell 2 rfl 0 rfl, H36.out.cell 2 rfl 1 rfl, H36.out.cell 2 rfl 2 rfl, H36.out.cell 2 rfl 3 rfl⟩))
          clear hK K
          try simp only [Act.put, List.getElem_toArray, List.getElem_cons_zero, List.getElem_cons_succ, List.setIfInBounds_toArray, List.set_cons_zero, List.set_cons_succ]
          clear hHeld
          have hHeld := hHeld2
          clear hHeld2
          refine wpAnyH_take (i := 9) (oi := _) (v := ?_) rfl (by kernel_rfl) (by kernel_rfl) (by kernel_rfl) (fun _ _ _ h => h) (Or.inl ⟨by rfl, ?_⟩) (by assumption) ?_
          rotate_left
          focus (intro wS hSw; (try dsimp only at hSw); go_simp; (try with_reducible rfl))
          try simp only [Act.put, List.getElem_toArray, List.getElem_cons_zero, List.getElem_cons_succ, List.setIfInBounds_toArray, List.set_cons_zero, List.set_cons_succ]
          refine wpAnyH_ready (rs := [10]) (by kernel_rfl) (by simp) (AllReadyH.cons (o := _) rfl (fun K hK => ?_) AllReadyH.nil)
          have z37 := H36.out.cell 0 rfl 0 rfl
          have z38 := H36.out.free 0 rfl 0
          have z39 := H36.out.cell 0 rfl 1 rfl
          have z40 := H36.out.free 0 rfl 1
          have H41 := hid (show St B W [.cells D31 #[.int .i64 e16_0, .int .i64 e16_1] 38, .own (.slice wv13a wl14.length wv13c) wl14, .cells D7 #[.int .i64 pw4, .int .i64 ph4, .int .i64 pm4, .slice pv4a ps4.length pv4c] 35, .own (.slice pv4a ps4.length pv4c) ps4, .tape K1] [] ((w35.setCell ⟨D31, 0, none⟩ (.int .i64 e16_0)).setCell ⟨D31, 1, none⟩ (.int .i64 e16_1)) from ((H36.out.set 0 rfl 0 (.int .i64 e16_0)).set 0 rfl 1 (.int .i64 e16_1)))
          go_simp
          refine hK.out _ _ ?_ (fun hHeld2 => ?_)
          focus ((try dsimp only); (exact ⟨H41.out.cell 2 rfl 0 rfl, H41.out.cell 2 rfl 1 rfl, H41.out.cell 2 rfl 2 rfl, H41.out.cell 2 rfl 3 rfl⟩))
          clear hK K hHeld
          try simp only [Act.put, List.getElem_toArray, List.getElem_cons_zero, List.getElem_cons_succ, List.setIfInBounds_toArray, List.set_cons_zero, List.set_cons_succ]
          clear z37 z38 z39 z40
          generalize ((w35.setCell ⟨D31, 0, none⟩ (.int .i64 e16_0)).setCell ⟨D31, 1, none⟩ (.int .i64 e16_1)) = k42 at *
          have hHeld := hHeld2
          clear hHeld2
          refine wpAnyH_take (i := 11) (oi := _) (v := ?_) rfl (by kernel_rfl) (by kernel_rfl) (by kernel_rfl) (fun _ _ _ h => h) (Or.inl ⟨by rfl, ?_⟩) (by assumption) ?_
          rotate_left
          focus (intro wS hSw; (try dsimp only at hSw); go_simp; (try with_reducible rfl))
          try simp only [Act.put, List.getElem_toArray, List.getElem_cons_zero, List.getElem_cons_succ, List.setIfInBounds_toArray, List.set_cons_zero, List.set_cons_succ]
          refine wpAnyH_done (by kernel_rfl) ?_ _
          try clear hHeld
          go_wp2_with fail
          go_meet
          exact ⟨D31, _, _, _, _, _, _, rfl, rfl, rfl, HWLwl14.out, HWBwl14.out, HEe16.out, by omega, by omega, H41.out.pick [1, 0, 2, 3, 4] rfl (by decide)⟩
      · obtain ⟨D43, hD43⟩ : ∃ D, w12.heap.size = D := ⟨_, rfl⟩
        have H44 := hid (show St B W [.cells D43 #[.int .i64 0, .int .i64 0] 38, .own (.slice wv13a wl14.length wv13c) wl14, .cells D7 #[.int .i64 pw4, .int .i64 ph4, .int .i64 pm4, .slice pv4a ps4.length pv4c] 35, .own (.slice pv4a ps4.length pv4c) ps4, .tape K1] [] (w12.alloc (.cells #[.int .i64 0, .int .i64 0] 38)) from (H15.out.alloc #[.int .i64 0, .int .i64 0] 38 hD43))
        go_simp
        refine hK.out _ _ ?_ (fun hHeld2 => ?_)
        focus ((try dsimp only); (exact ⟨H44.out.cell 2 rfl 0 rfl, H44.out.cell 2 rfl 1 rfl, H44.out.cell 2 rfl 2 rfl, H44.out.cell 2 rfl 3 rfl⟩))
        clear hK K hHeld
        try simp only [Act.put, List.getElem_toArray, List.getElem_cons_zero, List.getElem_cons_succ, List.setIfInBounds_toArray, List.set_cons_zero, List.set_cons_succ]
        clear hD43
        generalize (w12.alloc (.cells #[.int .i64 0, .int .i64 0] 38)) = k45 at *
        have hHeld := hHeld2
        clear hHeld2
        refine wpAnyH_ready (rs := [5]) (by kernel_rfl) (by simp) (AllReadyH.cons (o := _) rfl (fun K hK => ?_) AllReadyH.nil)
        go_simp
        go_at_call 25
        refine (edgeok_any B K1 _ _ (by omega) (H44.out.tapeAt 4 rfl)).mono ?_
        rintro e w47 ⟨e46_0, e46_1, rfl, hev, ht, hg⟩
        have H48 := hid (H44.out.next 4 rfl ht hg)
        have HEe46 := hid hev
        clear ht hg hev
        refine hK.out _ _ ?_ (fun hHeld2 => ?_)
        focus ((try dsimp only); (exact ⟨H48.out.cell 2 rfl 0 rfl, H48.out.cell 2 rfl 1 rfl, H48.out.cell 2 rfl 2 rfl, H48.out.cell 2 rfl 3 rfl⟩))
        clear hK K
        try simp only [Act.put, List.getElem_toArray, List.getElem_cons_zero, List.getElem_cons_succ, List.setIfInBounds_toArray, List.set_cons_zero, List.set_cons_succ]
        clear hHeld
        have hHeld := hHeld2
        clear hHeld2
        refine wpAnyH_ready (rs := [7]) (by kernel_rfl) (by simp) (AllReadyH.cons (o := _) rfl (fun K hK => ?_) AllReadyH.nil)
        go_simp
        go_at_call 18
        refine (nextB_any B K1 _ _ (by omega) (H48.out.tapeAt 4 rfl)).mono ?_
        rintro e w50 ⟨x49, rfl, x49a, x49b, htn, hgn, hsn⟩
        have H51 := hid (H48.out.next 4 rfl htn hgn)
        clear htn hgn hsn
        refine hK.out _ _ ?_ (fun hHeld2 => ?_)
        focus ((try dsimp only); (exact ⟨H51.out.cell 2 rfl 0 rfl, H51.out.cell 2 rfl 1 rfl, H51.out.cell 2 rfl 2 rfl, H51.out.cell 2 rfl 3 rfl⟩))
        clear hK K
        try simp only [Act.put, List.getElem_toArray, List.getElem_cons_zero, List.getElem_cons_succ, List.setIfInBounds_toArray, List.set_cons_zero, List.set_cons_succ]
        clear hHeld
        have hHeld := hHeld2
        clear hHeld2
        refine wpAnyH_take (i := 9) (oi := _) (v := ?_) rfl (by kernel_rfl) (by kernel_rfl) (by kernel_rfl) (fun _ _ _ h => h) (Or.inl ⟨by rfl, ?_⟩) (by assumption) ?_
        rotate_left
        focus (intro wS hSw; (try dsimp only at hSw); go_simp; (try with_reducible rfl))
        try simp only [Act.put, List.getElem_toArray, List.getElem_cons_zero, List.getElem_cons_succ, List.setIfInBounds_toArray, List.set_cons_zero, List.set_cons_succ]
        refine wpAnyH_ready (rs := [10]) (by kernel_rfl) (by simp) (AllReadyH.cons (o := _) rfl (fun K hK => ?_) AllReadyH.nil)
        have z52 := H51.out.cell 0 rfl 0 rfl
        have z53 := H51.out.free 0 rfl 0
        have z54 := H51.out.cell 0 rfl 1 rfl
        have z55 := H51.out.free 0 rfl 1
        have H56 := hid (show St B W [.cells D43 #[.int .i64 e46_0, .int .i64 e46_1] 38, .own (.slice wv13a wl14.length wv13c) wl14, .cells D7 #[.int .i64 pw4, .int .i64 ph4, .int .i64 pm4, .slice pv4a ps4.length pv4c] 35, .own (.slice pv4a ps4.length pv4c) ps4, .tape K1] [] ((w50.setCell ⟨D43, 0, none⟩ (.int .i64 e46_0)).setCell ⟨D43, 1, none⟩ (.int .i64 e46_1)) from ((H51.out.set 0 rfl 0 (.int .i64 e46_0)).set 0 rfl 1 (.int .i64 e46_1)))
        go_simp
        refine hK.out _ _ ?_ (fun hHeld2 => ?_)
        focus ((try dsimp only); (exact ⟨H56.out.cell 2 rfl 0 rfl, H56.out.cell 2 rfl 1 rfl, H56.out.cell 2 rfl 2 rfl, H56.out.cell 2 rfl 3 rfl⟩))
        clear hK K hHeld
        try simp only [Act.put, List.getElem_toArray, List.getElem_cons_zero, List.getElem_cons_succ, List.setIfInBounds_toArray, List.set_cons_zero, List.set_cons_succ]
        clear z52 z53 z54 z55
        generalize ((w50.setCell ⟨D43, 0, none⟩ (.int .i64 e46_0)).setCell ⟨D43, 1, none⟩ (.int .i64 e46_1)) = k57 at *
        have hHeld := hHeld2
        clear hHeld2
        refine wpAnyH_take (i := 11) (oi := _) (v := ?_) rfl (by kernel_rfl) (by kernel_rfl) (by kernel_rfl) (fun _ _ _ h => h) (Or.inl ⟨by rfl, ?_⟩) (by assumption) ?_
        rotate_left
        focus (intro wS hSw; (try dsimp only at hSw); go_simp; (try with_reducible rfl))
        try simp only [Act.put, List.getElem_toArray, List.getElem_cons_zero, List.getElem_cons_succ, List.setIfInBounds_toArray, List.set_cons_zero, List.set_cons_succ]
        refine wpAnyH_done (by kernel_rfl) ?_ _
        try clear hHeld
        go_wp2_with fail
        go_meet
        exact ⟨D43, _, _, _, _, _, _, rfl, rfl, rfl, HWLwl14.out, HWBwl14.out, HEe46.out, by omega, by omega, H56.out.pick [1, 0, 2, 3, 4] rfl (by decide)⟩
    · obtain ⟨D58, hD58⟩ : ∃ D, k11.heap.size = D := ⟨_, rfl⟩
      have H59 := hid (show St B W [.cells D58 #[.int .i64 0, .int .i64 0] 38, .cells D7 #[.int .i64 pw4, .int .i64 ph4, .int .i64 pm4, .slice pv4a ps4.length pv4c] 35, .own (.slice pv4a ps4.length pv4c) ps4, .tape K1] [] (k11.alloc (.cells #[.int .i64 0, .int .i64 0] 38)) from (H10.out.alloc #[.int .i64 0, .int .i64 0] 38 hD58))
      go_simp
      refine hK.out _ _ ?_ (fun hHeld2 => ?_)
      focus ((try dsimp only); (exact ⟨H59.out.cell 1 rfl 0 rfl, H59.out.cell 1 rfl 1 rfl, H59.out.cell 1 rfl 2 rfl, H59.out.cell 1 rfl 3 rfl⟩))
      clear hK K hHeld
      try simp only [Act.put, List.getElem_toArray, List.getElem_cons_zero, List.getElem_cons_succ, List.setIfInBounds_toArray, List.set_cons_zero, List.set_cons_succ]
      clear hD58
      generalize (k11.alloc (.cells #[.int .i64 0, .int .i64 0] 38)) = k60 at *
      have hHeld := hHeld2
      clear hHeld2
      refine wpAnyH_ready (rs := [1]) (by kernel_rfl) (by simp) (AllReadyH.cons (o := _) rfl (fun K hK => ?_) AllReadyH.nil)
      go_simp
      go_at_call 19
      refine (weights_any B K1 _ _ (by omega) (H59.out.tapeAt 3 rfl)).mono ?_
      rintro e w61 ⟨wv62, wl63, rfl, hlen, hin, ho, ht, hg⟩
      have H64 := hid (H59.out.add (H59.out.next 3 rfl ht hg) ho)
      have HWLwl63 := hid hlen
      have HWBwl63 := hid hin
      obtain ⟨wv62a, wv62c, rfl, _⟩ := ho.slc
      clear hlen hin ho ht hg
      refine hK.out _ _ ?_ (fun hHeld2 => ?_)
      focus ((try dsimp only); (exact ⟨H64.out.cell 2 rfl 0 rfl, H64.out.cell 2 rfl 1 rfl, H64.out.cell 2 rfl 2 rfl, H64.out.cell 2 rfl 3 rfl⟩))
      clear hK K
      try simp only [Act.put, List.getElem_toArray, List.getElem_cons_zero, List.getElem_cons_succ, List.setIfInBounds_toArray, List.set_cons_zero, List.set_cons_succ]
      clear hHeld
      have hHeld := hHeld2
      clear hHeld2
      refine wpAnyH_ready (rs := [5]) (by kernel_rfl) (by simp) (AllReadyH.cons (o := _) rfl (fun K hK => ?_) AllReadyH.nil)
      go_simp
      go_at_call 25
      refine (edgeok_any B K1 _ _ (by omega) (H64.out.tapeAt 4 rfl)).mono ?_
      rintro e w66 ⟨e65_0, e65_1, rfl, hev, ht, hg⟩
      have H67 := hid (H64.out.next 4 rfl ht hg)
      have HEe65 := hid hev
      clear ht hg hev
      refine hK.out _ _ ?_ (fun hHeld2 => ?_)
      focus ((try dsimp only); (exact ⟨H67.out.cell 2 rfl 0 rfl, H67.out.cell 2 rfl 1 rfl, H67.out.cell 2 rfl 2 rfl, H67.out.cell 2 rfl 3 rfl⟩))
      clear hK K
      try simp only [Act.put, List.getElem_toArray, List.getElem_cons_zero, List.getElem_cons_succ, List.setIfInBounds_toArray, List.set_cons_zero, List.set_cons_succ]
      clear hHeld
      have hHeld := hHeld2
      clear hHeld2
      refine wpAnyH_ready (rs := [7]) (by kernel_rfl) (by simp) (AllReadyH.cons (o := _) rfl (fun K hK => ?_) AllReadyH.nil)
      go_simp
      go_at_call 18
      refine (nextB_any B K1 _ _ (by omega) (H67.out.tapeAt 4 rfl)).mono ?_
      rintro e w69 ⟨x68, rfl, x68a, x68b, htn, hgn, hsn⟩
      have H70 := hid (H67.out.next 4 rfl htn hgn)
      clear htn hgn hsn
      refine hK.out _ _ ?_ (fun hHeld2 => ?_)
      focus ((try dsimp only); (exact ⟨H70.out.cell 2 rfl 0 rfl, H70.out.cell 2 rfl 1 rfl, H70.out.cell 2 rfl 2 rfl, H70.out.cell 2 rfl 3 rfl⟩))
      clear hK K
      try simp only [Act.put, List.getElem_toArray, List.getElem_cons_zero, List.getElem_cons_succ, List.setIfInBounds_toArray, List.set_cons_zero, List.set_cons_succ]
      clear hHeld
      have hHeld := hHeld2
      clear hHeld2
      refine wpAnyH_take (i := 9) (oi := _) (v := ?_) rfl (by kernel_rfl) (by kernel_rfl) (by kernel_rfl) (fun _ _ _ h => h) (Or.inl ⟨by rfl, ?_⟩) (by assumption) ?_
      rotate_left
      focus (intro wS hSw; (try dsimp only at hSw); go_simp; (try with_reducible rfl))
      try simp only [Act.put, List.getElem_toArray, List.getElem_cons_zero, List.getElem_cons_succ, List.setIfInBounds_toArray, List.set_cons_zero, List.set_cons_succ]
      refine wpAnyH_ready (rs := [10]) (by kernel_rfl) (by simp) (AllReadyH.cons (o := _) rfl (fun K hK => ?_) AllReadyH.nil)
      have z71 := H70.out.cell 1 rfl 0 rfl
      have z72 := H70.out.free 1 rfl 0
      have z73 := H70.out.cell 1 rfl 1 rfl
      have z74 := H70.out.free 1 rfl 1
      have H75 := hid (show St B W [.own (.slice wv62a wl63.length wv62c) wl63, .cells D58 #[.int .i64 e65_0, .int .i64 e65_1] 38, .cells D7 #[.int .i64 pw4, .int .i64 ph4, .int .i64 pm4, .slice pv4a ps4.length pv4c] 35, .own (.slice pv4a ps4.length pv4c) ps4, .tape K1] [] ((w69.setCell ⟨D58, 0, none⟩ (.int .i64 e65_0)).setCell ⟨D58, 1, none⟩ (.int .i64 e65_1)) from ((H70.out.set 1 rfl 0 (.int .i64 e65_0)).set 1 rfl 1 (.int .i64 e65_1)))
      go_simp
      refine hK.out _ _ ?_ (fun hHeld2 => ?_)
      focus ((try dsimp only); (exact ⟨H75.out.cell 2 rfl 0 rfl, H75.out.cell 2 rfl 1 rfl, H75.out.cell 2 rfl 2 rfl, H75.out.cell 2 rfl 3 rfl⟩))
      clear hK K hHeld
      try simp only [Act.put, List.getElem_toArray, List.getElem_cons_zero, List.getElem_cons_succ, List.setIfInBounds_toArray, List.set_cons_zero, List.set_cons_succ]
      clear z71 z72 z73 z74
      generalize ((w69.setCell ⟨D58, 0, none⟩ (.int .i64 e65_0)).setCell ⟨D58, 1, none⟩ (.int .i64 e65_1)) = k76 at *
      have hHeld := hHeld2
      clear hHeld2
      refine wpAnyH_take (i := 11) (oi := _) (v := ?_) rfl (by kernel_rfl) (by kernel_rfl) (by kernel_rfl) (fun _ _ _ h => h) (Or.inl ⟨by rfl, ?_⟩) (by assumption) ?_
      rotate_left
      focus (intro wS hSw; (try dsimp only at hSw); go_simp; (try with_reducible rfl))
      try simp only [Act.put, List.getElem_toArray, List.getElem_cons_zero, List.getElem_cons_succ, List.setIfInBounds_toArray, List.set_cons_zero, List.set_cons_succ]
      refine wpAnyH_done (by kernel_rfl) ?_ _
      try clear hHeld
      go_wp2_with fail
      go_meet
      exact ⟨D58, _, _, _, _, _, _, rfl, rfl, rfl, HWLwl63.out, HWBwl63.out, HEe65.out, by omega, by omega, H75.out.pick [0, 1, 2, 3, 4] rfl (by decide)⟩
  case rest =>
    obtain ⟨RE, wla, wlc, wls, ep, ef, sh, rfl, rfl, rfl, hwl, hwb, hev, sh1, sh2, hst⟩ := hcut
    obtain ⟨u77, rfl⟩ : ∃ u77 : World, u77 = wc := ⟨_, rfl⟩
    have H78 := hid hst
    clear hst
    have HWLwls := hid hwl
    have HWBwls := hid hwb
    have HEV := hid hev
    clear hwl hwb hev
    have z79 := H78.out.cell 2 rfl 0 rfl
    have z80 := H78.out.cell 2 rfl 1 rfl
    have z81 := H78.out.cell 2 rfl 2 rfl
    have z82 := H78.out.cell 2 rfl 3 rfl
    go_wp2_with fail
    clear z79 z80 z81 z82
    refine (within_any B K1 _ _ _ (by omega) (by omega) (by omega) (by omega) (H78.out.tapeAt 4 rfl)).mono ?_
    rintro e w84 ⟨q83_0, q83_1, q83_2, q83_3, rfl, hq83, ht, hg⟩
    have H85 := hid (H78.out.next 4 rfl ht hg)
    have HWq83 := hid hq83
    clear hq83 ht hg
    obtain ⟨hq0, hq1, hq2, hq3, hq4, hq5⟩ := HWq83.out
    obtain ⟨D86, hD86⟩ : ∃ D, w84.heap.size = D := ⟨_, rfl⟩
    go_upto_region 5 with fail
    have H87 := hid (show St B W [.cells D86 #[.int .i64 q83_0, .int .i64 q83_1, .int .i64 q83_2, .int .i64 q83_3] 33, .own (.slice wla wls.length wlc) wls, .cells RE #[.int .i64 ep, .int .i64 ef] 38, .cells D7 #[.int .i64 pw4, .int .i64 ph4, .int .i64 pm4, .slice pv4a ps4.length pv4c] 35, .own (.slice pv4a ps4.length pv4c) ps4, .tape K1] [] (w84.alloc (.cells #[.int .i64 q83_0, .int .i64 q83_1, .int .i64 q83_2, .int .i64 q83_3] 33)) from (H85.out.alloc #[.int .i64 q83_0, .int .i64 q83_1, .int .i64 q83_2, .int .i64 q83_3] 33 hD86))
    first | refine gen_code H87.out ?_ | refine gen_list H87.out ?_ | refine gen_calls H87.out ?_
    intro w88 hG
    clear H87
    have H87 := hid hG
    clear hG
    clear hD86
    have z89 := H87.out.cell 3 rfl 0 rfl
    have z90 := H87.out.cell 3 rfl 1 rfl
    have z91 := H87.out.cell 3 rfl 2 rfl
    have z92 := H87.out.cell 3 rfl 3 rfl
    have z93 := H87.out.cell 2 rfl 0 rfl
    have z94 := H87.out.cell 2 rfl 1 rfl
    go_wp2_with fail
    clear z89 z90 z91 z92 z93 z94
    have hp := pOk_iff.1 (pValid_iff.1 HVps4.out).1
    have hmx := HMps4.out
    have HCK98 := hid (show cvCode pm4 3 3 wls sh 255 = 0 from cv_ok (by omega) (by omega) (by first | (rw [HWLwls.out]; rfl) | (have := HWLwls.out; omega)) (fun i hi => by have := HWBwls.out i; omega) (by omega) (by omega) (by omega))
    have hct := cvT_ok HVps4.out (HEV.out) HCK98.out (r0 := 0) (r1 := 0) (r2 := pw4) (r3 := ph4) (by omega)
    refine (ctile_any _ _ _ _ _ _ ps4 _ _ _ _ _ _ _ wls _ _ _ _ _ _ _ (H87.out.slc 4 rfl) (H87.out.slc 1 rfl)).mono ?_
    rintro e w95 ⟨v96, rfl, ho, hb⟩
    rw [hct] at ho ⊢
    simp only [tI, tL, if_pos] at ho ⊢
    clear hct hp hmx
    obtain ⟨l99, hl99⟩ : ∃ xx', cvL pw4 ph4 ps4 ep ef 3 3 wls sh 255 0 0 pw4 ph4 = xx' := ⟨_, rfl⟩
    rw [hl99] at ho
    have HNl99 := hid hl99
    clear hl99
    rw [Int.sub_zero, Int.sub_zero]
    have H97 := hid (H87.out.grow hb ho)
    obtain ⟨v96a, v96c, rfl, _⟩ := ho.slc
    clear ho hb
    have HVl99 := hid (show pValid pw4 ph4 255 l99 = true from by rw [← HNl99.out]; exact rG_valid (by omega) (fun x y => cvP_bd _ _ _ _ _ _ _ _ _ (by omega) x y) HVps4.out)
    obtain ⟨D100, hD100⟩ : ∃ D, w95.heap.size = D := ⟨_, rfl⟩
    go_upto_region 6 with fail
    have H101 := hid (show St B W [.cells D100 #[.int .i64 pw4, .int .i64 ph4, .int .i64 255, .slice v96a l99.length v96c] 35, .own (.slice v96a l99.length v96c) l99, .cells D86 #[.int .i64 q83_0, .int .i64 q83_1, .int .i64 q83_2, .int .i64 q83_3] 33, .own (.slice wla wls.length wlc) wls, .cells RE #[.int .i64 ep, .int .i64 ef] 38, .cells D7 #[.int .i64 pw4, .int .i64 ph4, .int .i64 pm4, .slice pv4a ps4.length pv4c] 35, .own (.slice pv4a ps4.length pv4c) ps4, .tape K1] [] (w95.alloc (.cells #[.int .i64 pw4, .int .i64 ph4, .int .i64 255, .slice v96a l99.length v96c] 35)) from (H97.out.alloc #[.int .i64 pw4, .int .i64 ph4, .int .i64 255, .slice v96a l99.length v96c] 35 hD100))
    first | refine gen_code H101.out ?_ | refine gen_list H101.out ?_ | refine gen_calls H101.out ?_
    intro w102 hG
    clear H101
    have H101 := hid hG
    clear hG
    clear hD100
    have z103 := H101.out.cell 5 rfl 0 rfl
    have z104 := H101.out.cell 5 rfl 1 rfl
    have z105 := H101.out.cell 5 rfl 2 rfl
    have z106 := H101.out.cell 5 rfl 3 rfl
    have z107 := H101.out.cell 4 rfl 0 rfl
    have z108 := H101.out.cell 4 rfl 1 rfl
    have z109 := H101.out.cell 2 rfl 0 rfl
    have z110 := H101.out.cell 2 rfl 1 rfl
    have z111 := H101.out.cell 2 rfl 2 rfl
    have z112 := H101.out.cell 2 rfl 3 rfl
    go_wp2_with fail
    clear z103 z104 z105 z106 z107 z108 z109 z110 z111 z112
    have hp := pOk_iff.1 (pValid_iff.1 HVps4.out).1
    have hmx := HMps4.out
    have HCK116 := hid (show cvCode pm4 3 3 wls sh 255 = 0 from cv_ok (by omega) (by omega) (by first | (rw [HWLwls.out]; rfl) | (have := HWLwls.out; omega)) (fun i hi => by have := HWBwls.out i; omega) (by omega) (by omega) (by omega))
    have hct := cvT_ok HVps4.out (HEV.out) HCK116.out (r0 := q83_0) (r1 := q83_1) (r2 := q83_2) (r3 := q83_3) (by omega)
    refine (ctile_any _ _ _ _ _ _ ps4 _ _ _ _ _ _ _ wls _ _ _ _ _ _ _ (H101.out.slc 6 rfl) (H101.out.slc 3 rfl)).mono ?_
    rintro e w113 ⟨v114, rfl, ho, hb⟩
    rw [hct] at ho ⊢
    simp only [tI, tL, if_pos] at ho ⊢
    clear hct hp hmx
    obtain ⟨l117, hl117⟩ : ∃ xx', cvL pw4 ph4 ps4 ep ef 3 3 wls sh 255 q83_0 q83_1 q83_2 q83_3 = xx' := ⟨_, rfl⟩
    rw [hl117] at ho
    have HNl117 := hid hl117
    clear hl117
    obtain ⟨t118, ht118⟩ : ∃ xx', q83_2 - q83_0 = xx' := ⟨_, rfl⟩
    rw [ht118]
    have HNt118 := hid ht118
    clear ht118
    obtain ⟨t119, ht119⟩ : ∃ xx', q83_3 - q83_1 = xx' := ⟨_, rfl⟩
    rw [ht119]
    have HNt119 := hid ht119
    clear ht119
    have H115 := hid (H101.out.grow hb ho)
    obtain ⟨v114a, v114c, rfl, _⟩ := ho.slc
    clear ho hb
    obtain ⟨D120, hD120⟩ : ∃ D, w113.heap.size = D := ⟨_, rfl⟩
    go_upto_region 7 with fail
    have H121 := hid (show St B W [.cells D120 #[.int .i64 t118, .int .i64 t119, .int .i64 255, .slice v114a l117.length v114c] 35, .own (.slice v114a l117.length v114c) l117, .cells D100 #[.int .i64 pw4, .int .i64 ph4, .int .i64 255, .slice v96a l99.length v96c] 35, .own (.slice v96a l99.length v96c) l99, .cells D86 #[.int .i64 q83_0, .int .i64 q83_1, .int .i64 q83_2, .int .i64 q83_3] 33, .own (.slice wla wls.length wlc) wls, .cells RE #[.int .i64 ep, .int .i64 ef] 38, .cells D7 #[.int .i64 pw4, .int .i64 ph4, .int .i64 pm4, .slice pv4a ps4.length pv4c] 35, .own (.slice pv4a ps4.length pv4c) ps4, .tape K1] [] (w113.alloc (.cells #[.int .i64 t118, .int .i64 t119, .int .i64 255, .slice v114a l117.length v114c] 35)) from (H115.out.alloc #[.int .i64 t118, .int .i64 t119, .int .i64 255, .slice v114a l117.length v114c] 35 hD120))
    first | refine gen_code H121.out ?_ | refine gen_list H121.out ?_ | refine gen_calls H121.out ?_
    intro w122 hG
    clear H121
    have H121 := hid hG
    clear hG
    clear hD120
    have z123 := H121.out.cell 2 rfl 0 rfl
    have z124 := H121.out.cell 2 rfl 1 rfl
    have z125 := H121.out.cell 2 rfl 2 rfl
    have z126 := H121.out.cell 2 rfl 3 rfl
    have z127 := H121.out.cell 4 rfl 0 rfl
    have z128 := H121.out.cell 4 rfl 1 rfl
    have z129 := H121.out.cell 4 rfl 2 rfl
    have z130 := H121.out.cell 4 rfl 3 rfl
    go_wp2_with fail
    clear z123 z124 z125 z126 z127 z128 z129 z130
    refine (qcrop_any _ _ _ _ _ _ l99 _ _ _ _ _ (H121.out.slc 3 rfl)).mono ?_
    rintro e w131 ⟨v132, rfl, ho, hb⟩
    have hcv := crop_ok HVl99.out HWq83.out
    have hci : ∀ z, cIf pw4 ph4 255 l99 q83_0 q83_1 q83_2 q83_3 z = z := fun z => by unfold cIf; rw [if_pos hcv]
    have hcl : cList pw4 ph4 255 l99 q83_0 q83_1 q83_2 q83_3 = l117 := by unfold cList; rw [if_pos hcv, ← HNl99.out, ← HNl117.out]; exact cAll_rG _ HWq83.out
    simp only [hci, hcv]
    rw [hcl] at ho
    clear hci hcl hcv
    rw [HNt118.out]
    rw [HNt119.out]
    have H133 := hid (H121.out.grow hb ho)
    obtain ⟨v132a, v132c, rfl, _⟩ := ho.slc
    clear ho hb
    obtain ⟨D134, hD134⟩ : ∃ D, w131.heap.size = D := ⟨_, rfl⟩
    go_upto_region 8 with fail
    have H135 := hid (show St B W [.cells D134 #[.int .i64 t118, .int .i64 t119, .int .i64 255, .slice v132a l117.length v132c] 35, .own (.slice v132a l117.length v132c) l117, .cells D120 #[.int .i64 t118, .int .i64 t119, .int .i64 255, .slice v114a l117.length v114c] 35, .own (.slice v114a l117.length v114c) l117, .cells D100 #[.int .i64 pw4, .int .i64 ph4, .int .i64 255, .slice v96a l99.length v96c] 35, .own (.slice v96a l99.length v96c) l99, .cells D86 #[.int .i64 q83_0, .int .i64 q83_1, .int .i64 q83_2, .int .i64 q83_3] 33, .own (.slice wla wls.length wlc) wls, .cells RE #[.int .i64 ep, .int .i64 ef] 38, .cells D7 #[.int .i64 pw4, .int .i64 ph4, .int .i64 pm4, .slice pv4a ps4.length pv4c] 35, .own (.slice pv4a ps4.length pv4c) ps4, .tape K1] [] (w131.alloc (.cells #[.int .i64 t118, .int .i64 t119, .int .i64 255, .slice v132a l117.length v132c] 35)) from (H133.out.alloc #[.int .i64 t118, .int .i64 t119, .int .i64 255, .slice v132a l117.length v132c] 35 hD134))
    first | refine gen_code H135.out ?_ | refine gen_list H135.out ?_ | refine gen_calls H135.out ?_
    intro w136 hG
    clear H135
    have H135 := hid hG
    clear hG
    clear hD134
    have z137 := H135.out.cell 2 rfl 0 rfl
    have z138 := H135.out.cell 2 rfl 1 rfl
    have z139 := H135.out.cell 2 rfl 2 rfl
    have z140 := H135.out.cell 2 rfl 3 rfl
    have z141 := H135.out.cell 0 rfl 0 rfl
    have z142 := H135.out.cell 0 rfl 1 rfl
    have z143 := H135.out.cell 0 rfl 2 rfl
    have z144 := H135.out.cell 0 rfl 3 rfl
    go_wp2_with fail
    clear z137 z138 z139 z140 z141 z142 z143 z144
    refine (qequal_any _ _ _ _ _ _ l117 _ _ _ _ _ _ l117 _ (H135.out.slc 3 rfl) (H135.out.slc 1 rfl)).mono ?_
    rintro e w145 ⟨rfl, hb⟩
    have H146 := hid (H135.out.call hb)
    clear hb
    rw [show pEq t118 t119 255 l117 t118 t119 255 l117 = true from by simp [pEq]]
    go_wp2_with fail
    refine (sane9 _).mono ?_
    rintro e w147 ⟨rfl, hb⟩
    have H148 := hid (H146.out.call hb)
    clear hb
    go_wp2_with fail
    go_ret
    exact ⟨rfl, by first | exact H148.out.below | exact H148.out.below'⟩
end Go.Proofs.Ytkpdahjddjdgcaa
