/-
  The walk of SeparableCrops: the tile of a rectangle is the crop of the tile of the whole plane.
-/
import Derived.Test.YtkpdahjddjdgcaaSane10
import Derived.Test.YtkpdahjddjdgcaaSpPlain
import Derived.Test.YtkpdahjddjdgcaaWeights
import Derived.Test.YtkpdahjddjdgcaaEdgeOk
import Derived.Test.YtkpdahjddjdgcaaKX
namespace Go.Proofs.Ytkpdahjddjdgcaa
open Go.RowKit
attribute [local go_sem ↓] Go.wp_at_zero Go.wp_at_succ
set_option linter.unusedVariables false
set_option linter.unusedSimpArgs false

set_option maxRecDepth 100000 in
set_option maxHeartbeats 12800000 in
theorem walk_SeparableCrops (a : Option Addr) (n c : Nat) (zs : List Int) (W : World) (hr : RowIn .i64 W a n c zs) :
    Calls Try.prog 10 #[.slice a n c] W fun e w' => e = .returned (.bool true) ∧ Below W.heap.size W w' := by
  obtain ⟨B, hB⟩ : ∃ B, W.heap.size = B := ⟨_, rfl⟩
  have HI0 := hid (St.init hB)
  have HN := hid (nearRow hr hB)
  have HR := hid hr
  clear hr
  go_enter Try.func10, Try.ntmps10
  go_wp2_with fail
  obtain ⟨K1, hK1⟩ : ∃ D, W.heap.size = D := ⟨_, rfl⟩
  refine (newB_any B _ _ _ _ _ HR.out.len (HI0.out.oldRow HR.out.row) HN.out HI0.out.size).mono ?_
  rintro e w2 ⟨rfl, ht, hb, hs⟩
  rw [hK1] at ht ⊢
  have H3 := hid (HI0.out.newTape ht hb hK1)
  clear ht hb hs hK1
  go_wp2_with fail
  refine (plane_any B K1 _ (H3.out.tapeAt 0 rfl)).mono ?_
  rintro e w5 ⟨pw4, ph4, pw41, pw42, ph41, ph42, pm4, pv4, ps4, rfl, hv, hm, ho, ht, hg⟩
  have H6 := hid (H3.out.add (H3.out.next 0 rfl ht hg) ho)
  have HVps4 := hid hv
  have HMps4 := hid hm
  obtain ⟨pv4a, pv4c, rfl, _⟩ := ho.slc
  clear hv hm ho ht hg
  obtain ⟨D7, hD7⟩ : ∃ D, w5.heap.size = D := ⟨_, rfl⟩
  go_upto_region 3 with fail
  have H8 := hid (show St B W [.cells D7 #[.int .i64 pw4, .int .i64 ph4, .int .i64 pm4, .slice pv4a ps4.length pv4c] 35, .own (.slice pv4a ps4.length pv4c) ps4, .tape K1] [] (w5.alloc (.cells #[.int .i64 pw4, .int .i64 ph4, .int .i64 pm4, .slice pv4a ps4.length pv4c] 35)) from (H6.out.alloc #[.int .i64 pw4, .int .i64 ph4, .int .i64 pm4, .slice pv4a ps4.length pv4c] 35 hD7))
  first | refine gen_code H8.out ?_ | refine gen_list H8.out ?_ | refine gen_calls H8.out ?_
  intro w9 hG
  clear H8
  have H8 := hid hG
  clear hG
  clear hD7
  have hmb := HMps4.out
  obtain ⟨_, _, _, _, _, hm1, _⟩ := pOk_iff.1 (pValid_iff.1 HVps4.out).1
  go_cut [5, 6, 7, 8, 9] (fun s s1 s2 s3 s4 wx => ∃ (RE : Nat) (wla : Option Addr) (wlc : Nat) (wls : List Int) (vla : Option Addr) (vlc : Nat) (vls : List Int) (ep ef sh sv : Int), s = .slice wla wls.length wlc ∧ s1 = .slice vla vls.length vlc ∧ s2 = .pointer (some ⟨RE, 0, none⟩) ∧ s3 = .int .i64 sh ∧ s4 = .int .i64 sv ∧ wls.length = (3 : Int).toNat ∧ 1 ≤ vls.length ∧ vls.length ≤ 9 ∧ (∀ i, -20 ≤ wls.getD i 0 ∧ wls.getD i 0 ≤ 20) ∧ (∀ i, -20 ≤ vls.getD i 0 ∧ vls.getD i 0 ≤ 20) ∧ bValid ep ef pm4 = true ∧ 0 ≤ sh ∧ sh ≤ 3 ∧ 0 ≤ sv ∧ sv ≤ 3 ∧ St B W [.own (.slice wla wls.length wlc) wls, .own (.slice vla vls.length vlc) vls, .cells RE #[.int .i64 ep, .int .i64 ef] 38, .cells D7 #[.int .i64 pw4, .int .i64 ph4, .int .i64 pm4, .slice pv4a ps4.length pv4c] 35, .own (.slice pv4a ps4.length pv4c) ps4, .tape K1] [] wx)
  case first =>
    go_upto_region 3 with fail
    have H10 := hid H8.out.drew
    refine wp_region_held_drew (S := (fun w' => w'.cell? ⟨D7, 0, none⟩ = some (.int .i64 pw4) ∧ w'.cell? ⟨D7, 1, none⟩ = some (.int .i64 ph4) ∧ w'.cell? ⟨D7, 2, none⟩ = some (.int .i64 pm4) ∧ w'.cell? ⟨D7, 3, none⟩ = some (.slice pv4a ps4.length pv4c))) (by kernel_rfl) ⟨H10.out.cell 0 rfl 0 rfl, H10.out.cell 0 rfl 1 rfl, H10.out.cell 0 rfl 2 rfl, H10.out.cell 0 rfl 3 rfl⟩ (fun hHeld => ?_)
    generalize w9.drew = k11 at *
    refine wpAnyH_take (i := 0) (oi := _) (v := ?_) rfl (by kernel_rfl) (by kernel_rfl) (by kernel_rfl) (fun _ _ _ h => h) (Or.inl ⟨by rfl, ?_⟩) (by assumption) ?_
    rotate_left
    focus (intro wS hSw; (try dsimp only at hSw); go_simp; (try with_reducible rfl))
    try simp only [Act.put, List.getElem_toArray, List.getElem_cons_zero, List.getElem_cons_succ, List.setIfInBounds_toArray, List.set_cons_zero, List.set_cons_succ]
    refine wpAnyH_take (i := 2) (oi := _) (v := ?_) rfl (by kernel_rfl) (by kernel_rfl) (by kernel_rfl) (fun _ _ _ h => h) (Or.inl ⟨by rfl, ?_⟩) (by assumption) ?_
    rotate_left
    focus (intro wS hSw; (try dsimp only at hSw); go_simp; (try with_reducible rfl))
    try simp only [Act.put, List.getElem_toArray, List.getElem_cons_zero, List.getElem_cons_succ, List.setIfInBounds_toArray, List.set_cons_zero, List.set_cons_succ]
    refine wpAnyH_take (i := 3) (oi := _) (v := ?_) rfl (by kernel_rfl) (by kernel_rfl) (by kernel_rfl) (fun _ _ _ h => h) (Or.inl ⟨by rfl, ?_⟩) (by assumption) ?_
    rotate_left
    focus (intro wS hSw; (try dsimp only at hSw); go_simp; (try with_reducible rfl))
    try simp only [Act.put, List.getElem_toArray, List.getElem_cons_zero, List.getElem_cons_succ, List.setIfInBounds_toArray, List.set_cons_zero, List.set_cons_succ]
    refine wpAnyH_take (i := 7) (oi := _) (v := ?_) rfl (by kernel_rfl) (by kernel_rfl) (by kernel_rfl) (fun _ _ _ h => h) (Or.inl ⟨by rfl, ?_⟩) (by assumption) ?_
    rotate_left
    focus (intro wS hSw; (try dsimp only at hSw); go_simp; (try with_reducible rfl))
    try simp only [Act.put, List.getElem_toArray, List.getElem_cons_zero, List.getElem_cons_succ, List.setIfInBounds_toArray, List.set_cons_zero, List.set_cons_succ]
    refine wpAnyH_take (i := 8) (oi := _) (v := ?_) rfl (by kernel_rfl) (by kernel_rfl) (by kernel_rfl) (fun _ _ _ h => h) (Or.inl ⟨by rfl, ?_⟩) (by assumption) ?_
    rotate_left
    focus (intro wS hSw; (try dsimp only at hSw); go_simp; (try with_reducible rfl))
    try simp only [Act.put, List.getElem_toArray, List.getElem_cons_zero, List.getElem_cons_succ, List.setIfInBounds_toArray, List.set_cons_zero, List.set_cons_succ]
    refine wpAnyH_take (i := 9) (oi := _) (v := ?_) rfl (by kernel_rfl) (by kernel_rfl) (by kernel_rfl) (fun _ _ _ h => h) (Or.inl ⟨by rfl, ?_⟩) (by assumption) ?_
    rotate_left
    focus (intro wS hSw; (try dsimp only at hSw); go_simp; (try with_reducible rfl))
    try simp only [Act.put, List.getElem_toArray, List.getElem_cons_zero, List.getElem_cons_succ, List.setIfInBounds_toArray, List.set_cons_zero, List.set_cons_succ]
    refine wpAnyH_take (i := 11) (oi := _) (v := ?_) rfl (by kernel_rfl) (by kernel_rfl) (by kernel_rfl) (fun _ _ _ h => h) (Or.inl ⟨by rfl, ?_⟩) (by assumption) ?_
    rotate_left
    focus (intro wS hSw; (try dsimp only at hSw); go_simp; (try with_reducible rfl))
    try simp only [Act.put, List.getElem_toArray, List.getElem_cons_zero, List.getElem_cons_succ, List.setIfInBounds_toArray, List.set_cons_zero, List.set_cons_succ]
    refine wpAnyH_take (i := 13) (oi := _) (v := ?_) rfl (by kernel_rfl) (by kernel_rfl) (by kernel_rfl) (fun _ _ _ h => h) (Or.inl ⟨by rfl, ?_⟩) (by assumption) ?_
    rotate_left
    focus (intro wS hSw; (try dsimp only at hSw); go_simp; (try with_reducible rfl))
    try simp only [Act.put, List.getElem_toArray, List.getElem_cons_zero, List.getElem_cons_succ, List.setIfInBounds_toArray, List.set_cons_zero, List.set_cons_succ]
    refine wpAnyH_ready (rs := [1, 15]) (by kernel_rfl) (by simp) (AllReadyH.cons (o := _) rfl (fun K hK => ?_) (AllReadyH.cons (o := _) rfl (fun K hK => ?_) AllReadyH.nil))
    · go_simp
      go_at_call 19
      refine (weights_any B K1 _ _ (by omega) (H10.out.tapeAt 2 rfl)).mono ?_
      rintro e w12 ⟨wv13, wl14, rfl, hlen, hin, ho, ht, hg⟩
      have H15 := hid (H10.out.add (H10.out.next 2 rfl ht hg) ho)
      have HWLwl14 := hid hlen
      have HWBwl14 := hid hin
      obtain ⟨wv13a, wv13c, rfl, _⟩ := ho.slc
      clear hlen hin ho ht hg
      refine hK.out _ _ ?_ (fun hHeld2 => ?_)
      focus ((try dsimp only); (exact ⟨H15.out.cell 1 rfl 0 rfl, H15.out.cell 1 rfl 1 rfl, H15.out.cell 1 rfl 2 rfl, H15.out.cell 1 rfl 3 rfl⟩))
      clear hK K
      try simp only [Act.put, List.getElem_toArray, List.getElem_cons_zero, List.getElem_cons_succ, List.setIfInBounds_toArray, List.set_cons_zero, List.set_cons_succ]
      clear hHeld
      have hHeld := hHeld2
      clear hHeld2
      refine wpAnyH_ready (rs := [4, 15]) (by kernel_rfl) (by simp) (AllReadyH.cons (o := _) rfl (fun K hK => ?_) (AllReadyH.cons (o := _) rfl (fun K hK => ?_) AllReadyH.nil))
      · go_simp
        go_at_call 18
        refine (nextB_any B K1 _ _ (by omega) (H15.out.tapeAt 3 rfl)).mono ?_
        rintro e w17 ⟨x16, rfl, x16a, x16b, htn, hgn, hsn⟩
        have H18 := hid (H15.out.next 3 rfl htn hgn)
        clear htn hgn hsn
        have wnx16 : IntKind.i64.wrap (1 + x16) = 1 + x16 := IntWalk.i64_in _ (by omega)
        refine hK.out _ _ ?_ (fun hHeld2 => ?_)
        focus ((try dsimp only); (exact ⟨H18.out.cell 1 rfl 0 rfl, H18.out.cell 1 rfl 1 rfl, H18.out.cell 1 rfl 2 rfl, H18.out.cell 1 rfl 3 rfl⟩))
        clear hK K
        try simp only [Act.put, List.getElem_toArray, List.getElem_cons_zero, List.getElem_cons_succ, List.setIfInBounds_toArray, List.set_cons_zero, List.set_cons_succ]
        clear hHeld
        have hHeld := hHeld2
        clear hHeld2
        refine wpAnyH_take (i := 5) (oi := _) (v := ?_) rfl (by kernel_rfl) (by kernel_rfl) (by kernel_rfl) (fun _ _ _ h => h) (Or.inl ⟨by rfl, ?_⟩) (by assumption) ?_
        rotate_left
        focus (intro wS hSw; (try dsimp only at hSw); go_simp; (try with_reducible rfl))
        try simp only [Act.put, List.getElem_toArray, List.getElem_cons_zero, List.getElem_cons_succ, List.setIfInBounds_toArray, List.set_cons_zero, List.set_cons_succ]
        refine wpAnyH_ready (rs := [6, 15]) (by kernel_rfl) (by simp) (AllReadyH.cons (o := _) rfl (fun K hK => ?_) (AllReadyH.cons (o := _) rfl (fun K hK => ?_) AllReadyH.nil))
        · go_simp
          go_at_call 19
          refine (weights_any B K1 _ _ (by omega) (H18.out.tapeAt 3 rfl)).mono ?_
          rintro e w19 ⟨wv20, wl21, rfl, hlen, hin, ho, ht, hg⟩
          have H22 := hid (H18.out.add (H18.out.next 3 rfl ht hg) ho)
          have HWLwl21 := hid hlen
          have HWBwl21 := hid hin
          obtain ⟨wv20a, wv20c, rfl, _⟩ := ho.slc
          clear hlen hin ho ht hg
          refine hK.out _ _ ?_ (fun hHeld2 => ?_)
          focus ((try dsimp only); (exact ⟨H22.out.cell 2 rfl 0 rfl, H22.out.cell 2 rfl 1 rfl, H22.out.cell 2 rfl 2 rfl, H22.out.cell 2 rfl 3 rfl⟩))
          clear hK K
          try simp only [Act.put, List.getElem_toArray, List.getElem_cons_zero, List.getElem_cons_succ, List.setIfInBounds_toArray, List.set_cons_zero, List.set_cons_succ]
          clear hHeld
          have hHeld := hHeld2
          clear hHeld2
          refine wpAnyH_ready (rs := [10, 15]) (by kernel_rfl) (by simp) (AllReadyH.cons (o := _) rfl (fun K hK => ?_) (AllReadyH.cons (o := _) rfl (fun K hK => ?_) AllReadyH.nil))
          · go_simp
            go_at_call 25
            refine (edgeok_any B K1 _ _ (by omega) (H22.out.tapeAt 4 rfl)).mono ?_
            rintro e w24 ⟨e23_0, e23_1, rfl, hev, ht, hg⟩
            have H25 := hid (H22.out.next 4 rfl ht hg)
            have HEe23 := hid hev
            clear ht hg hev
            refine hK.out _ _ ?_ (fun hHeld2 => ?_)
            focus ((try dsimp only); (exact ⟨H25.out.cell 2 rfl 0 rfl, H25.out.cell 2 rfl 1 rfl, H25.out.cell 2 rfl 2 rfl, H25.out.cell 2 rfl 3 rfl⟩))
            clear hK K
            try simp only [Act.put, List.getElem_toArray, List.getElem_cons_zero, List.getElem_cons_succ, List.setIfInBounds_toArray, List.set_cons_zero, List.set_cons_succ]
            clear hHeld
            have hHeld := hHeld2
            clear hHeld2
            refine wpAnyH_ready (rs := [12, 15]) (by kernel_rfl) (by simp) (AllReadyH.cons (o := _) rfl (fun K hK => ?_) (AllReadyH.cons (o := _) rfl (fun K hK => ?_) AllReadyH.nil))
            · go_simp
              go_at_call 18
              refine (nextB_any B K1 _ _ (by omega) (H25.out.tapeAt 4 rfl)).mono ?_
              rintro e w27 ⟨x26, rfl, x26a, x26b, htn, hgn, hsn⟩
              have H28 := hid (H25.out.next 4 rfl htn hgn)
              clear htn hgn hsn
              refine hK.out _ _ ?_ (fun hHeld2 => ?_)
              focus ((try dsimp only); (exact ⟨H28.out.cell 2 rfl 0 rfl, H28.out.cell 2 rfl 1 rfl, H28.out.cell 2 rfl 2 rfl, H28.out.cell 2 rfl 3 rfl⟩))
              clear hK K
              try simp only [Act.put, List.getElem_toArray, List.getElem_cons_zero, List.getElem_cons_succ, List.setIfInBounds_toArray, List.set_cons_zero, List.set_cons_succ]
              clear hHeld
              have hHeld := hHeld2
              clear hHeld2
              refine wpAnyH_ready (rs := [14, 15]) (by kernel_rfl) (by simp) (AllReadyH.cons (o := _) rfl (fun K hK => ?_) (AllReadyH.cons (o := _) rfl (fun K hK => ?_) AllReadyH.nil))
              · go_simp
                go_at_call 18
                refine (nextB_any B K1 _ _ (by omega) (H28.out.tapeAt 4 rfl)).mono ?_
                rintro e w30 ⟨x29, rfl, x29a, x29b, htn, hgn, hsn⟩
                have H31 := hid (H28.out.next 4 rfl htn hgn)
                clear htn hgn hsn
                refine hK.out _ _ ?_ (fun hHeld2 => ?_)
                focus ((try dsimp only); (exact ⟨H31.out.cell 2 rfl 0 rfl, H31.out.cell 2 rfl 1 rfl, H31.out.cell 2 rfl 2 rfl, H31.out.cell 2 rfl 3 rfl⟩))
                clear hK K
                try simp only [Act.put, List.getElem_toArray, List.getElem_cons_zero, List.getElem_cons_succ, List.setIfInBounds_toArray, List.set_cons_zero, List.set_cons_succ]
                clear hHeld
                have hHeld := hHeld2
                clear hHeld2
                refine wpAnyH_ready (rs := [15]) (by kernel_rfl) (by simp) (AllReadyH.cons (o := _) rfl (fun K hK => ?_) AllReadyH.nil)
                obtain ⟨D32, hD32⟩ : ∃ D, w30.heap.size = D := ⟨_, rfl⟩
                have H33 := hid (H31.out.alloc #[.int .i64 0, .int .i64 0] 38 hD32)
                go_simp
                refine hK.out _ _ ?_ (fun hHeld2 => ?_)
                focus ((try dsimp only); (exact ⟨H33.out.cell 3 rfl 0 rfl, H33.out.cell 3 rfl 1 rfl, H33.out.cell 3 rfl 2 rfl, H33.out.cell 3 rfl 3 rfl⟩))
                clear hK K hHeld
                try simp only [Act.put, List.getElem_toArray, List.getElem_cons_zero, List.getElem_cons_succ, List.setIfInBounds_toArray, List.set_cons_zero, List.set_cons_succ]
                clear hD32
                generalize (w30.alloc (.cells #[.int .i64 0, .int .i64 0] 38)) = k34 at *
                have hHeld := hHeld2
                clear hHeld2
                refine wpAnyH_take (i := 16) (oi := _) (v := ?_) rfl (by kernel_rfl) (by kernel_rfl) (by kernel_rfl) (fun _ _ _ h => h) (Or.inl ⟨by rfl, ?_⟩) (by assumption) ?_
                rotate_left
                focus (intro wS hSw; (try dsimp only at hSw); go_simp; (try with_reducible rfl))
                try simp only [Act.put, List.getElem_toArray, List.getElem_cons_zero, List.getElem_cons_succ, List.setIfInBounds_toArray, List.set_cons_zero, List.set_cons_succ]
                refine wpAnyH_take (i := 17) (oi := _) (v := ?_) rfl (by kernel_rfl) (by kernel_rfl) (by kernel_rfl) (fun _ _ _ h => h) (Or.inl ⟨by rfl, ?_⟩) (by assumption) ?_
                rotate_left
                focus (intro wS hSw; (try dsimp only at hSw); go_simp; (try with_reducible rfl))
                try simp only [Act.put, List.getElem_toArray, List.getElem_cons_zero, List.getElem_cons_succ, List.setIfInBounds_toArray, List.set_cons_zero, List.set_cons_succ]
                refine wpAnyH_ready (rs := [18]) (by kernel_rfl) (by simp) (AllReadyH.cons (o := _) rfl (fun K hK => ?_) AllReadyH.nil)
                have z35 := H33.out.cell 0 rfl 0 rfl
                have z36 := H33.out.free 0 rfl 0
                have z37 := H33.out.cell 0 rfl 1 rfl
                have z38 := H33.out.free 0 rfl 1
                have H39 := hid (show St B W [.cells D32 #[.int .i64 e23_0, .int .i64 e23_1] 38, .own (.slice wv20a wl21.length wv20c) wl21, .own (.slice wv13a wl14.length wv13c) wl14, .cells D7 #[.int .i64 pw4, .int .i64 ph4, .int .i64 pm4, .slice pv4a ps4.length pv4c] 35, .own (.slice pv4a ps4.length pv4c) ps4, .tape K1] [] ((k34.setCell ⟨D32, 0, none⟩ (.int .i64 e23_0)).setCell ⟨D32, 1, none⟩ (.int .i64 e23_1)) from ((H33.out.set 0 rfl 0 (.int .i64 e23_0)).set 0 rfl 1 (.int .i64 e23_1)))
                go_simp
                refine hK.out _ _ ?_ (fun hHeld2 => ?_)
                focus ((try dsimp only); (exact ⟨H39.out.cell 3 rfl 0 rfl, H39.out.cell 3 rfl 1 rfl, H39.out.cell 3 rfl 2 rfl, H39.out.cell 3 rfl 3 rfl⟩))
                clear hK K hHeld
                try simp only [Act.put, List.getElem_toArray, List.getElem_cons_zero, List.getElem_cons_succ, List.setIfInBounds_toArray, List.set_cons_zero, List.set_cons_succ]
                clear z35 z36 z37 z38
                generalize ((k34.setCell ⟨D32, 0, none⟩ (.int .i64 e23_0)).setCell ⟨D32, 1, none⟩ (.int .i64 e23_1)) = k40 at *
                have hHeld := hHeld2
                clear hHeld2
                refine wpAnyH_take (i := 19) (oi := _) (v := ?_) rfl (by kernel_rfl) (by kernel_rfl) (by kernel_rfl) (fun _ _ _ h => h) (Or.inl ⟨by rfl, ?_⟩) (by assumption) ?_
                rotate_left
                focus (intro wS hSw; (try dsimp only at hSw); go_simp; (try with_reducible rfl))
                try simp only [Act.put, List.getElem_toArray, List.getElem_cons_zero, List.getElem_cons_succ, List.setIfInBounds_toArray, List.set_cons_zero, List.set_cons_succ]
                refine wpAnyH_take (i := 20) (oi := _) (v := ?_) rfl (by kernel_rfl) (by kernel_rfl) (by kernel_rfl) (fun _ _ _ h => h) (Or.inl ⟨by rfl, ?_⟩) (by assumption) ?_
                rotate_left
                focus (intro wS hSw; (try dsimp only at hSw); go_simp; (try with_reducible rfl))
                try simp only [Act.put, List.getElem_toArray, List.getElem_cons_zero, List.getElem_cons_succ, List.setIfInBounds_toArray, List.set_cons_zero, List.set_cons_succ]
                refine wpAnyH_done (by kernel_rfl) ?_ _
                try clear hHeld
                go_wp2_with fail
                go_meet
                exact ⟨D32, _, _, _, _, _, _, _, _, _, _, rfl, rfl, rfl, rfl, rfl, HWLwl14.out, by have := HWLwl21.out; omega, by have := HWLwl21.out; omega, HWBwl14.out, HWBwl21.out, HEe23.out, by omega, by omega, by omega, by omega, H39.out.pick [2, 1, 0, 3, 4, 5] rfl (by decide)⟩
              · obtain ⟨D41, hD41⟩ : ∃ D, w27.heap.size = D := ⟨_, rfl⟩
                have H42 := hid (H28.out.alloc #[.int .i64 0, .int .i64 0] 38 hD41)
                go_simp
                refine hK.out _ _ ?_ (fun hHeld2 => ?_)
                focus ((try dsimp only); (exact ⟨H42.out.cell 3 rfl 0 rfl, H42.out.cell 3 rfl 1 rfl, H42.out.cell 3 rfl 2 rfl, H42.out.cell 3 rfl 3 rfl⟩))
                clear hK K hHeld
                try simp only [Act.put, List.getElem_toArray, List.getElem_cons_zero, List.getElem_cons_succ, List.setIfInBounds_toArray, List.set_cons_zero, List.set_cons_succ]
                clear hD41
                generalize (w27.alloc (.cells #[.int .i64 0, .int .i64 0] 38)) = k43 at *
                have hHeld := hHeld2
                clear hHeld2
                refine wpAnyH_ready (rs := [14]) (by kernel_rfl) (by simp) (AllReadyH.cons (o := _) rfl (fun K hK => ?_) AllReadyH.nil)
                go_simp
                go_at_call 18
                refine (nextB_any B K1 _ _ (by omega) (H42.out.tapeAt 5 rfl)).mono ?_
                rintro e w45 ⟨x44, rfl, x44a, x44b, htn, hgn, hsn⟩
                have H46 := hid (H42.out.next 5 rfl htn hgn)
                clear htn hgn hsn
                refine hK.out _ _ ?_ (fun hHeld2 => ?_)
                focus ((try dsimp only); (exact ⟨H46.out.cell 3 rfl 0 rfl, H46.out.cell 3 rfl 1 rfl, H46.out.cell 3 rfl 2 rfl, H46.out.cell 3 rfl 3 rfl⟩))
                clear hK K
                try simp only [Act.put, List.getElem_toArray, List.getElem_cons_zero, List.getElem_cons_succ, List.setIfInBounds_toArray, List.set_cons_zero, List.set_cons_succ]
                clear hHeld
                have hHeld := hHeld2
                clear hHeld2
                refine wpAnyH_take (i := 16) (oi := _) (v := ?_) rfl (by kernel_rfl) (by kernel_rfl) (by kernel_rfl) (fun _ _ _ h => h) (Or.inl ⟨by rfl, ?_⟩) (by assumption) ?_
                rotate_left
                focus (intro wS hSw; (try dsimp only at hSw); go_simp; (try with_reducible rfl))
                try simp only [Act.put, List.getElem_toArray, List.getElem_cons_zero, List.getElem_cons_succ, List.setIfInBounds_toArray, List.set_cons_zero, List.set_cons_succ]
                refine wpAnyH_take (i := 17) (oi := _) (v := ?_) rfl (by kernel_rfl) (by kernel_rfl) (by kernel_rfl) (fun _ _ _ h => h) (Or.inl ⟨by rfl, ?_⟩) (by assumption) ?_
                rotate_left
                focus (intro wS hSw; (try dsimp only at hSw); go_simp; (try with_reducible rfl))
                try simp only [Act.put, List.getElem_toArray, List.getElem_cons_zero, List.getElem_cons_succ, List.setIfInBounds_toArray, List.set_cons_zero, List.set_cons_succ]
                refine wpAnyH_ready (rs := [18]) (by kernel_rfl) (by simp) (AllReadyH.cons (o := _) rfl (fun K hK => ?_) AllReadyH.nil)
                have z47 := H46.out.cell 0 rfl 0 rfl
                have z48 := H46.out.free 0 rfl 0
                have z49 := H46.out.cell 0 rfl 1 rfl
                have z50 := H46.out.free 0 rfl 1
                have H51 := hid (show St B W [.cells D41 #[.int .i64 e23_0, .int .i64 e23_1] 38, .own (.slice wv20a wl21.length wv20c) wl21, .own (.slice wv13a wl14.length wv13c) wl14, .cells D7 #[.int .i64 pw4, .int .i64 ph4, .int .i64 pm4, .slice pv4a ps4.length pv4c] 35, .own (.slice pv4a ps4.length pv4c) ps4, .tape K1] [] ((w45.setCell ⟨D41, 0, none⟩ (.int .i64 e23_0)).setCell ⟨D41, 1, none⟩ (.int .i64 e23_1)) from ((H46.out.set 0 rfl 0 (.int .i64 e23_0)).set 0 rfl 1 (.int .i64 e23_1)))
                go_simp
                refine hK.out _ _ ?_ (fun hHeld2 => ?_)
                focus ((try dsimp only); (exact ⟨H51.out.cell 3 rfl 0 rfl, H51.out.cell 3 rfl 1 rfl, H51.out.cell 3 rfl 2 rfl, H51.out.cell 3 rfl 3 rfl⟩))
                clear hK K hHeld
                try simp only [Act.put, List.getElem_toArray, List.getElem_cons_zero, List.getElem_cons_succ, List.setIfInBounds_toArray, List.set_cons_zero, List.set_cons_succ]
                clear z47 z48 z49 z50
                generalize ((w45.setCell ⟨D41, 0, none⟩ (.int .i64 e23_0)).setCell ⟨D41, 1, none⟩ (.int .i64 e23_1)) = k52 at *
                have hHeld := hHeld2
                clear hHeld2
                refine wpAnyH_take (i := 19) (oi := _) (v := ?_) rfl (by kernel_rfl) (by kernel_rfl) (by kernel_rfl) (fun _ _ _ h => h) (Or.inl ⟨by rfl, ?_⟩) (by assumption) ?_
                rotate_left
                focus (intro wS hSw; (try dsimp only at hSw); go_simp; (try with_reducible rfl))
                try simp only [Act.put, List.getElem_toArray, List.getElem_cons_zero, List.getElem_cons_succ, List.setIfInBounds_toArray, List.set_cons_zero, List.set_cons_succ]
                refine wpAnyH_take (i := 20) (oi := _) (v := ?_) rfl (by kernel_rfl) (by kernel_rfl) (by kernel_rfl) (fun _ _ _ h => h) (Or.inl ⟨by rfl, ?_⟩) (by assumption) ?_
                rotate_left
                focus (intro wS hSw; (try dsimp only at hSw); go_simp; (try with_reducible rfl))
                try simp only [Act.put, List.getElem_toArray, List.getElem_cons_zero, List.getElem_cons_succ, List.setIfInBounds_toArray, List.set_cons_zero, List.set_cons_succ]
                refine wpAnyH_done (by kernel_rfl) ?_ _
                try clear hHeld
                go_wp2_with fail
                go_meet
                exact ⟨D41, _, _, _, _, _, _, _, _, _, _, rfl, rfl, rfl, rfl, rfl, HWLwl14.out, by have := HWLwl21.out; omega, by have := HWLwl21.out; omega, HWBwl14.out, HWBwl21.out, HEe23.out, by omega, by omega, by omega, by omega, H51.out.pick [2, 1, 0, 3, 4, 5] rfl (by decide)⟩
            · obtain ⟨D53, hD53⟩ : ∃ D, w24.heap.size = D := ⟨_, rfl⟩
              have H54 := hid (H25.out.alloc #[.int .i64 0, .int .i64 0] 38 hD53)
              go_simp
              refine hK.out _ _ ?_ (fun hHeld2 => ?_)
              focus ((try dsimp only); (exact ⟨H54.out.cell 3 rfl 0 rfl, H54.out.cell 3 rfl 1 rfl, H54.out.cell 3 rfl 2 rfl, H54.out.cell 3 rfl 3 rfl⟩))
              clear hK K hHeld
              try simp only [Act.put, List.getElem_toArray, List.getElem_cons_zero, List.getElem_cons_succ, List.setIfInBounds_toArray, List.set_cons_zero, List.set_cons_succ]
              clear hD53
              generalize (w24.alloc (.cells #[.int .i64 0, .int .i64 0] 38)) = k55 at *
              have hHeld := hHeld2
              clear hHeld2
              refine wpAnyH_ready (rs := [12]) (by kernel_rfl) (by simp) (AllReadyH.cons (o := _) rfl (fun K hK => ?_) AllReadyH.nil)
              go_simp
              go_at_call 18
              refine (nextB_any B K1 _ _ (by omega) (H54.out.tapeAt 5 rfl)).mono ?_
              rintro e w57 ⟨x56, rfl, x56a, x56b, htn, hgn, hsn⟩
              have H58 := hid (H54.out.next 5 rfl htn hgn)
              clear htn hgn hsn
              refine hK.out _ _ ?_ (fun hHeld2 => ?_)
              focus ((try dsimp only); (exact ⟨H58.out.cell 3 rfl 0 rfl, H58.out.cell 3 rfl 1 rfl, H58.out.cell 3 rfl 2 rfl, H58.out.cell 3 rfl 3 rfl⟩))
              clear hK K
              try simp only [Act.put, List.getElem_toArray, List.getElem_cons_zero, List.getElem_cons_succ, List.setIfInBounds_toArray, List.set_cons_zero, List.set_cons_succ]
              clear hHeld
              have hHeld := hHeld2
              clear hHeld2
              refine wpAnyH_ready (rs := [14]) (by kernel_rfl) (by simp) (AllReadyH.cons (o := _) rfl (fun K hK => ?_) AllReadyH.nil)
              go_simp
              go_at_call 18
              refine (nextB_any B K1 _ _ (by omega) (H58.out.tapeAt 5 rfl)).mono ?_
              rintro e w60 ⟨x59, rfl, x59a, x59b, htn, hgn, hsn⟩
              have H61 := hid (H58.out.next 5 rfl htn hgn)
              clear htn hgn hsn
              refine hK.out _ _ ?_ (fun hHeld2 => ?_)
              focus ((try dsimp only); (exact ⟨H61.out.cell 3 rfl 0 rfl, H61.out.cell 3 rfl 1 rfl, H61.out.cell 3 rfl 2 rfl, H61.out.cell 3 rfl 3 rfl⟩))
              clear hK K
              try simp only [Act.put, List.getElem_toArray, List.getElem_cons_zero, List.getElem_cons_succ, List.setIfInBounds_toArray, List.set_cons_zero, List.set_cons_succ]
              clear hHeld
              have hHeld := hHeld2
              clear hHeld2
              refine wpAnyH_take (i := 16) (oi := _) (v := ?_) rfl (by kernel_rfl) (by kernel_rfl) (by kernel_rfl) (fun _ _ _ h => h) (Or.inl ⟨by rfl, ?_⟩) (by assumption) ?_
              rotate_left
              focus (intro wS hSw; (try dsimp only at hSw); go_simp; (try with_reducible rfl))
              try simp only [Act.put, List.getElem_toArray, List.getElem_cons_zero, List.getElem_cons_succ, List.setIfInBounds_toArray, List.set_cons_zero, List.set_cons_succ]
              refine wpAnyH_take (i := 17) (oi := _) (v := ?_) rfl (by kernel_rfl) (by kernel_rfl) (by kernel_rfl) (fun _ _ _ h => h) (Or.inl ⟨by rfl, ?_⟩) (by assumption) ?_
              rotate_left
              focus (intro wS hSw; (try dsimp only at hSw); go_simp; (try with_reducible rfl))
              try simp only [Act.put, List.getElem_toArray, List.getElem_cons_zero, List.getElem_cons_succ, List.setIfInBounds_toArray, List.set_cons_zero, List.set_cons_succ]
              refine wpAnyH_ready (rs := [18]) (by kernel_rfl) (by simp) (AllReadyH.cons (o := _) rfl (fun K hK => ?_) AllReadyH.nil)
              have z62 := H61.out.cell 0 rfl 0 rfl
              have z63 := H61.out.free 0 rfl 0
              have z64 := H61.out.cell 0 rfl 1 rfl
              have z65 := H61.out.free 0 rfl 1
              have H66 := hid (show St B W [.cells D53 #[.int .i64 e23_0, .int .i64 e23_1] 38, .own (.slice wv20a wl21.length wv20c) wl21, .own (.slice wv13a wl14.length wv13c) wl14, .cells D7 #[.int .i64 pw4, .int .i64 ph4, .int .i64 pm4, .slice pv4a ps4.length pv4c] 35, .own (.slice pv4a ps4.length pv4c) ps4, .tape K1] [] ((w60.setCell ⟨D53, 0, none⟩ (.int .i64 e23_0)).setCell ⟨D53, 1, none⟩ (.int .i64 e23_1)) from ((H61.out.set 0 rfl 0 (.int .i64 e23_0)).set 0 rfl 1 (.int .i64 e23_1)))
              go_simp
              refine hK.out _ _ ?_ (fun hHeld2 => ?_)
              focus ((try dsimp only); (exact ⟨H66.out.cell 3 rfl 0 rfl, H66.out.cell 3 rfl 1 rfl, H66.out.cell 3 rfl 2 rfl, H66.out.cell 3 rfl 3 rfl⟩))
              clear hK K hHeld
              try simp only [Act.put, List.getElem_toArray, List.getElem_cons_zero, List.getElem_cons_succ, List.setIfInBounds_toArray, List.set_cons_zero, List.set_cons_succ]
              clear z62 z63 z64 z65
              generalize ((w60.setCell ⟨D53, 0, none⟩ (.int .i64 e23_0)).setCell ⟨D53, 1, none⟩ (.int .i64 e23_1)) = k67 at *
              have hHeld := hHeld2
              clear hHeld2
              refine wpAnyH_take (i := 19) (oi := _) (v := ?_) rfl (by kernel_rfl) (by kernel_rfl) (by kernel_rfl) (fun _ _ _ h => h) (Or.inl ⟨by rfl, ?_⟩) (by assumption) ?_
              rotate_left
              focus (intro wS hSw; (try dsimp only at hSw); go_simp; (try with_reducible rfl))
              try simp only [Act.put, List.getElem_toArray, List.getElem_cons_zero, List.getElem_cons_succ, List.setIfInBounds_toArray, List.set_cons_zero, List.set_cons_succ]
              refine wpAnyH_take (i := 20) (oi := _) (v := ?_) rfl (by kernel_rfl) (by kernel_rfl) (by kernel_rfl) (fun _ _ _ h => h) (Or.inl ⟨by rfl, ?_⟩) (by assumption) ?_
              rotate_left
              focus (intro wS hSw; (try dsimp only at hSw); go_simp; (try with_reducible rfl))
              try simp only [Act.put, List.getElem_toArray, List.getElem_cons_zero, List.getElem_cons_succ, List.setIfInBounds_toArray, List.set_cons_zero, List.set_cons_succ]
              refine wpAnyH_done (by kernel_rfl) ?_ _
              try clear hHeld
              go_wp2_with fail
              go_meet
              exact ⟨D53, _, _, _, _, _, _, _, _, _, _, rfl, rfl, rfl, rfl, rfl, HWLwl14.out, by have := HWLwl21.out; omega, by have := HWLwl21.out; omega, HWBwl14.out, HWBwl21.out, HEe23.out, by omega, by omega, by omega, by omega, H66.out.pick [2, 1, 0, 3, 4, 5] rfl (by decide)⟩
          · obtain ⟨D68, hD68⟩ : ∃ D, w19.heap.size = D := ⟨_, rfl⟩
            have H69 := hid (H22.out.alloc #[.int .i64 0, .int .i64 0] 38 hD68)
            go_simp
            refine hK.out _ _ ?_ (fun hHeld2 => ?_)
            focus ((try dsimp only); (exact ⟨H69.out.cell 3 rfl 0 rfl, H69.out.cell 3 rfl 1 rfl, H69.out.cell 3 rfl 2 rfl, H69.out.cell 3 rfl 3 rfl⟩))
            clear hK K hHeld
            try simp only [Act.put, List.getElem_toArray, List.getElem_cons_zero, List.getElem_cons_succ, List.setIfInBounds_toArray, List.set_cons_zero, List.set_cons_succ]
            clear hD68
            generalize (w19.alloc (.cells #[.int .i64 0, .int .i64 0] 38)) = k70 at *
            have hHeld := hHeld2
            clear hHeld2
            refine wpAnyH_ready (rs := [10]) (by kernel_rfl) (by simp) (AllReadyH.cons (o := _) rfl (fun K hK => ?_) AllReadyH.nil)
            go_simp
            go_at_call 25
            refine (edgeok_any B K1 _ _ (by omega) (H69.out.tapeAt 5 rfl)).mono ?_
            rintro e w72 ⟨e71_0, e71_1, rfl, hev, ht, hg⟩
            have H73 := hid (H69.out.next 5 rfl ht hg)
            have HEe71 := hid hev
            clear ht hg hev
            refine hK.out _ _ ?_ (fun hHeld2 => ?_)
            focus ((try dsimp only); (exact ⟨H73.out.cell 3 rfl 0 rfl, H73.out.cell 3 rfl 1 rfl, H73.out.cell 3 rfl 2 rfl, H73.out.cell 3 rfl 3 rfl⟩))
            clear hK K
            try simp only [Act.put, List.getElem_toArray, List.getElem_cons_zero, List.getElem_cons_succ, List.setIfInBounds_toArray, List.set_cons_zero, List.set_cons_succ]
            clear hHeld
            have hHeld := hHeld2
            clear hHeld2
            refine wpAnyH_ready (rs := [12]) (by kernel_rfl) (by simp) (AllReadyH.cons (o := _) rfl (fun K hK => ?_) AllReadyH.nil)
            go_simp
            go_at_call 18
            refine (nextB_any B K1 _ _ (by omega) (H73.out.tapeAt 5 rfl)).mono ?_
            rintro e w75 ⟨x74, rfl, x74a, x74b, htn, hgn, hsn⟩
            have H76 := hid (H73.out.next 5 rfl htn hgn)
            clear htn hgn hsn
            refine hK.out _ _ ?_ (fun hHeld2 => ?_)
            focus ((try dsimp only); (exact ⟨H76.out.cell 3 rfl 0 rfl, H76.out.cell 3 rfl 1 rfl, H76.out.cell 3 rfl 2 rfl, H76.out.cell 3 rfl 3 rfl⟩))
            clear hK K
            try simp only [Act.put, List.getElem_toArray, List.getElem_cons_zero, List.getElem_cons_succ, List.setIfInBounds_toArray, List.set_cons_zero, List.set_cons_succ]
            clear hHeld
            have hHeld := hHeld2
            clear hHeld2
            refine wpAnyH_ready (rs := [14]) (by kernel_rfl) (by simp) (AllReadyH.cons (o := _) rfl (fun K hK => ?_) AllReadyH.nil)
            go_simp
            go_at_call 18
            refine (nextB_any B K1 _ _ (by omega) (H76.out.tapeAt 5 rfl)).mono ?_
            rintro e w78 ⟨x77, rfl, x77a, x77b, htn, hgn, hsn⟩
            have H79 := hid (H76.out.next 5 rfl htn hgn)
            clear htn hgn hsn
            refine hK.out _ _ ?_ (fun hHeld2 => ?_)
            focus ((try dsimp only); (exact ⟨H79.out.cell 3 rfl 0 rfl, H79.out.cell 3 rfl 1 rfl, H79.out.cell 3 rfl 2 rfl, H79.out.cell 3 rfl 3 rfl⟩))
            clear hK K
            try simp only [Act.put, List.getElem_toArray, List.getElem_cons_zero, List.getElem_cons_succ, List.setIfInBounds_toArray, List.set_cons_zero, List.set_cons_succ]
            clear hHeld
            have hHeld := hHeld2
            clear hHeld2
            refine wpAnyH_take (i := 16) (oi := _) (v := ?_) rfl (by kernel_rfl) (by kernel_rfl) (by kernel_rfl) (fun _ _ _ h => h) (Or.inl ⟨by rfl, ?_⟩) (by assumption) ?_
            rotate_left
            focus (intro wS hSw; (try dsimp only at hSw); go_simp; (try with_reducible rfl))
            try simp only [Act.put, List.getElem_toArray, List.getElem_cons_zero, List.getElem_cons_succ, List.setIfInBounds_toArray, List.set_cons_zero, List.set_cons_succ]
            refine wpAnyH_take (i := 17) (oi := _) (v := ?_) rfl (by kernel_rfl) (by kernel_rfl) (by kernel_rfl) (fun _ _ _ h => h) (Or.inl ⟨by rfl, ?_⟩) (by assumption) ?_
            rotate_left
            focus (intro wS hSw; (try dsimp only at hSw); go_simp; (try with_reducible rfl))
            try simp only [Act.put, List.getElem_toArray, List.getElem_cons_zero, List.getElem_cons_succ, List.setIfInBounds_toArray, List.set_cons_zero, List.set_cons_succ]
            refine wpAnyH_ready (rs := [18]) (by kernel_rfl) (by simp) (AllReadyH.cons (o := _) rfl (fun K hK => ?_) AllReadyH.nil)
            have z80 := H79.out.cell 0 rfl 0 rfl
            have z81 := H79.out.free 0 rfl 0
            have z82 := H79.out.cell 0 rfl 1 rfl
            have z83 := H79.out.free 0 rfl 1
            have H84 := hid (show St B W [.cells D68 #[.int .i64 e71_0, .int .i64 e71_1] 38, .own (.slice wv20a wl21.length wv20c) wl21, .own (.slice wv13a wl14.length wv13c) wl14, .cells D7 #[.int .i64 pw4, .int .i64 ph4, .int .i64 pm4, .slice pv4a ps4.length pv4c] 35, .own (.slice pv4a ps4.length pv4c) ps4, .tape K1] [] ((w78.setCell ⟨D68, 0, none⟩ (.int .i64 e71_0)).setCell ⟨D68, 1, none⟩ (.int .i64 e71_1)) from ((H79.out.set 0 rfl 0 (.int .i64 e71_0)).set 0 rfl 1 (.int .i64 e71_1)))
            go_simp
            refine hK.out _ _ ?_ (fun hHeld2 => ?_)
            focus ((try dsimp only); (exact ⟨H84.out.cell 3 rfl 0 rfl, H84.out.cell 3 rfl 1 rfl, H84.out.cell 3 rfl 2 rfl, H84.out.cell 3 rfl 3 rfl⟩))
            clear hK K hHeld
            try simp only [Act.put, List.getElem_toArray, List.getElem_cons_zero, List.getElem_cons_succ, List.setIfInBounds_toArray, List.set_cons_zero, List.set_cons_succ]
            clear z80 z81 z82 z83
            generalize ((w78.setCell ⟨D68, 0, none⟩ (.int .i64 e71_0)).setCell ⟨D68, 1, none⟩ (.int .i64 e71_1)) = k85 at *
            have hHeld := hHeld2
            clear hHeld2
            refine wpAnyH_take (i := 19) (oi := _) (v := ?_) rfl (by kernel_rfl) (by kernel_rfl) (by kernel_rfl) (fun _ _ _ h => h) (Or.inl ⟨by rfl, ?_⟩) (by assumption) ?_
            rotate_left
            focus (intro wS hSw; (try dsimp only at hSw); go_simp; (try with_reducible rfl))
            try simp only [Act.put, List.getElem_toArray, List.getElem_cons_zero, List.getElem_cons_succ, List.setIfInBounds_toArray, List.set_cons_zero, List.set_cons_succ]
            refine wpAnyH_take (i := 20) (oi := _) (v := ?_) rfl (by kernel_rfl) (by kernel_rfl) (by kernel_rfl) (fun _ _ _ h => h) (Or.inl ⟨by rfl, ?_⟩) (by assumption) ?_
            rotate_left
            focus (intro wS hSw; (try dsimp only at hSw); go_simp; (try with_reducible rfl))
            try simp only [Act.put, List.getElem_toArray, List.getElem_cons_zero, List.getElem_cons_succ, List.setIfInBounds_toArray, List.set_cons_zero, List.set_cons_succ]
            refine wpAnyH_done (by kernel_rfl) ?_ _
            try clear hHeld
            go_wp2_with fail
            go_meet
            exact ⟨D68, _, _, _, _, _, _, _, _, _, _, rfl, rfl, rfl, rfl, rfl, HWLwl14.out, by have := HWLwl21.out; omega, by have := HWLwl21.out; omega, HWBwl14.out, HWBwl21.out, HEe71.out, by omega, by omega, by omega, by omega, H84.out.pick [2, 1, 0, 3, 4, 5] rfl (by decide)⟩
        · obtain ⟨D86, hD86⟩ : ∃ D, w17.heap.size = D := ⟨_, rfl⟩
          have H87 := hid (H18.out.alloc #[.int .i64 0, .int .i64 0] 38 hD86)
          go_simp
          refine hK.out _ _ ?_ (fun hHeld2 => ?_)
          focus ((try dsimp only); (exact ⟨H87.out.cell 2 rfl 0 rfl, H87.out.cell 2 rfl 1 rfl, H87.out.cell 2 rfl 2 rfl, H87.out.cell 2 rfl 3 rfl⟩))
          clear hK K hHeld
          try simp only [Act.put, List.getElem_toArray, List.getElem_cons_zero, List.getElem_cons_succ, List.setIfInBounds_toArray, List.set_cons_zero, List.set_cons_succ]
          clear hD86
          generalize (w17.alloc (.cells #[.int .i64 0, .int .i64 0] 38)) = k88 at *
          have hHeld := hHeld2
          clear hHeld2
          refine wpAnyH_ready (rs := [6]) (by kernel_rfl) (by simp) (AllReadyH.cons (o := _) rfl (fun K hK => ?_) AllReadyH.nil)
          go_simp
          go_at_call 19
          refine (weights_any B K1 _ _ (by omega) (H87.out.tapeAt 4 rfl)).mono ?_
          rintro e w89 ⟨wv90, wl91, rfl, hlen, hin, ho, ht, hg⟩
          have H92 := hid (H87.out.add (H87.out.next 4 rfl ht hg) ho)
          have HWLwl91 := hid hlen
          have HWBwl91 := hid hin
          obtain ⟨wv90a, wv90c, rfl, _⟩ := ho.slc
          clear hlen hin ho ht hg
          refine hK.out _ _ ?_ (fun hHeld2 => ?_)
          focus ((try dsimp only); (exact ⟨H92.out.cell 3 rfl 0 rfl, H92.out.cell 3 rfl 1 rfl, H92.out.cell 3 rfl 2 rfl, H92.out.cell 3 rfl 3 rfl⟩))
          clear hK K
          try simp only [Act.put, List.getElem_toArray, List.getElem_cons_zero, List.getElem_cons_succ, List.setIfInBounds_toArray, List.set_cons_zero, List.set_cons_succ]
          clear hHeld
          have hHeld := hHeld2
          clear hHeld2
          refine wpAnyH_ready (rs := [10]) (by kernel_rfl) (by simp) (AllReadyH.cons (o := _) rfl (fun K hK => ?_) AllReadyH.nil)
          go_simp
          go_at_call 25
          refine (edgeok_any B K1 _ _ (by omega) (H92.out.tapeAt 5 rfl)).mono ?_
          rintro e w94 ⟨e93_0, e93_1, rfl, hev, ht, hg⟩
          have H95 := hid (H92.out.next 5 rfl ht hg)
          have HEe93 := hid hev
          clear ht hg hev
          refine hK.out _ _ ?_ (fun hHeld2 => ?_)
          focus ((try dsimp only); (exact ⟨H95.out.cell 3 rfl 0 rfl, H95.out.cell 3 rfl 1 rfl, H95.out.cell 3 rfl 2 rfl, H95.out.cell 3 rfl 3 rfl⟩))
          clear hK K
          try simp only [Act.put, List.getElem_toArray, List.getElem_cons_zero, List.getElem_cons_succ, List.setIfInBounds_toArray, List.set_cons_zero, List.set_cons_succ]
          clear hHeld
          have hHeld := hHeld2
          clear hHeld2
          refine wpAnyH_ready (rs := [12]) (by kernel_rfl) (by simp) (AllReadyH.cons (o := _) rfl (fun K hK => ?_) AllReadyH.nil)
          go_simp
          go_at_call 18
          refine (nextB_any B K1 _ _ (by omega) (H95.out.tapeAt 5 rfl)).mono ?_
          rintro e w97 ⟨x96, rfl, x96a, x96b, htn, hgn, hsn⟩
          have H98 := hid (H95.out.next 5 rfl htn hgn)
          clear htn hgn hsn
          refine hK.out _ _ ?_ (fun hHeld2 => ?_)
          focus ((try dsimp only); (exact ⟨H98.out.cell 3 rfl 0 rfl, H98.out.cell 3 rfl 1 rfl, H98.out.cell 3 rfl 2 rfl, H98.out.cell 3 rfl 3 rfl⟩))
          clear hK K
          try simp only [Act.put, List.getElem_toArray, List.getElem_cons_zero, List.getElem_cons_succ, List.setIfInBounds_toArray, List.set_cons_zero, List.set_cons_succ]
          clear hHeld
          have hHeld := hHeld2
          clear hHeld2
          refine wpAnyH_ready (rs := [14]) (by kernel_rfl) (by simp) (AllReadyH.cons (o := _) rfl (fun K hK => ?_) AllReadyH.nil)
          go_simp
          go_at_call 18
          refine (nextB_any B K1 _ _ (by omega) (H98.out.tapeAt 5 rfl)).mono ?_
          rintro e w100 ⟨x99, rfl, x99a, x99b, htn, hgn, hsn⟩
          have H101 := hid (H98.out.next 5 rfl htn hgn)
          clear htn hgn hsn
          refine hK.out _ _ ?_ (fun hHeld2 => ?_)
          focus ((try dsimp only); (exact ⟨H101.out.cell 3 rfl 0 rfl, H101.out.cell 3 rfl 1 rfl, H101.out.cell 3 rfl 2 rfl, H101.out.cell 3 rfl 3 rfl⟩))
          clear hK K
          try simp only [Act.put, List.getElem_toArray, List.getElem_cons_zero, List.getElem_cons_succ, List.setIfInBounds_toArray, List.set_cons_zero, List.set_cons_succ]
          clear hHeld
          have hHeld := hHeld2
          clear hHeld2
          refine wpAnyH_take (i := 16) (oi := _) (v := ?_) rfl (by kernel_rfl) (by kernel_rfl) (by kernel_rfl) (fun _ _ _ h => h) (Or.inl ⟨by rfl, ?_⟩) (by assumption) ?_
          rotate_left
          focus (intro wS hSw; (try dsimp only at hSw); go_simp; (try with_reducible rfl))
          try simp only [Act.put, List.getElem_toArray, List.getElem_cons_zero, List.getElem_cons_succ, List.setIfInBounds_toArray, List.set_cons_zero, List.set_cons_succ]
          refine wpAnyH_take (i := 17) (oi := _) (v := ?_) rfl (by kernel_rfl) (by kernel_rfl) (by kernel_rfl) (fun _ _ _ h => h) (Or.inl ⟨by rfl, ?_⟩) (by assumption) ?_
          rotate_left
          focus (intro wS hSw; (try dsimp only at hSw); go_simp; (try with_reducible rfl))
          try simp only [Act.put, List.getElem_toArray, List.getElem_cons_zero, List.getElem_cons_succ, List.setIfInBounds_toArray, List.set_cons_zero, List.set_cons_succ]
          refine wpAnyH_ready (rs := [18]) (by kernel_rfl) (by simp) (AllReadyH.cons (o := _) rfl (fun K hK => ?_) AllReadyH.nil)
          have z102 := H101.out.cell 1 rfl 0 rfl
          have z103 := H101.out.free 1 rfl 0
          have z104 := H101.out.cell 1 rfl 1 rfl
          have z105 := H101.out.free 1 rfl 1
          have H106 := hid (show St B W [.own (.slice wv90a wl91.length wv90c) wl91, .cells D86 #[.int .i64 e93_0, .int .i64 e93_1] 38, .own (.slice wv13a wl14.length wv13c) wl14, .cells D7 #[.int .i64 pw4, .int .i64 ph4, .int .i64 pm4, .slice pv4a ps4.length pv4c] 35, .own (.slice pv4a ps4.length pv4c) ps4, .tape K1] [] ((w100.setCell ⟨D86, 0, none⟩ (.int .i64 e93_0)).setCell ⟨D86, 1, none⟩ (.int .i64 e93_1)) from ((H101.out.set 1 rfl 0 (.int .i64 e93_0)).set 1 rfl 1 (.int .i64 e93_1)))
          go_simp
          refine hK.out _ _ ?_ (fun hHeld2 => ?_)
          focus ((try dsimp only); (exact ⟨H106.out.cell 3 rfl 0 rfl, H106.out.cell 3 rfl 1 rfl, H106.out.cell 3 rfl 2 rfl, H106.out.cell 3 rfl 3 rfl⟩))
          clear hK K hHeld
          try simp only [Act.put, List.getElem_toArray, List.getElem_cons_zero, List.getElem_cons_succ, List.setIfInBounds_toArray, List.set_cons_zero, List.set_cons_succ]
          clear z102 z103 z104 z105
          generalize ((w100.setCell ⟨D86, 0, none⟩ (.int .i64 e93_0)).setCell ⟨D86, 1, none⟩ (.int .i64 e93_1)) = k107 at *
          have hHeld := hHeld2
          clear hHeld2
          refine wpAnyH_take (i := 19) (oi := _) (v := ?_) rfl (by kernel_rfl) (by kernel_rfl) (by kernel_rfl) (fun _ _ _ h => h) (Or.inl ⟨by rfl, ?_⟩) (by assumption) ?_
          rotate_left
          focus (intro wS hSw; (try dsimp only at hSw); go_simp; (try with_reducible rfl))
          try simp only [Act.put, List.getElem_toArray, List.getElem_cons_zero, List.getElem_cons_succ, List.setIfInBounds_toArray, List.set_cons_zero, List.set_cons_succ]
          refine wpAnyH_take (i := 20) (oi := _) (v := ?_) rfl (by kernel_rfl) (by kernel_rfl) (by kernel_rfl) (fun _ _ _ h => h) (Or.inl ⟨by rfl, ?_⟩) (by assumption) ?_
          rotate_left
          focus (intro wS hSw; (try dsimp only at hSw); go_simp; (try with_reducible rfl))
          try simp only [Act.put, List.getElem_toArray, List.getElem_cons_zero, List.getElem_cons_succ, List.setIfInBounds_toArray, List.set_cons_zero, List.set_cons_succ]
          refine wpAnyH_done (by kernel_rfl) ?_ _
          try clear hHeld
          go_wp2_with fail
          go_meet
          exact ⟨D86, _, _, _, _, _, _, _, _, _, _, rfl, rfl, rfl, rfl, rfl, HWLwl14.out, by have := HWLwl91.out; omega, by have := HWLwl91.out; omega, HWBwl14.out, HWBwl91.out, HEe93.out, by omega, by omega, by omega, by omega, H106.out.pick [2, 0, 1, 3, 4, 5] rfl (by decide)⟩
      · obtain ⟨D108, hD108⟩ : ∃ D, w12.heap.size = D := ⟨_, rfl⟩
        have H109 := hid (H15.out.alloc #[.int .i64 0, .int .i64 0] 38 hD108)
        go_simp
        refine hK.out _ _ ?_ (fun hHeld2 => ?_)
        focus ((try dsimp only); (exact ⟨H109.out.cell 2 rfl 0 rfl, H109.out.cell 2 rfl 1 rfl, H109.out.cell 2 rfl 2 rfl, H109.out.cell 2 rfl 3 rfl⟩))
        clear hK K hHeld
        try simp only [Act.put, List.getElem_toArray, List.getElem_cons_zero, List.getElem_cons_succ, List.setIfInBounds_toArray, List.set_cons_zero, List.set_cons_succ]
        clear hD108
        generalize (w12.alloc (.cells #[.int .i64 0, .int .i64 0] 38)) = k110 at *
        have hHeld := hHeld2
        clear hHeld2
        refine wpAnyH_ready (rs := [4]) (by kernel_rfl) (by simp) (AllReadyH.cons (o := _) rfl (fun K hK => ?_) AllReadyH.nil)
        go_simp
        go_at_call 18
        refine (nextB_any B K1 _ _ (by omega) (H109.out.tapeAt 4 rfl)).mono ?_
        rintro e w112 ⟨x111, rfl, x111a, x111b, htn, hgn, hsn⟩
        have H113 := hid (H109.out.next 4 rfl htn hgn)
        clear htn hgn hsn
        have wnx111 : IntKind.i64.wrap (1 + x111) = 1 + x111 := IntWalk.i64_in _ (by omega)
        refine hK.out _ _ ?_ (fun hHeld2 => ?_)
        focus ((try dsimp only); (exact ⟨H113.out.cell 2 rfl 0 rfl, H113.out.cell 2 rfl 1 rfl, H113.out.cell 2 rfl 2 rfl, H113.out.cell 2 rfl 3 rfl⟩))
        clear hK K
        try simp only [Act.put, List.getElem_toArray, List.getElem_cons_zero, List.getElem_cons_succ, List.setIfInBounds_toArray, List.set_cons_zero, List.set_cons_succ]
        clear hHeld
        have hHeld := hHeld2
        clear hHeld2
        refine wpAnyH_take (i := 5) (oi := _) (v := ?_) rfl (by kernel_rfl) (by kernel_rfl) (by kernel_rfl) (fun _ _ _ h => h) (Or.inl ⟨by rfl, ?_⟩) (by assumption) ?_
        rotate_left
        focus (intro wS hSw; (try dsimp only at hSw); go_simp; (try with_reducible rfl))
        try simp only [Act.put, List.getElem_toArray, List.getElem_cons_zero, List.getElem_cons_succ, List.setIfInBounds_toArray, List.set_cons_zero, List.set_cons_succ]
        refine wpAnyH_ready (rs := [6]) (by kernel_rfl) (by simp) (AllReadyH.cons (o := _) rfl (fun K hK => ?_) AllReadyH.nil)
        go_simp
        go_at_call 19
        refine (weights_any B K1 _ _ (by omega) (H113.out.tapeAt 4 rfl)).mono ?_
        rintro e w114 ⟨wv115, wl116, rfl, hlen, hin, ho, ht, hg⟩
        have H117 := hid (H113.out.add (H113.out.next 4 rfl ht hg) ho)
        have HWLwl116 := hid hlen
        have HWBwl116 := hid hin
        obtain ⟨wv115a, wv115c, rfl, _⟩ := ho.slc
        clear hlen hin ho ht hg
        refine hK.out _ _ ?_ (fun hHeld2 => ?_)
        focus ((try dsimp only); (exact ⟨H117.out.cell 3 rfl 0 rfl, H117.out.cell 3 rfl 1 rfl, H117.out.cell 3 rfl 2 rfl, H117.out.cell 3 rfl 3 rfl⟩))
        clear hK K
        try simp only [Act.put, List.getElem_toArray, List.getElem_cons_zero, List.getElem_cons_succ, List.setIfInBounds_toArray, List.set_cons_zero, List.set_cons_succ]
        clear hHeld
        have hHeld := hHeld2
        clear hHeld2
        refine wpAnyH_ready (rs := [10]) (by kernel_rfl) (by simp) (AllReadyH.cons (o := _) rfl (fun K hK => ?_) AllReadyH.nil)
        go_simp
        go_at_call 25
        refine (edgeok_any B K1 _ _ (by omega) (H117.out.tapeAt 5 rfl)).mono ?_
        rintro e w119 ⟨e118_0, e118_1, rfl, hev, ht, hg⟩
        have H120 := hid (H117.out.next 5 rfl ht hg)
        have HEe118 := hid hev
        clear ht hg hev
        refine hK.out _ _ ?_ (fun hHeld2 => ?_)
        focus ((try dsimp only); (exact ⟨H120.out.cell 3 rfl 0 rfl, H120.out.cell 3 rfl 1 rfl, H120.out.cell 3 rfl 2 rfl, H120.out.cell 3 rfl 3 rfl⟩))
        clear hK K
        try simp only [Act.put, List.getElem_toArray, List.getElem_cons_zero, List.getElem_cons_succ, List.setIfInBounds_toArray, List.set_cons_zero, List.set_cons_succ]
        clear hHeld
        have hHeld := hHeld2
        clear hHeld2
        refine wpAnyH_ready (rs := [12]) (by kernel_rfl) (by simp) (AllReadyH.cons (o := _) rfl (fun K hK => ?_) AllReadyH.nil)
        go_simp
        go_at_call 18
        refine (nextB_any B K1 _ _ (by omega) (H120.out.tapeAt 5 rfl)).mono ?_
        rintro e w122 ⟨x121, rfl, x121a, x121b, htn, hgn, hsn⟩
        have H123 := hid (H120.out.next 5 rfl htn hgn)
        clear htn hgn hsn
        refine hK.out _ _ ?_ (fun hHeld2 => ?_)
        focus ((try dsimp only); (exact ⟨H123.out.cell 3 rfl 0 rfl, H123.out.cell 3 rfl 1 rfl, H123.out.cell 3 rfl 2 rfl, H123.out.cell 3 rfl 3 rfl⟩))
        clear hK K
        try simp only [Act.put, List.getElem_toArray, List.getElem_cons_zero, List.getElem_cons_succ, List.setIfInBounds_toArray, List.set_cons_zero, List.set_cons_succ]
        clear hHeld
        have hHeld := hHeld2
        clear hHeld2
        refine wpAnyH_ready (rs := [14]) (by kernel_rfl) (by simp) (AllReadyH.cons (o := _) rfl (fun K hK => ?_) AllReadyH.nil)
        go_simp
        go_at_call 18
        refine (nextB_any B K1 _ _ (by omega) (H123.out.tapeAt 5 rfl)).mono ?_
        rintro e w125 ⟨x124, rfl, x124a, x124b, htn, hgn, hsn⟩
        have H126 := hid (H123.out.next 5 rfl htn hgn)
        clear htn hgn hsn
        refine hK.out _ _ ?_ (fun hHeld2 => ?_)
        focus ((try dsimp only); (exact ⟨H126.out.cell 3 rfl 0 rfl, H126.out.cell 3 rfl 1 rfl, H126.out.cell 3 rfl 2 rfl, H126.out.cell 3 rfl 3 rfl⟩))
        clear hK K
        try simp only [Act.put, List.getElem_toArray, List.getElem_cons_zero, List.getElem_cons_succ, List.setIfInBounds_toArray, List.set_cons_zero, List.set_cons_succ]
        clear hHeld
        have hHeld := hHeld2
        clear hHeld2
        refine wpAnyH_take (i := 16) (oi := _) (v := ?_) rfl (by kernel_rfl) (by kernel_rfl) (by kernel_rfl) (fun _ _ _ h => h) (Or.inl ⟨by rfl, ?_⟩) (by assumption) ?_
        rotate_left
        focus (intro wS hSw; (try dsimp only at hSw); go_simp; (try with_reducible rfl))
        try simp only [Act.put, List.getElem_toArray, List.getElem_cons_zero, List.getElem_cons_succ, List.setIfInBounds_toArray, List.set_cons_zero, List.set_cons_succ]
        refine wpAnyH_take (i := 17) (oi := _) (v := ?_) rfl (by kernel_rfl) (by kernel_rfl) (by kernel_rfl) (fun _ _ _ h => h) (Or.inl ⟨by rfl, ?_⟩) (by assumption) ?_
        rotate_left
        focus (intro wS hSw; (try dsimp only at hSw); go_simp; (try with_reducible rfl))
        try simp only [Act.put, List.getElem_toArray, List.getElem_cons_zero, List.getElem_cons_succ, List.setIfInBounds_toArray, List.set_cons_zero, List.set_cons_succ]
        refine wpAnyH_ready (rs := [18]) (by kernel_rfl) (by simp) (AllReadyH.cons (o := _) rfl (fun K hK => ?_) AllReadyH.nil)
        have z127 := H126.out.cell 1 rfl 0 rfl
        have z128 := H126.out.free 1 rfl 0
        have z129 := H126.out.cell 1 rfl 1 rfl
        have z130 := H126.out.free 1 rfl 1
        have H131 := hid (show St B W [.own (.slice wv115a wl116.length wv115c) wl116, .cells D108 #[.int .i64 e118_0, .int .i64 e118_1] 38, .own (.slice wv13a wl14.length wv13c) wl14, .cells D7 #[.int .i64 pw4, .int .i64 ph4, .int .i64 pm4, .slice pv4a ps4.length pv4c] 35, .own (.slice pv4a ps4.length pv4c) ps4, .tape K1] [] ((w125.setCell ⟨D108, 0, none⟩ (.int .i64 e118_0)).setCell ⟨D108, 1, none⟩ (.int .i64 e118_1)) from ((H126.out.set 1 rfl 0 (.int .i64 e118_0)).set 1 rfl 1 (.int .i64 e118_1)))
        go_simp
        refine hK.out _ _ ?_ (fun hHeld2 => ?_)
        focus ((try dsimp only); (exact ⟨H131.out.cell 3 rfl 0 rfl, H131.out.cell 3 rfl 1 rfl, H131.out.cell 3 rfl 2 rfl, H131.out.cell 3 rfl 3 rfl⟩))
        clear hK K hHeld
        try simp only [Act.put, List.getElem_toArray, List.getElem_cons_zero, List.getElem_cons_succ, List.setIfInBounds_toArray, List.set_cons_zero, List.set_cons_succ]
        clear z127 z128 z129 z130
        generalize ((w125.setCell ⟨D108, 0, none⟩ (.int .i64 e118_0)).setCell ⟨D108, 1, none⟩ (.int .i64 e118_1)) = k132 at *
        have hHeld := hHeld2
        clear hHeld2
        refine wpAnyH_take (i := 19) (oi := _) (v := ?_) rfl (by kernel_rfl) (by kernel_rfl) (by kernel_rfl) (fun _ _ _ h => h) (Or.inl ⟨by rfl, ?_⟩) (by assumption) ?_
        rotate_left
        focus (intro wS hSw; (try dsimp only at hSw); go_simp; (try with_reducible rfl))
        try simp only [Act.put, List.getElem_toArray, List.getElem_cons_zero, List.getElem_cons_succ, List.setIfInBounds_toArray, List.set_cons_zero, List.set_cons_succ]
        refine wpAnyH_take (i := 20) (oi := _) (v := ?_) rfl (by kernel_rfl) (by kernel_rfl) (by kernel_rfl) (fun _ _ _ h => h) (Or.inl ⟨by rfl, ?_⟩) (by assumption) ?_
        rotate_left
        focus (intro wS hSw; (try dsimp only at hSw); go_simp; (try with_reducible rfl))
        try simp only [Act.put, List.getElem_toArray, List.getElem_cons_zero, List.getElem_cons_succ, List.setIfInBounds_toArray, List.set_cons_zero, List.set_cons_succ]
        refine wpAnyH_done (by kernel_rfl) ?_ _
        try clear hHeld
        go_wp2_with fail
        go_meet
        exact ⟨D108, _, _, _, _, _, _, _, _, _, _, rfl, rfl, rfl, rfl, rfl, HWLwl14.out, by have := HWLwl116.out; omega, by have := HWLwl116.out; omega, HWBwl14.out, HWBwl116.out, HEe118.out, by omega, by omega, by omega, by omega, H131.out.pick [2, 0, 1, 3, 4, 5] rfl (by decide)⟩
    · obtain ⟨D133, hD133⟩ : ∃ D, k11.heap.size = D := ⟨_, rfl⟩
      have H134 := hid (H10.out.alloc #[.int .i64 0, .int .i64 0] 38 hD133)
      go_simp
      refine hK.out _ _ ?_ (fun hHeld2 => ?_)
      focus ((try dsimp only); (exact ⟨H134.out.cell 1 rfl 0 rfl, H134.out.cell 1 rfl 1 rfl, H134.out.cell 1 rfl 2 rfl, H134.out.cell 1 rfl 3 rfl⟩))
      clear hK K hHeld
      try simp only [Act.put, List.getElem_toArray, List.getElem_cons_zero, List.getElem_cons_succ, List.setIfInBounds_toArray, List.set_cons_zero, List.set_cons_succ]
      clear hD133
      generalize (k11.alloc (.cells #[.int .i64 0, .int .i64 0] 38)) = k135 at *
      have hHeld := hHeld2
      clear hHeld2
      refine wpAnyH_ready (rs := [1]) (by kernel_rfl) (by simp) (AllReadyH.cons (o := _) rfl (fun K hK => ?_) AllReadyH.nil)
      go_simp
      go_at_call 19
      refine (weights_any B K1 _ _ (by omega) (H134.out.tapeAt 3 rfl)).mono ?_
      rintro e w136 ⟨wv137, wl138, rfl, hlen, hin, ho, ht, hg⟩
      have H139 := hid (H134.out.add (H134.out.next 3 rfl ht hg) ho)
      have HWLwl138 := hid hlen
      have HWBwl138 := hid hin
      obtain ⟨wv137a, wv137c, rfl, _⟩ := ho.slc
      clear hlen hin ho ht hg
      refine hK.out _ _ ?_ (fun hHeld2 => ?_)
      focus ((try dsimp only); (exact ⟨H139.out.cell 2 rfl 0 rfl, H139.out.cell 2 rfl 1 rfl, H139.out.cell 2 rfl 2 rfl, H139.out.cell 2 rfl 3 rfl⟩))
      clear hK K
      try simp only [Act.put, List.getElem_toArray, List.getElem_cons_zero, List.getElem_cons_succ, List.setIfInBounds_toArray, List.set_cons_zero, List.set_cons_succ]
      clear hHeld
      have hHeld := hHeld2
      clear hHeld2
      refine wpAnyH_ready (rs := [4]) (by kernel_rfl) (by simp) (AllReadyH.cons (o := _) rfl (fun K hK => ?_) AllReadyH.nil)
      go_simp
      go_at_call 18
      refine (nextB_any B K1 _ _ (by omega) (H139.out.tapeAt 4 rfl)).mono ?_
      rintro e w141 ⟨x140, rfl, x140a, x140b, htn, hgn, hsn⟩
      have H142 := hid (H139.out.next 4 rfl htn hgn)
      clear htn hgn hsn
      have wnx140 : IntKind.i64.wrap (1 + x140) = 1 + x140 := IntWalk.i64_in _ (by omega)
      refine hK.out _ _ ?_ (fun hHeld2 => ?_)
      focus ((try dsimp only); (exact ⟨H142.out.cell 2 rfl 0 rfl, H142.out.cell 2 rfl 1 rfl, H142.out.cell 2 rfl 2 rfl, H142.out.cell 2 rfl 3 rfl⟩))
      clear hK K
      try simp only [Act.put, List.getElem_toArray, List.getElem_cons_zero, List.getElem_cons_succ, List.setIfInBounds_toArray, List.set_cons_zero, List.set_cons_succ]
      clear hHeld
      have hHeld := hHeld2
      clear hHeld2
      refine wpAnyH_take (i := 5) (oi := _) (v := ?_) rfl (by kernel_rfl) (by kernel_rfl) (by kernel_rfl) (fun _ _ _ h => h) (Or.inl ⟨by rfl, ?_⟩) (by assumption) ?_
      rotate_left
      focus (intro wS hSw; (try dsimp only at hSw); go_simp; (try with_reducible rfl))
      try simp only [Act.put, List.getElem_toArray, List.getElem_cons_zero, List.getElem_cons_succ, List.setIfInBounds_toArray, List.set_cons_zero, List.set_cons_succ]
      refine wpAnyH_ready (rs := [6]) (by kernel_rfl) (by simp) (AllReadyH.cons (o := _) rfl (fun K hK => ?_) AllReadyH.nil)
      go_simp
      go_at_call 19
      refine (weights_any B K1 _ _ (by omega) (H142.out.tapeAt 4 rfl)).mono ?_
      rintro e w143 ⟨wv144, wl145, rfl, hlen, hin, ho, ht, hg⟩
      have H146 := hid (H142.out.add (H142.out.next 4 rfl ht hg) ho)
      have HWLwl145 := hid hlen
      have HWBwl145 := hid hin
      obtain ⟨wv144a, wv144c, rfl, _⟩ := ho.slc
      clear hlen hin ho ht hg
      refine hK.out _ _ ?_ (fun hHeld2 => ?_)
      focus ((try dsimp only); (exact ⟨H146.out.cell 3 rfl 0 rfl, H146.out.cell 3 rfl 1 rfl, H146.out.cell 3 rfl 2 rfl, H146.out.cell 3 rfl 3 rfl⟩))
      clear hK K
      try simp only [Act.put, List.getElem_toArray, List.getElem_cons_zero, List.getElem_cons_succ, List.setIfInBounds_toArray, List.set_cons_zero, List.set_cons_succ]
      clear hHeld
      have hHeld := hHeld2
      clear hHeld2
      refine wpAnyH_ready (rs := [10]) (by kernel_rfl) (by simp) (AllReadyH.cons (o := _) rfl (fun K hK => ?_) AllReadyH.nil)
      go_simp
      go_at_call 25
      refine (edgeok_any B K1 _ _ (by omega) (H146.out.tapeAt 5 rfl)).mono ?_
      rintro e w148 ⟨e147_0, e147_1, rfl, hev, ht, hg⟩
      have H149 := hid (H146.out.next 5 rfl ht hg)
      have HEe147 := hid hev
      clear ht hg hev
      refine hK.out _ _ ?_ (fun hHeld2 => ?_)
      focus ((try dsimp only); (exact ⟨H149.out.cell 3 rfl 0 rfl, H149.out.cell 3 rfl 1 rfl, H149.out.cell 3 rfl 2 rfl, H149.out.cell 3 rfl 3 rfl⟩))
      clear hK K
      try simp only [Act.put, List.getElem_toArray, List.getElem_cons_zero, List.getElem_cons_succ, List.setIfInBounds_toArray, List.set_cons_zero, List.set_cons_succ]
      clear hHeld
      have hHeld := hHeld2
      clear hHeld2
      refine wpAnyH_ready (rs := [12]) (by kernel_rfl) (by simp) (AllReadyH.cons (o := _) rfl (fun K hK => ?_) AllReadyH.nil)
      go_simp
      go_at_call 18
      refine (nextB_any B K1 _ _ (by omega) (H149.out.tapeAt 5 rfl)).mono ?_
      rintro e w151 ⟨x150, rfl, x150a, x150b, htn, hgn, hsn⟩
      have H152 := hid (H149.out.next 5 rfl htn hgn)
      clear htn hgn hsn
      refine hK.out _ _ ?_ (fun hHeld2 => ?_)
      focus ((try dsimp only); (exact ⟨H152.out.cell 3 rfl 0 rfl, H152.out.cell 3 rfl 1 rfl, H152.out.cell 3 rfl 2 rfl, H152.out.cell 3 rfl 3 rfl⟩))
      clear hK K
      try simp only [Act.put, List.getElem_toArray, List.getElem_cons_zero, List.getElem_cons_succ, List.setIfInBounds_toArray, List.set_cons_zero, List.set_cons_succ]
      clear hHeld
      have hHeld := hHeld2
      clear hHeld2
      refine wpAnyH_ready (rs := [14]) (by kernel_rfl) (by simp) (AllReadyH.cons (o := _) rfl (fun K hK => ?_) AllReadyH.nil)
      go_simp
      go_at_call 18
      refine (nextB_any B K1 _ _ (by omega) (H152.out.tapeAt 5 rfl)).mono ?_
      rintro e w154 ⟨x153, rfl, x153a, x153b, htn, hgn, hsn⟩
      have H155 := hid (H152.out.next 5 rfl htn hgn)
      clear htn hgn hsn
      refine hK.out _ _ ?_ (fun hHeld2 => ?_)
      focus ((try dsimp only); (exact ⟨H155.out.cell 3 rfl 0 rfl, H155.out.cell 3 rfl 1 rfl, H155.out.cell 3 rfl 2 rfl, H155.out.cell 3 rfl 3 rfl⟩))
      clear hK K
      try simp only [Act.put, List.getElem_toArray, List.getElem_cons_zero, List.getElem_cons_succ, List.setIfInBounds_toArray, List.set_cons_zero, List.set_cons_succ]
      clear hHeld
      have hHeld := hHeld2
      clear hHeld2
      refine wpAnyH_take (i := 16) (oi := _) (v := ?_) rfl (by kernel_rfl) (by kernel_rfl) (by kernel_rfl) (fun _ _ _ h => h) (Or.inl ⟨by rfl, ?_⟩) (by assumption) ?_
      rotate_left
      focus (intro wS hSw; (try dsimp only at hSw); go_simp; (try with_reducible rfl))
      try simp only [Act.put, List.getElem_toArray, List.getElem_cons_zero, List.getElem_cons_succ, List.setIfInBounds_toArray, List.set_cons_zero, List.set_cons_succ]
      refine wpAnyH_take (i := 17) (oi := _) (v := ?_) rfl (by kernel_rfl) (by kernel_rfl) (by kernel_rfl) (fun _ _ _ h => h) (Or.inl ⟨by rfl, ?_⟩) (by assumption) ?_
      rotate_left
      focus (intro wS hSw; (try dsimp only at hSw); go_simp; (try with_reducible rfl))
      try simp only [Act.put, List.getElem_toArray, List.getElem_cons_zero, List.getElem_cons_succ, List.setIfInBounds_toArray, List.set_cons_zero, List.set_cons_succ]
      refine wpAnyH_ready (rs := [18]) (by kernel_rfl) (by simp) (AllReadyH.cons (o := _) rfl (fun K hK => ?_) AllReadyH.nil)
      have z156 := H155.out.cell 2 rfl 0 rfl
      have z157 := H155.out.free 2 rfl 0
      have z158 := H155.out.cell 2 rfl 1 rfl
      have z159 := H155.out.free 2 rfl 1
      have H160 := hid (show St B W [.own (.slice wv144a wl145.length wv144c) wl145, .own (.slice wv137a wl138.length wv137c) wl138, .cells D133 #[.int .i64 e147_0, .int .i64 e147_1] 38, .cells D7 #[.int .i64 pw4, .int .i64 ph4, .int .i64 pm4, .slice pv4a ps4.length pv4c] 35, .own (.slice pv4a ps4.length pv4c) ps4, .tape K1] [] ((w154.setCell ⟨D133, 0, none⟩ (.int .i64 e147_0)).setCell ⟨D133, 1, none⟩ (.int .i64 e147_1)) from ((H155.out.set 2 rfl 0 (.int .i64 e147_0)).set 2 rfl 1 (.int .i64 e147_1)))
      go_simp
      refine hK.out _ _ ?_ (fun hHeld2 => ?_)
      focus ((try dsimp only); (exact ⟨H160.out.cell 3 rfl 0 rfl, H160.out.cell 3 rfl 1 rfl, H160.out.cell 3 rfl 2 rfl, H160.out.cell 3 rfl 3 rfl⟩))
      clear hK K hHeld
      try simp only [Act.put, List.getElem_toArray, List.getElem_cons_zero, List.getElem_cons_succ, List.setIfInBounds_toArray, List.set_cons_zero, List.set_cons_succ]
      clear z156 z157 z158 z159
      generalize ((w154.setCell ⟨D133, 0, none⟩ (.int .i64 e147_0)).setCell ⟨D133, 1, none⟩ (.int .i64 e147_1)) = k161 at *
      have hHeld := hHeld2
      clear hHeld2
      refine wpAnyH_take (i := 19) (oi := _) (v := ?_) rfl (by kernel_rfl) (by kernel_rfl) (by kernel_rfl) (fun _ _ _ h => h) (Or.inl ⟨by rfl, ?_⟩) (by assumption) ?_
      rotate_left
      focus (intro wS hSw; (try dsimp only at hSw); go_simp; (try with_reducible rfl))
      try simp only [Act.put, List.getElem_toArray, List.getElem_cons_zero, List.getElem_cons_succ, List.setIfInBounds_toArray, List.set_cons_zero, List.set_cons_succ]
      refine wpAnyH_take (i := 20) (oi := _) (v := ?_) rfl (by kernel_rfl) (by kernel_rfl) (by kernel_rfl) (fun _ _ _ h => h) (Or.inl ⟨by rfl, ?_⟩) (by assumption) ?_
      rotate_left
      focus (intro wS hSw; (try dsimp only at hSw); go_simp; (try with_reducible rfl))
      try simp only [Act.put, List.getElem_toArray, List.getElem_cons_zero, List.getElem_cons_succ, List.setIfInBounds_toArray, List.set_cons_zero, List.set_cons_succ]
      refine wpAnyH_done (by kernel_rfl) ?_ _
      try clear hHeld
      go_wp2_with fail
      go_meet
      exact ⟨D133, _, _, _, _, _, _, _, _, _, _, rfl, rfl, rfl, rfl, rfl, HWLwl138.out, by have := HWLwl145.out; omega, by have := HWLwl145.out; omega, HWBwl138.out, HWBwl145.out, HEe147.out, by omega, by omega, by omega, by omega, H160.out.pick [1, 0, 2, 3, 4, 5] rfl (by decide)⟩
  case rest =>
    obtain ⟨RE, wla, wlc, wls, vla, vlc, vls, ep, ef, sh, sv, rfl, rfl, rfl, rfl, rfl, hwl, hvl1, hvl2, hwb, hvb, hev, sh1, sh2, sv1, sv2, hst⟩ := hcut
    obtain ⟨u162, rfl⟩ : ∃ u162 : World, u162 = wc := ⟨_, rfl⟩
    have H163 := hid hst
    clear hst
    have HWLwls := hid (show 1 ≤ wls.length ∧ wls.length ≤ 9 from by omega)
    have HWLvls := hid (show 1 ≤ vls.length ∧ vls.length ≤ 9 from by omega)
    have HWBwls := hid hwb
    have HWBvls := hid hvb
    have HEV := hid hev
    clear hwl hwb hvb hev hvl1 hvl2
    have z164 := H163.out.cell 3 rfl 0 rfl
    have z165 := H163.out.cell 3 rfl 1 rfl
    have z166 := H163.out.cell 3 rfl 2 rfl
    have z167 := H163.out.cell 3 rfl 3 rfl
    go_wp2_with fail
    clear z164 z165 z166 z167
    refine (within_any B K1 _ _ _ (by omega) (by omega) (by omega) (by omega) (H163.out.tapeAt 5 rfl)).mono ?_
    rintro e w169 ⟨q168_0, q168_1, q168_2, q168_3, rfl, hq168, ht, hg⟩
    have H170 := hid (H163.out.next 5 rfl ht hg)
    have HWq168 := hid hq168
    clear hq168 ht hg
    obtain ⟨hq0, hq1, hq2, hq3, hq4, hq5⟩ := HWq168.out
    obtain ⟨D171, hD171⟩ : ∃ D, w169.heap.size = D := ⟨_, rfl⟩
    go_upto_region 5 with fail
    have H172 := hid (show St B W [.cells D171 #[.int .i64 q168_0, .int .i64 q168_1, .int .i64 q168_2, .int .i64 q168_3] 33, .own (.slice wla wls.length wlc) wls, .own (.slice vla vls.length vlc) vls, .cells RE #[.int .i64 ep, .int .i64 ef] 38, .cells D7 #[.int .i64 pw4, .int .i64 ph4, .int .i64 pm4, .slice pv4a ps4.length pv4c] 35, .own (.slice pv4a ps4.length pv4c) ps4, .tape K1] [] (w169.alloc (.cells #[.int .i64 q168_0, .int .i64 q168_1, .int .i64 q168_2, .int .i64 q168_3] 33)) from (H170.out.alloc #[.int .i64 q168_0, .int .i64 q168_1, .int .i64 q168_2, .int .i64 q168_3] 33 hD171))
    first | refine gen_code H172.out ?_ | refine gen_list H172.out ?_ | refine gen_calls H172.out ?_
    intro w173 hG
    clear H172
    have H172 := hid hG
    clear hG
    clear hD171
    have z174 := H172.out.cell 4 rfl 0 rfl
    have z175 := H172.out.cell 4 rfl 1 rfl
    have z176 := H172.out.cell 4 rfl 2 rfl
    have z177 := H172.out.cell 4 rfl 3 rfl
    have z178 := H172.out.cell 3 rfl 0 rfl
    have z179 := H172.out.cell 3 rfl 1 rfl
    go_wp2_with fail
    clear z174 z175 z176 z177 z178 z179
    have hp := pOk_iff.1 (pValid_iff.1 HVps4.out).1
    have hmx := HMps4.out
    have HCK183 := hid (show spCode pm4 wls vls sh sv 65535 = 0 from sp_ok (by have := HWLwls.out; omega) (by have := HWLvls.out; omega) (fun i hi => HWBwls.out i) (fun i hi => HWBvls.out i) (by omega) (by omega) (by omega) (by omega))
    have hct := spT_ok HVps4.out (HEV.out) HCK183.out (r0 := 0) (r1 := 0) (r2 := pw4) (r3 := ph4) (by omega)
    refine (stile_any _ _ _ _ _ _ ps4 _ _ _ _ _ wls _ _ _ vls _ _ _ _ _ _ _ _ (H172.out.slc 5 rfl) (H172.out.slc 1 rfl) (H172.out.slc 2 rfl)).mono ?_
    rintro e w180 ⟨v181, rfl, ho, hb⟩
    rw [hct] at ho ⊢
    simp only [tI, tL, if_pos] at ho ⊢
    clear hct hp hmx
    obtain ⟨l184, hl184⟩ : ∃ xx', spL pw4 ph4 ps4 ep ef wls vls sh sv 65535 0 0 pw4 ph4 = xx' := ⟨_, rfl⟩
    rw [hl184] at ho
    have HNl184 := hid hl184
    clear hl184
    rw [Int.sub_zero, Int.sub_zero]
    have H182 := hid (H172.out.grow hb ho)
    obtain ⟨v181a, v181c, rfl, _⟩ := ho.slc
    clear ho hb
    have HVl184 := hid (show pValid pw4 ph4 65535 l184 = true from by rw [← HNl184.out]; exact rG_valid (by omega) (fun x y => clV_bd (by omega)) HVps4.out)
    obtain ⟨D185, hD185⟩ : ∃ D, w180.heap.size = D := ⟨_, rfl⟩
    go_upto_region 6 with fail
    have H186 := hid (show St B W [.cells D185 #[.int .i64 pw4, .int .i64 ph4, .int .i64 65535, .slice v181a l184.length v181c] 35, .own (.slice v181a l184.length v181c) l184, .cells D171 #[.int .i64 q168_0, .int .i64 q168_1, .int .i64 q168_2, .int .i64 q168_3] 33, .own (.slice wla wls.length wlc) wls, .own (.slice vla vls.length vlc) vls, .cells RE #[.int .i64 ep, .int .i64 ef] 38, .cells D7 #[.int .i64 pw4, .int .i64 ph4, .int .i64 pm4, .slice pv4a ps4.length pv4c] 35, .own (.slice pv4a ps4.length pv4c) ps4, .tape K1] [] (w180.alloc (.cells #[.int .i64 pw4, .int .i64 ph4, .int .i64 65535, .slice v181a l184.length v181c] 35)) from (H182.out.alloc #[.int .i64 pw4, .int .i64 ph4, .int .i64 65535, .slice v181a l184.length v181c] 35 hD185))
    first | refine gen_code H186.out ?_ | refine gen_list H186.out ?_ | refine gen_calls H186.out ?_
    intro w187 hG
    clear H186
    have H186 := hid hG
    clear hG
    clear hD185
    have z188 := H186.out.cell 6 rfl 0 rfl
    have z189 := H186.out.cell 6 rfl 1 rfl
    have z190 := H186.out.cell 6 rfl 2 rfl
    have z191 := H186.out.cell 6 rfl 3 rfl
    have z192 := H186.out.cell 5 rfl 0 rfl
    have z193 := H186.out.cell 5 rfl 1 rfl
    have z194 := H186.out.cell 2 rfl 0 rfl
    have z195 := H186.out.cell 2 rfl 1 rfl
    have z196 := H186.out.cell 2 rfl 2 rfl
    have z197 := H186.out.cell 2 rfl 3 rfl
    go_wp2_with fail
    clear z188 z189 z190 z191 z192 z193 z194 z195 z196 z197
    have hp := pOk_iff.1 (pValid_iff.1 HVps4.out).1
    have hmx := HMps4.out
    have HCK201 := hid (show spCode pm4 wls vls sh sv 65535 = 0 from sp_ok (by have := HWLwls.out; omega) (by have := HWLvls.out; omega) (fun i hi => HWBwls.out i) (fun i hi => HWBvls.out i) (by omega) (by omega) (by omega) (by omega))
    have hct := spT_ok HVps4.out (HEV.out) HCK201.out (r0 := q168_0) (r1 := q168_1) (r2 := q168_2) (r3 := q168_3) (by omega)
    refine (stile_any _ _ _ _ _ _ ps4 _ _ _ _ _ wls _ _ _ vls _ _ _ _ _ _ _ _ (H186.out.slc 7 rfl) (H186.out.slc 3 rfl) (H186.out.slc 4 rfl)).mono ?_
    rintro e w198 ⟨v199, rfl, ho, hb⟩
    rw [hct] at ho ⊢
    simp only [tI, tL, if_pos] at ho ⊢
    clear hct hp hmx
    obtain ⟨l202, hl202⟩ : ∃ xx', spL pw4 ph4 ps4 ep ef wls vls sh sv 65535 q168_0 q168_1 q168_2 q168_3 = xx' := ⟨_, rfl⟩
    rw [hl202] at ho
    have HNl202 := hid hl202
    clear hl202
    obtain ⟨t203, ht203⟩ : ∃ xx', q168_2 - q168_0 = xx' := ⟨_, rfl⟩
    rw [ht203]
    have HNt203 := hid ht203
    clear ht203
    obtain ⟨t204, ht204⟩ : ∃ xx', q168_3 - q168_1 = xx' := ⟨_, rfl⟩
    rw [ht204]
    have HNt204 := hid ht204
    clear ht204
    have H200 := hid (H186.out.grow hb ho)
    obtain ⟨v199a, v199c, rfl, _⟩ := ho.slc
    clear ho hb
    obtain ⟨D205, hD205⟩ : ∃ D, w198.heap.size = D := ⟨_, rfl⟩
    go_upto_region 7 with fail
    have H206 := hid (show St B W [.cells D205 #[.int .i64 t203, .int .i64 t204, .int .i64 65535, .slice v199a l202.length v199c] 35, .own (.slice v199a l202.length v199c) l202, .cells D185 #[.int .i64 pw4, .int .i64 ph4, .int .i64 65535, .slice v181a l184.length v181c] 35, .own (.slice v181a l184.length v181c) l184, .cells D171 #[.int .i64 q168_0, .int .i64 q168_1, .int .i64 q168_2, .int .i64 q168_3] 33, .own (.slice wla wls.length wlc) wls, .own (.slice vla vls.length vlc) vls, .cells RE #[.int .i64 ep, .int .i64 ef] 38, .cells D7 #[.int .i64 pw4, .int .i64 ph4, .int .i64 pm4, .slice pv4a ps4.length pv4c] 35, .own (.slice pv4a ps4.length pv4c) ps4, .tape K1] [] (w198.alloc (.cells #[.int .i64 t203, .int .i64 t204, .int .i64 65535, .slice v199a l202.length v199c] 35)) from (H200.out.alloc #[.int .i64 t203, .int .i64 t204, .int .i64 65535, .slice v199a l202.length v199c] 35 hD205))
    first | refine gen_code H206.out ?_ | refine gen_list H206.out ?_ | refine gen_calls H206.out ?_
    intro w207 hG
    clear H206
    have H206 := hid hG
    clear hG
    clear hD205
    have z208 := H206.out.cell 2 rfl 0 rfl
    have z209 := H206.out.cell 2 rfl 1 rfl
    have z210 := H206.out.cell 2 rfl 2 rfl
    have z211 := H206.out.cell 2 rfl 3 rfl
    have z212 := H206.out.cell 4 rfl 0 rfl
    have z213 := H206.out.cell 4 rfl 1 rfl
    have z214 := H206.out.cell 4 rfl 2 rfl
    have z215 := H206.out.cell 4 rfl 3 rfl
    go_wp2_with fail
    clear z208 z209 z210 z211 z212 z213 z214 z215
    refine (qcrop_any _ _ _ _ _ _ l184 _ _ _ _ _ (H206.out.slc 3 rfl)).mono ?_
    rintro e w216 ⟨v217, rfl, ho, hb⟩
    have hcv := crop_ok HVl184.out HWq168.out
    have hci : ∀ z, cIf pw4 ph4 65535 l184 q168_0 q168_1 q168_2 q168_3 z = z := fun z => by unfold cIf; rw [if_pos hcv]
    have hcl : cList pw4 ph4 65535 l184 q168_0 q168_1 q168_2 q168_3 = l202 := by unfold cList; rw [if_pos hcv, ← HNl184.out, ← HNl202.out]; exact cAll_rG _ HWq168.out
    simp only [hci, hcv]
    rw [hcl] at ho
    clear hci hcl hcv
    rw [HNt203.out]
    rw [HNt204.out]
    have H218 := hid (H206.out.grow hb ho)
    obtain ⟨v217a, v217c, rfl, _⟩ := ho.slc
    clear ho hb
    obtain ⟨D219, hD219⟩ : ∃ D, w216.heap.size = D := ⟨_, rfl⟩
    go_upto_region 8 with fail
    have H220 := hid (show St B W [.cells D219 #[.int .i64 t203, .int .i64 t204, .int .i64 65535, .slice v217a l202.length v217c] 35, .own (.slice v217a l202.length v217c) l202, .cells D205 #[.int .i64 t203, .int .i64 t204, .int .i64 65535, .slice v199a l202.length v199c] 35, .own (.slice v199a l202.length v199c) l202, .cells D185 #[.int .i64 pw4, .int .i64 ph4, .int .i64 65535, .slice v181a l184.length v181c] 35, .own (.slice v181a l184.length v181c) l184, .cells D171 #[.int .i64 q168_0, .int .i64 q168_1, .int .i64 q168_2, .int .i64 q168_3] 33, .own (.slice wla wls.length wlc) wls, .own (.slice vla vls.length vlc) vls, .cells RE #[.int .i64 ep, .int .i64 ef] 38, .cells D7 #[.int .i64 pw4, .int .i64 ph4, .int .i64 pm4, .slice pv4a ps4.length pv4c] 35, .own (.slice pv4a ps4.length pv4c) ps4, .tape K1] [] (w216.alloc (.cells #[.int .i64 t203, .int .i64 t204, .int .i64 65535, .slice v217a l202.length v217c] 35)) from (H218.out.alloc #[.int .i64 t203, .int .i64 t204, .int .i64 65535, .slice v217a l202.length v217c] 35 hD219))
    first | refine gen_code H220.out ?_ | refine gen_list H220.out ?_ | refine gen_calls H220.out ?_
    intro w221 hG
    clear H220
    have H220 := hid hG
    clear hG
    clear hD219
    have z222 := H220.out.cell 2 rfl 0 rfl
    have z223 := H220.out.cell 2 rfl 1 rfl
    have z224 := H220.out.cell 2 rfl 2 rfl
    have z225 := H220.out.cell 2 rfl 3 rfl
    have z226 := H220.out.cell 0 rfl 0 rfl
    have z227 := H220.out.cell 0 rfl 1 rfl
    have z228 := H220.out.cell 0 rfl 2 rfl
    have z229 := H220.out.cell 0 rfl 3 rfl
    go_wp2_with fail
    clear z222 z223 z224 z225 z226 z227 z228 z229
    refine (qequal_any _ _ _ _ _ _ l202 _ _ _ _ _ _ l202 _ (H220.out.slc 3 rfl) (H220.out.slc 1 rfl)).mono ?_
    rintro e w230 ⟨rfl, hb⟩
    have H231 := hid (H220.out.call hb)
    clear hb
    rw [show pEq t203 t204 65535 l202 t203 t204 65535 l202 = true from by simp [pEq]]
    go_wp2_with fail
    refine (sane10 _).mono ?_
    rintro e w232 ⟨rfl, hb⟩
    have H233 := hid (H231.out.call hb)
    clear hb
    go_wp2_with fail
    go_ret
    exact ⟨rfl, by first | exact H233.out.below | exact H233.out.below'⟩
end Go.Proofs.Ytkpdahjddjdgcaa
