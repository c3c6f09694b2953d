/-
  The walk of SeparableDense: rows and columns without a shift in between are the dense kernel of the products.
-/
import Derived.Test.YtkpdahjddjdgcaaSane10
import Derived.Test.YtkpdahjddjdgcaaSpDense
import Derived.Test.YtkpdahjddjdgcaaCvTile
import Derived.Test.YtkpdahjddjdgcaaWeights
import Derived.Test.YtkpdahjddjdgcaaEdgeOk
import Derived.Test.YtkpdahjddjdgcaaKX
namespace Go.Proofs.Ytkpdahjddjdgcaa
open Go.RowKit
attribute [local go_sem ↓] Go.wp_at_zero Go.wp_at_succ
set_option linter.unusedVariables false
set_option linter.unusedSimpArgs false

set_option maxRecDepth 100000 in
set_option maxHeartbeats 12800000 in
theorem walk_SeparableDense (a : Option Addr) (n c : Nat) (zs : List Int) (W : World) (hr : RowIn .i64 W a n c zs) :
    Calls Try.prog 15 #[.slice a n c] W fun e w' => e = .returned (.bool true) ∧ Below W.heap.size W w' := by
  obtain ⟨B, hB⟩ : ∃ B, W.heap.size = B := ⟨_, rfl⟩
  have HI0 := hid (St.init hB)
  have HN := hid (nearRow hr hB)
  have HR := hid hr
  clear hr
  go_enter Try.func15, Try.ntmps15
  go_wp2_with fail
  obtain ⟨K1, hK1⟩ : ∃ D, W.heap.size = D := ⟨_, rfl⟩
  refine (newB_any B _ _ _ _ _ HR.out.len (HI0.out.oldRow HR.out.row) HN.out HI0.out.size).mono ?_
  rintro e w2 ⟨rfl, ht, hb, hs⟩
  rw [hK1] at ht ⊢
  have H3 := hid (HI0.out.newTape ht hb hK1)
  clear ht hb hs hK1
  go_wp2_with fail
  refine (plane_any B K1 _ (H3.out.tapeAt 0 rfl)).mono ?_
  rintro e w5 ⟨pw4, ph4, pw41, pw42, ph41, ph42, pm4, pv4, ps4, rfl, hv, hm, ho, ht, hg⟩
  have H6 := hid (H3.out.add (H3.out.next 0 rfl ht hg) ho)
  have HVps4 := hid hv
  have HMps4 := hid hm
  obtain ⟨pv4a, pv4c, rfl, _⟩ := ho.slc
  clear hv hm ho ht hg
  obtain ⟨D7, hD7⟩ : ∃ D, w5.heap.size = D := ⟨_, rfl⟩
  go_upto_region 3 with fail
  have H8 := hid (show St B W [.cells D7 #[.int .i64 pw4, .int .i64 ph4, .int .i64 pm4, .slice pv4a ps4.length pv4c] 35, .own (.slice pv4a ps4.length pv4c) ps4, .tape K1] [] (w5.alloc (.cells #[.int .i64 pw4, .int .i64 ph4, .int .i64 pm4, .slice pv4a ps4.length pv4c] 35)) from (H6.out.alloc #[.int .i64 pw4, .int .i64 ph4, .int .i64 pm4, .slice pv4a ps4.length pv4c] 35 hD7))
  first | refine gen_code H8.out ?_ | refine gen_list H8.out ?_ | refine gen_calls H8.out ?_
  intro w9 hG
  clear H8
  have H8 := hid hG
  clear hG
  clear hD7
  have hmb := HMps4.out
  obtain ⟨_, _, _, _, _, hm1, _⟩ := pOk_iff.1 (pValid_iff.1 HVps4.out).1
  go_cut [5, 6, 7, 8] (fun s s1 s2 s3 wx => ∃ (RE : Nat) (wla : Option Addr) (wlc : Nat) (wls : List Int) (vla : Option Addr) (vlc : Nat) (vls : List Int) (ep ef sh : Int), s = .slice wla wls.length wlc ∧ s1 = .slice vla vls.length vlc ∧ s2 = .pointer (some ⟨RE, 0, none⟩) ∧ s3 = .int .i64 sh ∧ 1 ≤ wls.length ∧ wls.length ≤ 9 ∧ 1 ≤ vls.length ∧ vls.length ≤ 9 ∧ (∀ i, -20 ≤ wls.getD i 0 ∧ wls.getD i 0 ≤ 20) ∧ (∀ i, -20 ≤ vls.getD i 0 ∧ vls.getD i 0 ≤ 20) ∧ bValid ep ef pm4 = true ∧ 0 ≤ sh ∧ sh ≤ 6 ∧ St B W [.own (.slice wla wls.length wlc) wls, .own (.slice vla vls.length vlc) vls, .cells RE #[.int .i64 ep, .int .i64 ef] 38, .cells D7 #[.int .i64 pw4, .int .i64 ph4, .int .i64 pm4, .slice pv4a ps4.length pv4c] 35, .own (.slice pv4a ps4.length pv4c) ps4, .tape K1] [] wx)
  case first =>
    go_upto_region 3 with fail
    have H10 := hid H8.out.drew
    refine wp_region_held_drew (S := (fun w' => w'.cell? ⟨D7, 0, none⟩ = some (.int .i64 pw4) ∧ w'.cell? ⟨D7, 1, none⟩ = some (.int .i64 ph4) ∧ w'.cell? ⟨D7, 2, none⟩ = some (.int .i64 pm4) ∧ w'.cell? ⟨D7, 3, none⟩ = some (.slice pv4a ps4.length pv4c))) (by kernel_rfl) ⟨H10.out.cell 0 rfl 0 rfl, H10.out.cell 0 rfl 1 rfl, H10.out.cell 0 rfl 2 rfl, H10.out.cell 0 rfl 3 rfl⟩ (fun hHeld => ?_)
    generalize w9.drew = k11 at *
    refine wpAnyH_take (i := 0) (oi := _) (v := ?_) rfl (by kernel_rfl) (by kernel_rfl) (by kernel_rfl) (fun _ _ _ h => h) (Or.inl ⟨by rfl, ?_⟩) (by assumption) ?_
    rotate_left
    focus (intro wS hSw; (try dsimp only at hSw); go_simp; (try with_reducible rfl))
    try simp only [Act.put, List.getElem_toArray, List.getElem_cons_zero, List.getElem_cons_succ, List.setIfInBounds_toArray, List.set_cons_zero, List.set_cons_succ]
    refine wpAnyH_take (i := 1) (oi := _) (v := ?_) rfl (by kernel_rfl) (by kernel_rfl) (by kernel_rfl) (fun _ _ _ h => h) (Or.inl ⟨by rfl, ?_⟩) (by assumption) ?_
    rotate_left
    focus (intro wS hSw; (try dsimp only at hSw); go_simp; (try with_reducible rfl))
    try simp only [Act.put, List.getElem_toArray, List.getElem_cons_zero, List.getElem_cons_succ, List.setIfInBounds_toArray, List.set_cons_zero, List.set_cons_succ]
    refine wpAnyH_take (i := 5) (oi := _) (v := ?_) rfl (by kernel_rfl) (by kernel_rfl) (by kernel_rfl) (fun _ _ _ h => h) (Or.inl ⟨by rfl, ?_⟩) (by assumption) ?_
    rotate_left
    focus (intro wS hSw; (try dsimp only at hSw); go_simp; (try with_reducible rfl))
    try simp only [Act.put, List.getElem_toArray, List.getElem_cons_zero, List.getElem_cons_succ, List.setIfInBounds_toArray, List.set_cons_zero, List.set_cons_succ]
    refine wpAnyH_take (i := 6) (oi := _) (v := ?_) rfl (by kernel_rfl) (by kernel_rfl) (by kernel_rfl) (fun _ _ _ h => h) (Or.inl ⟨by rfl, ?_⟩) (by assumption) ?_
    rotate_left
    focus (intro wS hSw; (try dsimp only at hSw); go_simp; (try with_reducible rfl))
    try simp only [Act.put, List.getElem_toArray, List.getElem_cons_zero, List.getElem_cons_succ, List.setIfInBounds_toArray, List.set_cons_zero, List.set_cons_succ]
    refine wpAnyH_take (i := 10) (oi := _) (v := ?_) rfl (by kernel_rfl) (by kernel_rfl) (by kernel_rfl) (fun _ _ _ h => h) (Or.inl ⟨by rfl, ?_⟩) (by assumption) ?_
    rotate_left
    focus (intro wS hSw; (try dsimp only at hSw); go_simp; (try with_reducible rfl))
    try simp only [Act.put, List.getElem_toArray, List.getElem_cons_zero, List.getElem_cons_succ, List.setIfInBounds_toArray, List.set_cons_zero, List.set_cons_succ]
    refine wpAnyH_take (i := 11) (oi := _) (v := ?_) rfl (by kernel_rfl) (by kernel_rfl) (by kernel_rfl) (fun _ _ _ h => h) (Or.inl ⟨by rfl, ?_⟩) (by assumption) ?_
    rotate_left
    focus (intro wS hSw; (try dsimp only at hSw); go_simp; (try with_reducible rfl))
    try simp only [Act.put, List.getElem_toArray, List.getElem_cons_zero, List.getElem_cons_succ, List.setIfInBounds_toArray, List.set_cons_zero, List.set_cons_succ]
    refine wpAnyH_take (i := 12) (oi := _) (v := ?_) rfl (by kernel_rfl) (by kernel_rfl) (by kernel_rfl) (fun _ _ _ h => h) (Or.inl ⟨by rfl, ?_⟩) (by assumption) ?_
    rotate_left
    focus (intro wS hSw; (try dsimp only at hSw); go_simp; (try with_reducible rfl))
    try simp only [Act.put, List.getElem_toArray, List.getElem_cons_zero, List.getElem_cons_succ, List.setIfInBounds_toArray, List.set_cons_zero, List.set_cons_succ]
    refine wpAnyH_take (i := 14) (oi := _) (v := ?_) rfl (by kernel_rfl) (by kernel_rfl) (by kernel_rfl) (fun _ _ _ h => h) (Or.inl ⟨by rfl, ?_⟩) (by assumption) ?_
    rotate_left
    focus (intro wS hSw; (try dsimp only at hSw); go_simp; (try with_reducible rfl))
    try simp only [Act.put, List.getElem_toArray, List.getElem_cons_zero, List.getElem_cons_succ, List.setIfInBounds_toArray, List.set_cons_zero, List.set_cons_succ]
    refine wpAnyH_ready (rs := [2, 16]) (by kernel_rfl) (by simp) (AllReadyH.cons (o := _) rfl (fun K hK => ?_) (AllReadyH.cons (o := _) rfl (fun K hK => ?_) AllReadyH.nil))
    · go_simp
      go_at_call 18
      refine (nextB_any B K1 _ _ (by omega) (H10.out.tapeAt 2 rfl)).mono ?_
      rintro e w13 ⟨x12, rfl, x12a, x12b, htn, hgn, hsn⟩
      have H14 := hid (H10.out.next 2 rfl htn hgn)
      clear htn hgn hsn
      have wnx12 : IntKind.i64.wrap (1 + x12) = 1 + x12 := IntWalk.i64_in _ (by omega)
      refine hK.out _ _ ?_ (fun hHeld2 => ?_)
      focus ((try dsimp only); (exact ⟨H14.out.cell 0 rfl 0 rfl, H14.out.cell 0 rfl 1 rfl, H14.out.cell 0 rfl 2 rfl, H14.out.cell 0 rfl 3 rfl⟩))
      clear hK K
      try simp only [Act.put, List.getElem_toArray, List.getElem_cons_zero, List.getElem_cons_succ, List.setIfInBounds_toArray, List.set_cons_zero, List.set_cons_succ]
      clear hHeld
      have hHeld := hHeld2
      clear hHeld2
      refine wpAnyH_take (i := 3) (oi := _) (v := ?_) rfl (by kernel_rfl) (by kernel_rfl) (by kernel_rfl) (fun _ _ _ h => h) (Or.inl ⟨by rfl, ?_⟩) (by assumption) ?_
      rotate_left
      focus (intro wS hSw; (try dsimp only at hSw); go_simp; (try with_reducible rfl))
      try simp only [Act.put, List.getElem_toArray, List.getElem_cons_zero, List.getElem_cons_succ, List.setIfInBounds_toArray, List.set_cons_zero, List.set_cons_succ]
      refine wpAnyH_ready (rs := [4, 16]) (by kernel_rfl) (by simp) (AllReadyH.cons (o := _) rfl (fun K hK => ?_) (AllReadyH.cons (o := _) rfl (fun K hK => ?_) AllReadyH.nil))
      · go_simp
        go_at_call 19
        refine (weights_any B K1 _ _ (by omega) (H14.out.tapeAt 2 rfl)).mono ?_
        rintro e w15 ⟨wv16, wl17, rfl, hlen, hin, ho, ht, hg⟩
        have H18 := hid (H14.out.add (H14.out.next 2 rfl ht hg) ho)
        have HWLwl17 := hid hlen
        have HWBwl17 := hid hin
        obtain ⟨wv16a, wv16c, rfl, _⟩ := ho.slc
        clear hlen hin ho ht hg
        refine hK.out _ _ ?_ (fun hHeld2 => ?_)
        focus ((try dsimp only); (exact ⟨H18.out.cell 1 rfl 0 rfl, H18.out.cell 1 rfl 1 rfl, H18.out.cell 1 rfl 2 rfl, H18.out.cell 1 rfl 3 rfl⟩))
        clear hK K
        try simp only [Act.put, List.getElem_toArray, List.getElem_cons_zero, List.getElem_cons_succ, List.setIfInBounds_toArray, List.set_cons_zero, List.set_cons_succ]
        clear hHeld
        have hHeld := hHeld2
        clear hHeld2
        refine wpAnyH_ready (rs := [7, 16]) (by kernel_rfl) (by simp) (AllReadyH.cons (o := _) rfl (fun K hK => ?_) (AllReadyH.cons (o := _) rfl (fun K hK => ?_) AllReadyH.nil))
        · go_simp
          go_at_call 18
          refine (nextB_any B K1 _ _ (by omega) (H18.out.tapeAt 3 rfl)).mono ?_
          rintro e w20 ⟨x19, rfl, x19a, x19b, htn, hgn, hsn⟩
          have H21 := hid (H18.out.next 3 rfl htn hgn)
          clear htn hgn hsn
          have wnx19 : IntKind.i64.wrap (1 + x19) = 1 + x19 := IntWalk.i64_in _ (by omega)
          refine hK.out _ _ ?_ (fun hHeld2 => ?_)
          focus ((try dsimp only); (exact ⟨H21.out.cell 1 rfl 0 rfl, H21.out.cell 1 rfl 1 rfl, H21.out.cell 1 rfl 2 rfl, H21.out.cell 1 rfl 3 rfl⟩))
          clear hK K
          try simp only [Act.put, List.getElem_toArray, List.getElem_cons_zero, List.getElem_cons_succ, List.setIfInBounds_toArray, List.set_cons_zero, List.set_cons_succ]
          clear hHeld
          have hHeld := hHeld2
          clear hHeld2
          refine wpAnyH_take (i := 8) (oi := _) (v := ?_) rfl (by kernel_rfl) (by kernel_rfl) (by kernel_rfl) (fun _ _ _ h => h) (Or.inl ⟨by rfl, ?_⟩) (by assumption) ?_
          rotate_left
          focus (intro wS hSw; (try dsimp only at hSw); go_simp; (try with_reducible rfl))
          try simp only [Act.put, List.getElem_toArray, List.getElem_cons_zero, List.getElem_cons_succ, List.setIfInBounds_toArray, List.set_cons_zero, List.set_cons_succ]
          refine wpAnyH_ready (rs := [9, 16]) (by kernel_rfl) (by simp) (AllReadyH.cons (o := _) rfl (fun K hK => ?_) (AllReadyH.cons (o := _) rfl (fun K hK => ?_) AllReadyH.nil))
          · go_simp
            go_at_call 19
            refine (weights_any B K1 _ _ (by omega) (H21.out.tapeAt 3 rfl)).mono ?_
            rintro e w22 ⟨wv23, wl24, rfl, hlen, hin, ho, ht, hg⟩
            have H25 := hid (H21.out.add (H21.out.next 3 rfl ht hg) ho)
            have HWLwl24 := hid hlen
            have HWBwl24 := hid hin
            obtain ⟨wv23a, wv23c, rfl, _⟩ := ho.slc
            clear hlen hin ho ht hg
            refine hK.out _ _ ?_ (fun hHeld2 => ?_)
            focus ((try dsimp only); (exact ⟨H25.out.cell 2 rfl 0 rfl, H25.out.cell 2 rfl 1 rfl, H25.out.cell 2 rfl 2 rfl, H25.out.cell 2 rfl 3 rfl⟩))
            clear hK K
            try simp only [Act.put, List.getElem_toArray, List.getElem_cons_zero, List.getElem_cons_succ, List.setIfInBounds_toArray, List.set_cons_zero, List.set_cons_succ]
            clear hHeld
            have hHeld := hHeld2
            clear hHeld2
            refine wpAnyH_ready (rs := [13, 16]) (by kernel_rfl) (by simp) (AllReadyH.cons (o := _) rfl (fun K hK => ?_) (AllReadyH.cons (o := _) rfl (fun K hK => ?_) AllReadyH.nil))
            · go_simp
              go_at_call 25
              refine (edgeok_any B K1 _ _ (by omega) (H25.out.tapeAt 4 rfl)).mono ?_
              rintro e w27 ⟨e26_0, e26_1, rfl, hev, ht, hg⟩
              have H28 := hid (H25.out.next 4 rfl ht hg)
              have HEe26 := hid hev
              clear ht hg hev
              refine hK.out _ _ ?_ (fun hHeld2 => ?_)
              focus ((try dsimp only); (exact ⟨H28.out.cell 2 rfl 0 rfl, H28.out.cell 2 rfl 1 rfl, H28.out.cell 2 rfl 2 rfl, H28.out.cell 2 rfl 3 rfl⟩))
              clear hK K
              try simp only [Act.put, List.getElem_toArray, List.getElem_cons_zero, List.getElem_cons_succ, List.setIfInBounds_toArray, List.set_cons_zero, List.set_cons_succ]
              clear hHeld
              have hHeld := hHeld2
              clear hHeld2
              refine wpAnyH_ready (rs := [15, 16]) (by kernel_rfl) (by simp) (AllReadyH.cons (o := _) rfl (fun K hK => ?_) (AllReadyH.cons (o := _) rfl (fun K hK => ?_) AllReadyH.nil))
              · go_simp
                go_at_call 18
                refine (nextB_any B K1 _ _ (by omega) (H28.out.tapeAt 4 rfl)).mono ?_
                rintro e w30 ⟨x29, rfl, x29a, x29b, htn, hgn, hsn⟩
                have H31 := hid (H28.out.next 4 rfl htn hgn)
                clear htn hgn hsn
                refine hK.out _ _ ?_ (fun hHeld2 => ?_)
                focus ((try dsimp only); (exact ⟨H31.out.cell 2 rfl 0 rfl, H31.out.cell 2 rfl 1 rfl, H31.out.cell 2 rfl 2 rfl, H31.out.cell 2 rfl 3 rfl⟩))
                clear hK K
                try simp only [Act.put, List.getElem_toArray, List.getElem_cons_zero, List.getElem_cons_succ, List.setIfInBounds_toArray, List.set_cons_zero, List.set_cons_succ]
                clear hHeld
                have hHeld := hHeld2
                clear hHeld2
                refine wpAnyH_ready (rs := [16]) (by kernel_rfl) (by simp) (AllReadyH.cons (o := _) rfl (fun K hK => ?_) AllReadyH.nil)
                obtain ⟨D32, hD32⟩ : ∃ D, w30.heap.size = D := ⟨_, rfl⟩
                have H33 := hid (H31.out.alloc #[.int .i64 0, .int .i64 0] 38 hD32)
                go_simp
                refine hK.out _ _ ?_ (fun hHeld2 => ?_)
                focus ((try dsimp only); (exact ⟨H33.out.cell 3 rfl 0 rfl, H33.out.cell 3 rfl 1 rfl, H33.out.cell 3 rfl 2 rfl, H33.out.cell 3 rfl 3 rfl⟩))
                clear hK K hHeld
                try simp only [Act.put, List.getElem_toArray, List.getElem_cons_zero, List.getElem_cons_succ, List.setIfInBounds_toArray, List.set_cons_zero, List.set_cons_succ]
                clear hD32
                generalize (w30.alloc (.cells #[.int .i64 0, .int .i64 0] 38)) = k34 at *
                have hHeld := hHeld2
                clear hHeld2
                refine wpAnyH_take (i := 17) (oi := _) (v := ?_) rfl (by kernel_rfl) (by kernel_rfl) (by kernel_rfl) (fun _ _ _ h => h) (Or.inl ⟨by rfl, ?_⟩) (by assumption) ?_
                rotate_left
                focus (intro wS hSw; (try dsimp only at hSw); go_simp; (try with_reducible rfl))
                try simp only [Act.put, List.getElem_toArray, List.getElem_cons_zero, List.getElem_cons_succ, List.setIfInBounds_toArray, List.set_cons_zero, List.set_cons_succ]
                refine wpAnyH_take (i := 18) (oi := _) (v := ?_) rfl (by kernel_rfl) (by kernel_rfl) (by kernel_rfl) (fun _ _ _ h => h) (Or.inl ⟨by rfl, ?_⟩) (by assumption) ?_
                rotate_left
                focus (intro wS hSw; (try dsimp only at hSw); go_simp; (try with_reducible rfl))
                try simp only [Act.put, List.getElem_toArray, List.getElem_cons_zero, List.getElem_cons_succ, List.setIfInBounds_toArray, List.set_cons_zero, List.set_cons_succ]
                refine wpAnyH_ready (rs := [19]) (by kernel_rfl) (by simp) (AllReadyH.cons (o := _) rfl (fun K hK => ?_) AllReadyH.nil)
                have z35 := H33.out.cell 0 rfl 0 rfl
                have z36 := H33.out.free 0 rfl 0
                have z37 := H33.out.cell 0 rfl 1 rfl
                have z38 := H33.out.free 0 rfl 1
                have H39 := hid (show St B W [.cells D32 #[.int .i64 e26_0, .int .i64 e26_1] 38, .own (.slice wv23a wl24.length wv23c) wl24, .own (.slice wv16a wl17.length wv16c) wl17, .cells D7 #[.int .i64 pw4, .int .i64 ph4, .int .i64 pm4, .slice pv4a ps4.length pv4c] 35, .own (.slice pv4a ps4.length pv4c) ps4, .tape K1] [] ((k34.setCell ⟨D32, 0, none⟩ (.int .i64 e26_0)).setCell ⟨D32, 1, none⟩ (.int .i64 e26_1)) from ((H33.out.set 0 rfl 0 (.int .i64 e26_0)).set 0 rfl 1 (.int .i64 e26_1)))
                go_simp
                refine hK.out _ _ ?_ (fun hHeld2 => ?_)
                focus ((try dsimp only); (exact ⟨H39.out.cell 3 rfl 0 rfl, H39.out.cell 3 rfl 1 rfl, H39.out.cell 3 rfl 2 rfl, H39.out.cell 3 rfl 3 rfl⟩))
                clear hK K hHeld
                try simp only [Act.put, List.getElem_toArray, List.getElem_cons_zero, List.getElem_cons_succ, List.setIfInBounds_toArray, List.set_cons_zero, List.set_cons_succ]
                clear z35 z36 z37 z38
                generalize ((k34.setCell ⟨D32, 0, none⟩ (.int .i64 e26_0)).setCell ⟨D32, 1, none⟩ (.int .i64 e26_1)) = k40 at *
                have hHeld := hHeld2
                clear hHeld2
                refine wpAnyH_take (i := 20) (oi := _) (v := ?_) rfl (by kernel_rfl) (by kernel_rfl) (by kernel_rfl) (fun _ _ _ h => h) (Or.inl ⟨by rfl, ?_⟩) (by assumption) ?_
                rotate_left
                focus (intro wS hSw; (try dsimp only at hSw); go_simp; (try with_reducible rfl))
                try simp only [Act.put, List.getElem_toArray, List.getElem_cons_zero, List.getElem_cons_succ, List.setIfInBounds_toArray, List.set_cons_zero, List.set_cons_succ]
                refine wpAnyH_done (by kernel_rfl) ?_ _
                try clear hHeld
                go_wp2_with fail
                go_meet
                exact ⟨D32, _, _, _, _, _, _, _, _, _, rfl, rfl, rfl, rfl, by have := HWLwl17.out; omega, by have := HWLwl17.out; omega, by have := HWLwl24.out; omega, by have := HWLwl24.out; omega, HWBwl17.out, HWBwl24.out, HEe26.out, by omega, by omega, H39.out.pick [2, 1, 0, 3, 4, 5] rfl (by decide)⟩
              · obtain ⟨D41, hD41⟩ : ∃ D, w27.heap.size = D := ⟨_, rfl⟩
                have H42 := hid (H28.out.alloc #[.int .i64 0, .int .i64 0] 38 hD41)
                go_simp
                refine hK.out _ _ ?_ (fun hHeld2 => ?_)
                focus ((try dsimp only); (exact ⟨H42.out.cell 3 rfl 0 rfl, H42.out.cell 3 rfl 1 rfl, H42.out.cell 3 rfl 2 rfl, H42.out.cell 3 rfl 3 rfl⟩))
                clear hK K hHeld
                try simp only [Act.put, List.getElem_toArray, List.getElem_cons_zero, List.getElem_cons_succ, List.setIfInBounds_toArray, List.set_cons_zero, List.set_cons_succ]
                clear hD41
                generalize (w27.alloc (.cells #[.int .i64 0, .int .i64 0] 38)) = k43 at *
                have hHeld := hHeld2
                clear hHeld2
                refine wpAnyH_ready (rs := [15]) (by kernel_rfl) (by simp) (AllReadyH.cons (o := _) rfl (fun K hK => ?_) AllReadyH.nil)
                go_simp
                go_at_call 18
                refine (nextB_any B K1 _ _ (by omega) (H42.out.tapeAt 5 rfl)).mono ?_
                rintro e w45 ⟨x44, rfl, x44a, x44b, htn, hgn, hsn⟩
                have H46 := hid (H42.out.next 5 rfl htn hgn)
                clear htn hgn hsn
                refine hK.out _ _ ?_ (fun hHeld2 => ?_)
                focus ((try dsimp only); (exact ⟨H46.out.cell 3 rfl 0 rfl, H46.out.cell 3 rfl 1 rfl, H46.out.cell 3 rfl 2 rfl, H46.out.cell 3 rfl 3 rfl⟩))
                clear hK K
                try simp only [Act.put, List.getElem_toArray, List.getElem_cons_zero, List.getElem_cons_succ, List.setIfInBounds_toArray, List.set_cons_zero, List.set_cons_succ]
                clear hHeld
                have hHeld := hHeld2
                clear hHeld2
                refine wpAnyH_take (i := 17) (oi := _) (v := ?_) rfl (by kernel_rfl) (by kernel_rfl) (by kernel_rfl) (fun _ _ _ h => h) (Or.inl ⟨by rfl, ?_⟩) (by assumption) ?_
                rotate_left
                focus (intro wS hSw; (try dsimp only at hSw); go_simp; (try with_reducible rfl))
                try simp only [Act.put, List.getElem_toArray, List.getElem_cons_zero, List.getElem_cons_succ, List.setIfInBounds_toArray, List.set_cons_zero, List.set_cons_succ]
                refine wpAnyH_take (i := 18) (oi := _) (v := ?_) rfl (by kernel_rfl) (by kernel_rfl) (by kernel_rfl) (fun _ _ _ h => h) (Or.inl ⟨by rfl, ?_⟩) (by assumption) ?_
                rotate_left
                focus (intro wS hSw; (try dsimp only at hSw); go_simp; (try with_reducible rfl))
                try simp only [Act.put, List.getElem_toArray, List.getElem_cons_zero, List.getElem_cons_succ, List.setIfInBounds_toArray, List.set_cons_zero, List.set_cons_succ]
                refine wpAnyH_ready (rs := [19]) (by kernel_rfl) (by simp) (AllReadyH.cons (o := _) rfl (fun K hK => ?_) AllReadyH.nil)
                have z47 := H46.out.cell 0 rfl 0 rfl
                have z48 := H46.out.free 0 rfl 0
                have z49 := H46.out.cell 0 rfl 1 rfl
                have z50 := H46.out.free 0 rfl 1
                have H51 := hid (show St B W [.cells D41 #[.int .i64 e26_0, .int .i64 e26_1] 38, .own (.slice wv23a wl24.length wv23c) wl24, .own (.slice wv16a wl17.length wv16c) wl17, .cells D7 #[.int .i64 pw4, .int .i64 ph4, .int .i64 pm4, .slice pv4a ps4.length pv4c] 35, .own (.slice pv4a ps4.length pv4c) ps4, .tape K1] [] ((w45.setCell ⟨D41, 0, none⟩ (.int .i64 e26_0)).setCell ⟨D41, 1, none⟩ (.int .i64 e26_1)) from ((H46.out.set 0 rfl 0 (.int .i64 e26_0)).set 0 rfl 1 (.int .i64 e26_1)))
                go_simp
                refine hK.out _ _ ?_ (fun hHeld2 => ?_)
                focus ((try dsimp only); (exact ⟨H51.out.cell 3 rfl 0 rfl, H51.out.cell 3 rfl 1 rfl, H51.out.cell 3 rfl 2 rfl, H51.out.cell 3 rfl 3 rfl⟩))
                clear hK K hHeld
                try simp only [Act.put, List.getElem_toArray, List.getElem_cons_zero, List.getElem_cons_succ, List.setIfInBounds_toArray, List.set_cons_zero, List.set_cons_succ]
                clear z47 z48 z49 z50
                generalize ((w45.setCell ⟨D41, 0, none⟩ (.int .i64 e26_0)).setCell ⟨D41, 1, none⟩ (.int .i64 e26_1)) = k52 at *
                have hHeld := hHeld2
                clear hHeld2
                refine wpAnyH_take (i := 20) (oi := _) (v := ?_) rfl (by kernel_rfl) (by kernel_rfl) (by kernel_rfl) (fun _ _ _ h => h) (Or.inl ⟨by rfl, ?_⟩) (by assumption) ?_
                rotate_left
                focus (intro wS hSw; (try dsimp only at hSw); go_simp; (try with_reducible rfl))
                try simp only [Act.put, List.getElem_toArray, List.getElem_cons_zero, List.getElem_cons_succ, List.setIfInBounds_toArray, List.set_cons_zero, List.set_cons_succ]
                refine wpAnyH_done (by kernel_rfl) ?_ _
                try clear hHeld
                go_wp2_with fail
                go_meet
                exact ⟨D41, _, _, _, _, _, _, _, _, _, rfl, rfl, rfl, rfl, by have := HWLwl17.out; omega, by have := HWLwl17.out; omega, by have := HWLwl24.out; omega, by have := HWLwl24.out; omega, HWBwl17.out, HWBwl24.out, HEe26.out, by omega, by omega, H51.out.pick [2, 1, 0, 3, 4, 5] rfl (by decide)⟩
            · obtain ⟨D53, hD53⟩ : ∃ D, w22.heap.size = D := ⟨_, rfl⟩
              have H54 := hid (H25.out.alloc #[.int .i64 0, .int .i64 0] 38 hD53)
              go_simp
              refine hK.out _ _ ?_ (fun hHeld2 => ?_)
              focus ((try dsimp only); (exact ⟨H54.out.cell 3 rfl 0 rfl, H54.out.cell 3 rfl 1 rfl, H54.out.cell 3 rfl 2 rfl, H54.out.cell 3 rfl 3 rfl⟩))
              clear hK K hHeld
              try simp only [Act.put, List.getElem_toArray, List.getElem_cons_zero, List.getElem_cons_succ, List.setIfInBounds_toArray, List.set_cons_zero, List.set_cons_succ]
              clear hD53
              generalize (w22.alloc (.cells #[.int .i64 0, .int .i64 0] 38)) = k55 at *
              have hHeld := hHeld2
              clear hHeld2
              refine wpAnyH_ready (rs := [13]) (by kernel_rfl) (by simp) (AllReadyH.cons (o := _) rfl (fun K hK => ?_) AllReadyH.nil)
              go_simp
              go_at_call 25
              refine (edgeok_any B K1 _ _ (by omega) (H54.out.tapeAt 5 rfl)).mono ?_
              rintro e w57 ⟨e56_0, e56_1, rfl, hev, ht, hg⟩
              have H58 := hid (H54.out.next 5 rfl ht hg)
              have HEe56 := hid hev
              clear ht hg hev
              refine hK.out _ _ ?_ (fun hHeld2 => ?_)
              focus ((try dsimp only); (exact ⟨H58.out.cell 3 rfl 0 rfl, H58.out.cell 3 rfl 1 rfl, H58.out.cell 3 rfl 2 rfl, H58.out.cell 3 rfl 3 rfl⟩))
              clear hK K
              try simp only [Act.put, List.getElem_toArray, List.getElem_cons_zero, List.getElem_cons_succ, List.setIfInBounds_toArray, List.set_cons_zero, List.set_cons_succ]
              clear hHeld
              have hHeld := hHeld2
              clear hHeld2
              refine wpAnyH_ready (rs := [15]) (by kernel_rfl) (by simp) (AllReadyH.cons (o := _) rfl (fun K hK => ?_) AllReadyH.nil)
              go_simp
              go_at_call 18
              refine (nextB_any B K1 _ _ (by omega) (H58.out.tapeAt 5 rfl)).mono ?_
              rintro e w60 ⟨x59, rfl, x59a, x59b, htn, hgn, hsn⟩
              have H61 := hid (H58.out.next 5 rfl htn hgn)
              clear htn hgn hsn
              refine hK.out _ _ ?_ (fun hHeld2 => ?_)
              focus ((try dsimp only); (exact ⟨H61.out.cell 3 rfl 0 rfl, H61.out.cell 3 rfl 1 rfl, H61.out.cell 3 rfl 2 rfl, H61.out.cell 3 rfl 3 rfl⟩))
              clear hK K
              try simp only [Act.put, List.getElem_toArray, List.getElem_cons_zero, List.getElem_cons_succ, List.setIfInBounds_toArray, List.set_cons_zero, List.set_cons_succ]
              clear hHeld
              have hHeld := hHeld2
              clear hHeld2
              refine wpAnyH_take (i := 17) (oi := _) (v := ?_) rfl (by kernel_rfl) (by kernel_rfl) (by kernel_rfl) (fun _ _ _ h => h) (Or.inl ⟨by rfl, ?_⟩) (by assumption) ?_
              rotate_left
              focus (intro wS hSw; (try dsimp only at hSw); go_simp; (try with_reducible rfl))
              try simp only [Act.put, List.getElem_toArray, List.getElem_cons_zero, List.getElem_cons_succ, List.setIfInBounds_toArray, List.set_cons_zero, List.set_cons_succ]
              refine wpAnyH_take (i := 18) (oi := _) (v := ?_) rfl (by kernel_rfl) (by kernel_rfl) (by kernel_rfl) (fun _ _ _ h => h) (Or.inl ⟨by rfl, ?_⟩) (by assumption) ?_
              rotate_left
              focus (intro wS hSw; (try dsimp only at hSw); go_simp; (try with_reducible rfl))
              try simp only [Act.put, List.getElem_toArray, List.getElem_cons_zero, List.getElem_cons_succ, List.setIfInBounds_toArray, List.set_cons_zero, List.set_cons_succ]
              refine wpAnyH_ready (rs := [19]) (by kernel_rfl) (by simp) (AllReadyH.cons (o := _) rfl (fun K hK => ?_) AllReadyH.nil)
              have z62 := H61.out.cell 0 rfl 0 rfl
              have z63 := H61.out.free 0 rfl 0
              have z64 := H61.out.cell 0 rfl 1 rfl
              have z65 := H61.out.free 0 rfl 1
              have H66 := hid (show St B W [.cells D53 #[.int .i64 e56_0, .int .i64 e56_1] 38, .own (.slice wv23a wl24.length wv23c) wl24, .own (.slice wv16a wl17.length wv16c) wl17, .cells D7 #[.int .i64 pw4, .int .i64 ph4, .int .i64 pm4, .slice pv4a ps4.length pv4c] 35, .own (.slice pv4a ps4.length pv4c) ps4, .tape K1] [] ((w60.setCell ⟨D53, 0, none⟩ (.int .i64 e56_0)).setCell ⟨D53, 1, none⟩ (.int .i64 e56_1)) from ((H61.out.set 0 rfl 0 (.int .i64 e56_0)).set 0 rfl 1 (.int .i64 e56_1)))
              go_simp
              refine hK.out _ _ ?_ (fun hHeld2 => ?_)
              focus ((try dsimp only); (exact ⟨H66.out.cell 3 rfl 0 rfl, H66.out.cell 3 rfl 1 rfl, H66.out.cell 3 rfl 2 rfl, H66.out.cell 3 rfl 3 rfl⟩))
              clear hK K hHeld
              try simp only [Act.put, List.getElem_toArray, List.getElem_cons_zero, List.getElem_cons_succ, List.setIfInBounds_toArray, List.set_cons_zero, List.set_cons_succ]
              clear z62 z63 z64 z65
              generalize ((w60.setCell ⟨D53, 0, none⟩ (.int .i64 e56_0)).setCell ⟨D53, 1, none⟩ (.int .i64 e56_1)) = k67 at *
              have hHeld := hHeld2
              clear hHeld2
              refine wpAnyH_take (i := 20) (oi := _) (v := ?_) rfl (by kernel_rfl) (by kernel_rfl) (by kernel_rfl) (fun _ _ _ h => h) (Or.inl ⟨by rfl, ?_⟩) (by assumption) ?_
              rotate_left
              focus (intro wS hSw; (try dsimp only at hSw); go_simp; (try with_reducible rfl))
              try simp only [Act.put, List.getElem_toArray, List.getElem_cons_zero, List.getElem_cons_succ, List.setIfInBounds_toArray, List.set_cons_zero, List.set_cons_succ]
              refine wpAnyH_done (by kernel_rfl) ?_ _
              try clear hHeld
              go_wp2_with fail
              go_meet
              exact ⟨D53, _, _, _, _, _, _, _, _, _, rfl, rfl, rfl, rfl, by have := HWLwl17.out; omega, by have := HWLwl17.out; omega, by have := HWLwl24.out; omega, by have := HWLwl24.out; omega, HWBwl17.out, HWBwl24.out, HEe56.out, by omega, by omega, H66.out.pick [2, 1, 0, 3, 4, 5] rfl (by decide)⟩
          · obtain ⟨D68, hD68⟩ : ∃ D, w20.heap.size = D := ⟨_, rfl⟩
            have H69 := hid (H21.out.alloc #[.int .i64 0, .int .i64 0] 38 hD68)
            go_simp
            refine hK.out _ _ ?_ (fun hHeld2 => ?_)
            focus ((try dsimp only); (exact ⟨H69.out.cell 2 rfl 0 rfl, H69.out.cell 2 rfl 1 rfl, H69.out.cell 2 rfl 2 rfl, H69.out.cell 2 rfl 3 rfl⟩))
            clear hK K hHeld
            try simp only [Act.put, List.getElem_toArray, List.getElem_cons_zero, List.getElem_cons_succ, List.setIfInBounds_toArray, List.set_cons_zero, List.set_cons_succ]
            clear hD68
            generalize (w20.alloc (.cells #[.int .i64 0, .int .i64 0] 38)) = k70 at *
            have hHeld := hHeld2
            clear hHeld2
            refine wpAnyH_ready (rs := [9]) (by kernel_rfl) (by simp) (AllReadyH.cons (o := _) rfl (fun K hK => ?_) AllReadyH.nil)
            go_simp
            go_at_call 19
            refine (weights_any B K1 _ _ (by omega) (H69.out.tapeAt 4 rfl)).mono ?_
            rintro e w71 ⟨wv72, wl73, rfl, hlen, hin, ho, ht, hg⟩
            have H74 := hid (H69.out.add (H69.out.next 4 rfl ht hg) ho)
            have HWLwl73 := hid hlen
            have HWBwl73 := hid hin
            obtain ⟨wv72a, wv72c, rfl, _⟩ := ho.slc
            clear hlen hin ho ht hg
            refine hK.out _ _ ?_ (fun hHeld2 => ?_)
            focus ((try dsimp only); (exact ⟨H74.out.cell 3 rfl 0 rfl, H74.out.cell 3 rfl 1 rfl, H74.out.cell 3 rfl 2 rfl, H74.out.cell 3 rfl 3 rfl⟩))
            clear hK K
            try simp only [Act.put, List.getElem_toArray, List.getElem_cons_zero, List.getElem_cons_succ, List.setIfInBounds_toArray, List.set_cons_zero, List.set_cons_succ]
            clear hHeld
            have hHeld := hHeld2
            clear hHeld2
            refine wpAnyH_ready (rs := [13]) (by kernel_rfl) (by simp) (AllReadyH.cons (o := _) rfl (fun K hK => ?_) AllReadyH.nil)
            go_simp
            go_at_call 25
            refine (edgeok_any B K1 _ _ (by omega) (H74.out.tapeAt 5 rfl)).mono ?_
            rintro e w76 ⟨e75_0, e75_1, rfl, hev, ht, hg⟩
            have H77 := hid (H74.out.next 5 rfl ht hg)
            have HEe75 := hid hev
            clear ht hg hev
            refine hK.out _ _ ?_ (fun hHeld2 => ?_)
            focus ((try dsimp only); (exact ⟨H77.out.cell 3 rfl 0 rfl, H77.out.cell 3 rfl 1 rfl, H77.out.cell 3 rfl 2 rfl, H77.out.cell 3 rfl 3 rfl⟩))
            clear hK K
            try simp only [Act.put, List.getElem_toArray, List.getElem_cons_zero, List.getElem_cons_succ, List.setIfInBounds_toArray, List.set_cons_zero, List.set_cons_succ]
            clear hHeld
            have hHeld := hHeld2
            clear hHeld2
            refine wpAnyH_ready (rs := [15]) (by kernel_rfl) (by simp) (AllReadyH.cons (o := _) rfl (fun K hK => ?_) AllReadyH.nil)
            go_simp
            go_at_call 18
            refine (nextB_any B K1 _ _ (by omega) (H77.out.tapeAt 5 rfl)).mono ?_
            rintro e w79 ⟨x78, rfl, x78a, x78b, htn, hgn, hsn⟩
            have H80 := hid (H77.out.next 5 rfl htn hgn)
            clear htn hgn hsn
            refine hK.out _ _ ?_ (fun hHeld2 => ?_)
            focus ((try dsimp only); (exact ⟨H80.out.cell 3 rfl 0 rfl, H80.out.cell 3 rfl 1 rfl, H80.out.cell 3 rfl 2 rfl, H80.out.cell 3 rfl 3 rfl⟩))
            clear hK K
            try simp only [Act.put, List.getElem_toArray, List.getElem_cons_zero, List.getElem_cons_succ, List.setIfInBounds_toArray, List.set_cons_zero, List.set_cons_succ]
            clear hHeld
            have hHeld := hHeld2
            clear hHeld2
            refine wpAnyH_take (i := 17) (oi := _) (v := ?_) rfl (by kernel_rfl) (by kernel_rfl) (by kernel_rfl) (fun _ _ _ h => h) (Or.inl ⟨by rfl, ?_⟩) (by assumption) ?_
            rotate_left
            focus (intro wS hSw; (try dsimp only at hSw); go_simp; (try with_reducible rfl))
            try simp only [Act.put, List.getElem_toArray, List.getElem_cons_zero, List.getElem_cons_succ, List.setIfInBounds_toArray, List.set_cons_zero, List.set_cons_succ]
            refine wpAnyH_take (i := 18) (oi := _) (v := ?_) rfl (by kernel_rfl) (by kernel_rfl) (by kernel_rfl) (fun _ _ _ h => h) (Or.inl ⟨by rfl, ?_⟩) (by assumption) ?_
            rotate_left
            focus (intro wS hSw; (try dsimp only at hSw); go_simp; (try with_reducible rfl))
            try simp only [Act.put, List.getElem_toArray, List.getElem_cons_zero, List.getElem_cons_succ, List.setIfInBounds_toArray, List.set_cons_zero, List.set_cons_succ]
            refine wpAnyH_ready (rs := [19]) (by kernel_rfl) (by simp) (AllReadyH.cons (o := _) rfl (fun K hK => ?_) AllReadyH.nil)
            have z81 := H80.out.cell 1 rfl 0 rfl
            have z82 := H80.out.free 1 rfl 0
            have z83 := H80.out.cell 1 rfl 1 rfl
            have z84 := H80.out.free 1 rfl 1
            have H85 := hid (show St B W [.own (.slice wv72a wl73.length wv72c) wl73, .cells D68 #[.int .i64 e75_0, .int .i64 e75_1] 38, .own (.slice wv16a wl17.length wv16c) wl17, .cells D7 #[.int .i64 pw4, .int .i64 ph4, .int .i64 pm4, .slice pv4a ps4.length pv4c] 35, .own (.slice pv4a ps4.length pv4c) ps4, .tape K1] [] ((w79.setCell ⟨D68, 0, none⟩ (.int .i64 e75_0)).setCell ⟨D68, 1, none⟩ (.int .i64 e75_1)) from ((H80.out.set 1 rfl 0 (.int .i64 e75_0)).set 1 rfl 1 (.int .i64 e75_1)))
            go_simp
            refine hK.out _ _ ?_ (fun hHeld2 => ?_)
            focus ((try dsimp only); (exact ⟨H85.out.cell 3 rfl 0 rfl, H85.out.cell 3 rfl 1 rfl, H85.out.cell 3 rfl 2 rfl, H85.out.cell 3 rfl 3 rfl⟩))
            clear hK K hHeld
            try simp only [Act.put, List.getElem_toArray, List.getElem_cons_zero, List.getElem_cons_succ, List.setIfInBounds_toArray, List.set_cons_zero, List.set_cons_succ]
            clear z81 z82 z83 z84
            generalize ((w79.setCell ⟨D68, 0, none⟩ (.int .i64 e75_0)).setCell ⟨D68, 1, none⟩ (.int .i64 e75_1)) = k86 at *
            have hHeld := hHeld2
            clear hHeld2
            refine wpAnyH_take (i := 20) (oi := _) (v := ?_) rfl (by kernel_rfl) (by kernel_rfl) (by kernel_rfl) (fun _ _ _ h => h) (Or.inl ⟨by rfl, ?_⟩) (by assumption) ?_
            rotate_left
            focus (intro wS hSw; (try dsimp only at hSw); go_simp; (try with_reducible rfl))
            try simp only [Act.put, List.getElem_toArray, List.getElem_cons_zero, List.getElem_cons_succ, List.setIfInBounds_toArray, List.set_cons_zero, List.set_cons_succ]
            refine wpAnyH_done (by kernel_rfl) ?_ _
            try clear hHeld
            go_wp2_with fail
            go_meet
            exact ⟨D68, _, _, _, _, _, _, _, _, _, rfl, rfl, rfl, rfl, by have := HWLwl17.out; omega, by have := HWLwl17.out; omega, by have := HWLwl73.out; omega, by have := HWLwl73.out; omega, HWBwl17.out, HWBwl73.out, HEe75.out, by omega, by omega, H85.out.pick [2, 0, 1, 3, 4, 5] rfl (by decide)⟩
        · obtain ⟨D87, hD87⟩ : ∃ D, w15.heap.size = D := ⟨_, rfl⟩
          have H88 := hid (H18.out.alloc #[.int .i64 0, .int .i64 0] 38 hD87)
          go_simp
          refine hK.out _ _ ?_ (fun hHeld2 => ?_)
          focus ((try dsimp only); (exact ⟨H88.out.cell 2 rfl 0 rfl, H88.out.cell 2 rfl 1 rfl, H88.out.cell 2 rfl 2 rfl, H88.out.cell 2 rfl 3 rfl⟩))
          clear hK K hHeld
          try simp only [Act.put, List.getElem_toArray, List.getElem_cons_zero, List.getElem_cons_succ, List.setIfInBounds_toArray, List.set_cons_zero, List.set_cons_succ]
          clear hD87
          generalize (w15.alloc (.cells #[.int .i64 0, .int .i64 0] 38)) = k89 at *
          have hHeld := hHeld2
          clear hHeld2
          refine wpAnyH_ready (rs := [7]) (by kernel_rfl) (by simp) (AllReadyH.cons (o := _) rfl (fun K hK => ?_) AllReadyH.nil)
          go_simp
          go_at_call 18
          refine (nextB_any B K1 _ _ (by omega) (H88.out.tapeAt 4 rfl)).mono ?_
          rintro e w91 ⟨x90, rfl, x90a, x90b, htn, hgn, hsn⟩
          have H92 := hid (H88.out.next 4 rfl htn hgn)
          clear htn hgn hsn
          have wnx90 : IntKind.i64.wrap (1 + x90) = 1 + x90 := IntWalk.i64_in _ (by omega)
          refine hK.out _ _ ?_ (fun hHeld2 => ?_)
          focus ((try dsimp only); (exact ⟨H92.out.cell 2 rfl 0 rfl, H92.out.cell 2 rfl 1 rfl, H92.out.cell 2 rfl 2 rfl, H92.out.cell 2 rfl 3 rfl⟩))
          clear hK K
          try simp only [Act.put, List.getElem_toArray, List.getElem_cons_zero, List.getElem_cons_succ, List.setIfInBounds_toArray, List.set_cons_zero, List.set_cons_succ]
          clear hHeld
          have hHeld := hHeld2
          clear hHeld2
          refine wpAnyH_take (i := 8) (oi := _) (v := ?_) rfl (by kernel_rfl) (by kernel_rfl) (by kernel_rfl) (fun _ _ _ h => h) (Or.inl ⟨by rfl, ?_⟩) (by assumption) ?_
          rotate_left
          focus (intro wS hSw; (try dsimp only at hSw); go_simp; (try with_reducible rfl))
          try simp only [Act.put, List.getElem_toArray, List.getElem_cons_zero, List.getElem_cons_succ, List.setIfInBounds_toArray, List.set_cons_zero, List.set_cons_succ]
          refine wpAnyH_ready (rs := [9]) (by kernel_rfl) (by simp) (AllReadyH.cons (o := _) rfl (fun K hK => ?_) AllReadyH.nil)
          go_simp
          go_at_call 19
          refine (weights_any B K1 _ _ (by omega) (H92.out.tapeAt 4 rfl)).mono ?_
          rintro e w93 ⟨wv94, wl95, rfl, hlen, hin, ho, ht, hg⟩
          have H96 := hid (H92.out.add (H92.out.next 4 rfl ht hg) ho)
          have HWLwl95 := hid hlen
          have HWBwl95 := hid hin
          obtain ⟨wv94a, wv94c, rfl, _⟩ := ho.slc
          clear hlen hin ho ht hg
          refine hK.out _ _ ?_ (fun hHeld2 => ?_)
          focus ((try dsimp only); (exact ⟨H96.out.cell 3 rfl 0 rfl, H96.out.cell 3 rfl 1 rfl, H96.out.cell 3 rfl 2 rfl, H96.out.cell 3 rfl 3 rfl⟩))
          clear hK K
          try simp only [Act.put, List.getElem_toArray, List.getElem_cons_zero, List.getElem_cons_succ, List.setIfInBounds_toArray, List.set_cons_zero, List.set_cons_succ]
          clear hHeld
          have hHeld := hHeld2
          clear hHeld2
          refine wpAnyH_ready (rs := [13]) (by kernel_rfl) (by simp) (AllReadyH.cons (o := _) rfl (fun K hK => ?_) AllReadyH.nil)
          go_simp
          go_at_call 25
          refine (edgeok_any B K1 _ _ (by omega) (H96.out.tapeAt 5 rfl)).mono ?_
          rintro e w98 ⟨e97_0, e97_1, rfl, hev, ht, hg⟩
          have H99 := hid (H96.out.next 5 rfl ht hg)
          have HEe97 := hid hev
          clear ht hg hev
          refine hK.out _ _ ?_ (fun hHeld2 => ?_)
          focus ((try dsimp only); (exact ⟨H99.out.cell 3 rfl 0 rfl, H99.out.cell 3 rfl 1 rfl, H99.out.cell 3 rfl 2 rfl, H99.out.cell 3 rfl 3 rfl⟩))
          clear hK K
          try simp only [Act.put, List.getElem_toArray, List.getElem_cons_zero, List.getElem_cons_succ, List.setIfInBounds_toArray, List.set_cons_zero, List.set_cons_succ]
          clear hHeld
          have hHeld := hHeld2
          clear hHeld2
          refine wpAnyH_ready (rs := [15]) (by kernel_rfl) (by simp) (AllReadyH.cons (o := _) rfl (fun K hK => ?_) AllReadyH.nil)
          go_simp
          go_at_call 18
          refine (nextB_any B K1 _ _ (by omega) (H99.out.tapeAt 5 rfl)).mono ?_
          rintro e w101 ⟨x100, rfl, x100a, x100b, htn, hgn, hsn⟩
          have H102 := hid (H99.out.next 5 rfl htn hgn)
          clear htn hgn hsn
          refine hK.out _ _ ?_ (fun hHeld2 => ?_)
          focus ((try dsimp only); (exact ⟨H102.out.cell 3 rfl 0 rfl, H102.out.cell 3 rfl 1 rfl, H102.out.cell 3 rfl 2 rfl, H102.out.cell 3 rfl 3 rfl⟩))
          clear hK K
          try simp only [Act.put, List.getElem_toArray, List.getElem_cons_zero, List.getElem_cons_succ, List.setIfInBounds_toArray, List.set_cons_zero, List.set_cons_succ]
          clear hHeld
          have hHeld := hHeld2
          clear hHeld2
          refine wpAnyH_take (i := 17) (oi := _) (v := ?_) rfl (by kernel_rfl) (by kernel_rfl) (by kernel_rfl) (fun _ _ _ h => h) (Or.inl ⟨by rfl, ?_⟩) (by assumption) ?_
          rotate_left
          focus (intro wS hSw; (try dsimp only at hSw); go_simp; (try with_reducible rfl))
          try simp only [Act.put, List.getElem_toArray, List.getElem_cons_zero, List.getElem_cons_succ, List.setIfInBounds_toArray, List.set_cons_zero, List.set_cons_succ]
          refine wpAnyH_take (i := 18) (oi := _) (v := ?_) rfl (by kernel_rfl) (by kernel_rfl) (by kernel_rfl) (fun _ _ _ h => h) (Or.inl ⟨by rfl, ?_⟩) (by assumption) ?_
          rotate_left
          focus (intro wS hSw; (try dsimp only at hSw); go_simp; (try with_reducible rfl))
          try simp only [Act.put, List.getElem_toArray, List.getElem_cons_zero, List.getElem_cons_succ, List.setIfInBounds_toArray, List.set_cons_zero, List.set_cons_succ]
          refine wpAnyH_ready (rs := [19]) (by kernel_rfl) (by simp) (AllReadyH.cons (o := _) rfl (fun K hK => ?_) AllReadyH.nil)
          have z103 := H102.out.cell 1 rfl 0 rfl
          have z104 := H102.out.free 1 rfl 0
          have z105 := H102.out.cell 1 rfl 1 rfl
          have z106 := H102.out.free 1 rfl 1
          have H107 := hid (show St B W [.own (.slice wv94a wl95.length wv94c) wl95, .cells D87 #[.int .i64 e97_0, .int .i64 e97_1] 38, .own (.slice wv16a wl17.length wv16c) wl17, .cells D7 #[.int .i64 pw4, .int .i64 ph4, .int .i64 pm4, .slice pv4a ps4.length pv4c] 35, .own (.slice pv4a ps4.length pv4c) ps4, .tape K1] [] ((w101.setCell ⟨D87, 0, none⟩ (.int .i64 e97_0)).setCell ⟨D87, 1, none⟩ (.int .i64 e97_1)) from ((H102.out.set 1 rfl 0 (.int .i64 e97_0)).set 1 rfl 1 (.int .i64 e97_1)))
          go_simp
          refine hK.out _ _ ?_ (fun hHeld2 => ?_)
          focus ((try dsimp only); (exact ⟨H107.out.cell 3 rfl 0 rfl, H107.out.cell 3 rfl 1 rfl, H107.out.cell 3 rfl 2 rfl, H107.out.cell 3 rfl 3 rfl⟩))
          clear hK K hHeld
          try simp only [Act.put, List.getElem_toArray, List.getElem_cons_zero, List.getElem_cons_succ, List.setIfInBounds_toArray, List.set_cons_zero, List.set_cons_succ]
          clear z103 z104 z105 z106
          generalize ((w101.setCell ⟨D87, 0, none⟩ (.int .i64 e97_0)).setCell ⟨D87, 1, none⟩ (.int .i64 e97_1)) = k108 at *
          have hHeld := hHeld2
          clear hHeld2
          refine wpAnyH_take (i := 20) (oi := _) (v := ?_) rfl (by kernel_rfl) (by kernel_rfl) (by kernel_rfl) (fun _ _ _ h => h) (Or.inl ⟨by rfl, ?_⟩) (by assumption) ?_
          rotate_left
          focus (intro wS hSw; (try dsimp only at hSw); go_simp; (try with_reducible rfl))
          try simp only [Act.put, List.getElem_toArray, List.getElem_cons_zero, List.getElem_cons_succ, List.setIfInBounds_toArray, List.set_cons_zero, List.set_cons_succ]
          refine wpAnyH_done (by kernel_rfl) ?_ _
          try clear hHeld
          go_wp2_with fail
          go_meet
          exact ⟨D87, _, _, _, _, _, _, _, _, _, rfl, rfl, rfl, rfl, by have := HWLwl17.out; omega, by have := HWLwl17.out; omega, by have := HWLwl95.out; omega, by have := HWLwl95.out; omega, HWBwl17.out, HWBwl95.out, HEe97.out, by omega, by omega, H107.out.pick [2, 0, 1, 3, 4, 5] rfl (by decide)⟩
      · obtain ⟨D109, hD109⟩ : ∃ D, w13.heap.size = D := ⟨_, rfl⟩
        have H110 := hid (H14.out.alloc #[.int .i64 0, .int .i64 0] 38 hD109)
        go_simp
        refine hK.out _ _ ?_ (fun hHeld2 => ?_)
        focus ((try dsimp only); (exact ⟨H110.out.cell 1 rfl 0 rfl, H110.out.cell 1 rfl 1 rfl, H110.out.cell 1 rfl 2 rfl, H110.out.cell 1 rfl 3 rfl⟩))
        clear hK K hHeld
        try simp only [Act.put, List.getElem_toArray, List.getElem_cons_zero, List.getElem_cons_succ, List.setIfInBounds_toArray, List.set_cons_zero, List.set_cons_succ]
        clear hD109
        generalize (w13.alloc (.cells #[.int .i64 0, .int .i64 0] 38)) = k111 at *
        have hHeld := hHeld2
        clear hHeld2
        refine wpAnyH_ready (rs := [4]) (by kernel_rfl) (by simp) (AllReadyH.cons (o := _) rfl (fun K hK => ?_) AllReadyH.nil)
        go_simp
        go_at_call 19
        refine (weights_any B K1 _ _ (by omega) (H110.out.tapeAt 3 rfl)).mono ?_
        rintro e w112 ⟨wv113, wl114, rfl, hlen, hin, ho, ht, hg⟩
        have H115 := hid (H110.out.add (H110.out.next 3 rfl ht hg) ho)
        have HWLwl114 := hid hlen
        have HWBwl114 := hid hin
        obtain ⟨wv113a, wv113c, rfl, _⟩ := ho.slc
        clear hlen hin ho ht hg
        refine hK.out _ _ ?_ (fun hHeld2 => ?_)
        focus ((try dsimp only); (exact ⟨H115.out.cell 2 rfl 0 rfl, H115.out.cell 2 rfl 1 rfl, H115.out.cell 2 rfl 2 rfl, H115.out.cell 2 rfl 3 rfl⟩))
        clear hK K
        try simp only [Act.put, List.getElem_toArray, List.getElem_cons_zero, List.getElem_cons_succ, List.setIfInBounds_toArray, List.set_cons_zero, List.set_cons_succ]
        clear hHeld
        have hHeld := hHeld2
        clear hHeld2
        refine wpAnyH_ready (rs := [7]) (by kernel_rfl) (by simp) (AllReadyH.cons (o := _) rfl (fun K hK => ?_) AllReadyH.nil)
        go_simp
        go_at_call 18
        refine (nextB_any B K1 _ _ (by omega) (H115.out.tapeAt 4 rfl)).mono ?_
        rintro e w117 ⟨x116, rfl, x116a, x116b, htn, hgn, hsn⟩
        have H118 := hid (H115.out.next 4 rfl htn hgn)
        clear htn hgn hsn
        have wnx116 : IntKind.i64.wrap (1 + x116) = 1 + x116 := IntWalk.i64_in _ (by omega)
        refine hK.out _ _ ?_ (fun hHeld2 => ?_)
        focus ((try dsimp only); (exact ⟨H118.out.cell 2 rfl 0 rfl, H118.out.cell 2 rfl 1 rfl, H118.out.cell 2 rfl 2 rfl, H118.out.cell 2 rfl 3 rfl⟩))
        clear hK K
        try simp only [Act.put, List.getElem_toArray, List.getElem_cons_zero, List.getElem_cons_succ, List.setIfInBounds_toArray, List.set_cons_zero, List.set_cons_succ]
        clear hHeld
        have hHeld := hHeld2
        clear hHeld2
        refine wpAnyH_take (i := 8) (oi := _) (v := ?_) rfl (by kernel_rfl) (by kernel_rfl) (by kernel_rfl) (fun _ _ _ h => h) (Or.inl ⟨by rfl, ?_⟩) (by assumption) ?_
        rotate_left
        focus (intro wS hSw; (try dsimp only at hSw); go_simp; (try with_reducible rfl))
        try simp only [Act.put, List.getElem_toArray, List.getElem_cons_zero, List.getElem_cons_succ, List.setIfInBounds_toArray, List.set_cons_zero, List.set_cons_succ]
        refine wpAnyH_ready (rs := [9]) (by kernel_rfl) (by simp) (AllReadyH.cons (o := _) rfl (fun K hK => ?_) AllReadyH.nil)
        go_simp
        go_at_call 19
        refine (weights_any B K1 _ _ (by omega) (H118.out.tapeAt 4 rfl)).mono ?_
        rintro e w119 ⟨wv120, wl121, rfl, hlen, hin, ho, ht, hg⟩
        have H122 := hid (H118.out.add (H118.out.next 4 rfl ht hg) ho)
        have HWLwl121 := hid hlen
        have HWBwl121 := hid hin
        obtain ⟨wv120a, wv120c, rfl, _⟩ := ho.slc
        clear hlen hin ho ht hg
        refine hK.out _ _ ?_ (fun hHeld2 => ?_)
        focus ((try dsimp only); (exact ⟨H122.out.cell 3 rfl 0 rfl, H122.out.cell 3 rfl 1 rfl, H122.out.cell 3 rfl 2 rfl, H122.out.cell 3 rfl 3 rfl⟩))
        clear hK K
        try simp only [Act.put, List.getElem_toArray, List.getElem_cons_zero, List.getElem_cons_succ, List.setIfInBounds_toArray, List.set_cons_zero, List.set_cons_succ]
        clear hHeld
        have hHeld := hHeld2
        clear hHeld2
        refine wpAnyH_ready (rs := [13]) (by kernel_rfl) (by simp) (AllReadyH.cons (o := _) rfl (fun K hK => ?_) AllReadyH.nil)
        go_simp
        go_at_call 25
        refine (edgeok_any B K1 _ _ (by omega) (H122.out.tapeAt 5 rfl)).mono ?_
        rintro e w124 ⟨e123_0, e123_1, rfl, hev, ht, hg⟩
        have H125 := hid (H122.out.next 5 rfl ht hg)
        have HEe123 := hid hev
        clear ht hg hev
        refine hK.out _ _ ?_ (fun hHeld2 => ?_)
        focus ((try dsimp only); (exact ⟨H125.out.cell 3 rfl 0 rfl, H125.out.cell 3 rfl 1 rfl, H125.out.cell 3 rfl 2 rfl, H125.out.cell 3 rfl 3 rfl⟩))
        clear hK K
        try simp only [Act.put, List.getElem_toArray, List.getElem_cons_zero, List.getElem_cons_succ, List.setIfInBounds_toArray, List.set_cons_zero, List.set_cons_succ]
        clear hHeld
        have hHeld := hHeld2
        clear hHeld2
        refine wpAnyH_ready (rs := [15]) (by kernel_rfl) (by simp) (AllReadyH.cons (o := _) rfl (fun K hK => ?_) AllReadyH.nil)
        go_simp
        go_at_call 18
        refine (nextB_any B K1 _ _ (by omega) (H125.out.tapeAt 5 rfl)).mono ?_
        rintro e w127 ⟨x126, rfl, x126a, x126b, htn, hgn, hsn⟩
        have H128 := hid (H125.out.next 5 rfl htn hgn)
        clear htn hgn hsn
        refine hK.out _ _ ?_ (fun hHeld2 => ?_)
        focus ((try dsimp only); (exact ⟨H128.out.cell 3 rfl 0 rfl, H128.out.cell 3 rfl 1 rfl, H128.out.cell 3 rfl 2 rfl, H128.out.cell 3 rfl 3 rfl⟩))
        clear hK K
        try simp only [Act.put, List.getElem_toArray, List.getElem_cons_zero, List.getElem_cons_succ, List.setIfInBounds_toArray, List.set_cons_zero, List.set_cons_succ]
        clear hHeld
        have hHeld := hHeld2
        clear hHeld2
        refine wpAnyH_take (i := 17) (oi := _) (v := ?_) rfl (by kernel_rfl) (by kernel_rfl) (by kernel_rfl) (fun _ _ _ h => h) (Or.inl ⟨by rfl, ?_⟩) (by assumption) ?_
        rotate_left
        focus (intro wS hSw; (try dsimp only at hSw); go_simp; (try with_reducible rfl))
        try simp only [Act.put, List.getElem_toArray, List.getElem_cons_zero, List.getElem_cons_succ, List.setIfInBounds_toArray, List.set_cons_zero, List.set_cons_succ]
        refine wpAnyH_take (i := 18) (oi := _) (v := ?_) rfl (by kernel_rfl) (by kernel_rfl) (by kernel_rfl) (fun _ _ _ h => h) (Or.inl ⟨by rfl, ?_⟩) (by assumption) ?_
        rotate_left
        focus (intro wS hSw; (try dsimp only at hSw); go_simp; (try with_reducible rfl))
        try simp only [Act.put, List.getElem_toArray, List.getElem_cons_zero, List.getElem_cons_succ, List.setIfInBounds_toArray, List.set_cons_zero, List.set_cons_succ]
        refine wpAnyH_ready (rs := [19]) (by kernel_rfl) (by simp) (AllReadyH.cons (o := _) rfl (fun K hK => ?_) AllReadyH.nil)
        have z129 := H128.out.cell 2 rfl 0 rfl
        have z130 := H128.out.free 2 rfl 0
        have z131 := H128.out.cell 2 rfl 1 rfl
        have z132 := H128.out.free 2 rfl 1
        have H133 := hid (show St B W [.own (.slice wv120a wl121.length wv120c) wl121, .own (.slice wv113a wl114.length wv113c) wl114, .cells D109 #[.int .i64 e123_0, .int .i64 e123_1] 38, .cells D7 #[.int .i64 pw4, .int .i64 ph4, .int .i64 pm4, .slice pv4a ps4.length pv4c] 35, .own (.slice pv4a ps4.length pv4c) ps4, .tape K1] [] ((w127.setCell ⟨D109, 0, none⟩ (.int .i64 e123_0)).setCell ⟨D109, 1, none⟩ (.int .i64 e123_1)) from ((H128.out.set 2 rfl 0 (.int .i64 e123_0)).set 2 rfl 1 (.int .i64 e123_1)))
        go_simp
        refine hK.out _ _ ?_ (fun hHeld2 => ?_)
        focus ((try dsimp only); (exact ⟨H133.out.cell 3 rfl 0 rfl, H133.out.cell 3 rfl 1 rfl, H133.out.cell 3 rfl 2 rfl, H133.out.cell 3 rfl 3 rfl⟩))
        clear hK K hHeld
        try simp only [Act.put, List.getElem_toArray, List.getElem_cons_zero, List.getElem_cons_succ, List.setIfInBounds_toArray, List.set_cons_zero, List.set_cons_succ]
        clear z129 z130 z131 z132
        generalize ((w127.setCell ⟨D109, 0, none⟩ (.int .i64 e123_0)).setCell ⟨D109, 1, none⟩ (.int .i64 e123_1)) = k134 at *
        have hHeld := hHeld2
        clear hHeld2
        refine wpAnyH_take (i := 20) (oi := _) (v := ?_) rfl (by kernel_rfl) (by kernel_rfl) (by kernel_rfl) (fun _ _ _ h => h) (Or.inl ⟨by rfl, ?_⟩) (by assumption) ?_
        rotate_left
        focus (intro wS hSw; (try dsimp only at hSw); go_simp; (try with_reducible rfl))
        try simp only [Act.put, List.getElem_toArray, List.getElem_cons_zero, List.getElem_cons_succ, List.setIfInBounds_toArray, List.set_cons_zero, List.set_cons_succ]
        refine wpAnyH_done (by kernel_rfl) ?_ _
        try clear hHeld
        go_wp2_with fail
        go_meet
        exact ⟨D109, _, _, _, _, _, _, _, _, _, rfl, rfl, rfl, rfl, by have := HWLwl114.out; omega, by have := HWLwl114.out; omega, by have := HWLwl121.out; omega, by have := HWLwl121.out; omega, HWBwl114.out, HWBwl121.out, HEe123.out, by omega, by omega, H133.out.pick [1, 0, 2, 3, 4, 5] rfl (by decide)⟩
    · obtain ⟨D135, hD135⟩ : ∃ D, k11.heap.size = D := ⟨_, rfl⟩
      have H136 := hid (H10.out.alloc #[.int .i64 0, .int .i64 0] 38 hD135)
      go_simp
      refine hK.out _ _ ?_ (fun hHeld2 => ?_)
      focus ((try dsimp only); (exact ⟨H136.out.cell 1 rfl 0 rfl, H136.out.cell 1 rfl 1 rfl, H136.out.cell 1 rfl 2 rfl, H136.out.cell 1 rfl 3 rfl⟩))
      clear hK K hHeld
      try simp only [Act.put, List.getElem_toArray, List.getElem_cons_zero, List.getElem_cons_succ, List.setIfInBounds_toArray, List.set_cons_zero, List.set_cons_succ]
      clear hD135
      generalize (k11.alloc (.cells #[.int .i64 0, .int .i64 0] 38)) = k137 at *
      have hHeld := hHeld2
      clear hHeld2
      refine wpAnyH_ready (rs := [2]) (by kernel_rfl) (by simp) (AllReadyH.cons (o := _) rfl (fun K hK => ?_) AllReadyH.nil)
      go_simp
      go_at_call 18
      refine (nextB_any B K1 _ _ (by omega) (H136.out.tapeAt 3 rfl)).mono ?_
      rintro e w139 ⟨x138, rfl, x138a, x138b, htn, hgn, hsn⟩
      have H140 := hid (H136.out.next 3 rfl htn hgn)
      clear htn hgn hsn
      have wnx138 : IntKind.i64.wrap (1 + x138) = 1 + x138 := IntWalk.i64_in _ (by omega)
      refine hK.out _ _ ?_ (fun hHeld2 => ?_)
      focus ((try dsimp only); (exact ⟨H140.out.cell 1 rfl 0 rfl, H140.out.cell 1 rfl 1 rfl, H140.out.cell 1 rfl 2 rfl, H140.out.cell 1 rfl 3 rfl⟩))
      clear hK K
      try simp only [Act.put, List.getElem_toArray, List.getElem_cons_zero, List.getElem_cons_succ, List.setIfInBounds_toArray, List.set_cons_zero, List.set_cons_succ]
      clear hHeld
      have hHeld := hHeld2
      clear hHeld2
      refine wpAnyH_take (i := 3) (oi := _) (v := ?_) rfl (by kernel_rfl) (by kernel_rfl) (by kernel_rfl) (fun _ _ _ h => h) (Or.inl ⟨by rfl, ?_⟩) (by assumption) ?_
      rotate_left
      focus (intro wS hSw; (try dsimp only at hSw); go_simp; (try with_reducible rfl))
      try simp only [Act.put, List.getElem_toArray, List.getElem_cons_zero, List.getElem_cons_succ, List.setIfInBounds_toArray, List.set_cons_zero, List.set_cons_succ]
      refine wpAnyH_ready (rs := [4]) (by kernel_rfl) (by simp) (AllReadyH.cons (o := _) rfl (fun K hK => ?_) AllReadyH.nil)
      go_simp
      go_at_call 19
      refine (weights_any B K1 _ _ (by omega) (H140.out.tapeAt 3 rfl)).mono ?_
      rintro e w141 ⟨wv142, wl143, rfl, hlen, hin, ho, ht, hg⟩
      have H144 := hid (H140.out.add (H140.out.next 3 rfl ht hg) ho)
      have HWLwl143 := hid hlen
      have HWBwl143 := hid hin
      obtain ⟨wv142a, wv142c, rfl, _⟩ := ho.slc
      clear hlen hin ho ht hg
      refine hK.out _ _ ?_ (fun hHeld2 => ?_)
      focus ((try dsimp only); (exact ⟨H144.out.cell 2 rfl 0 rfl, H144.out.cell 2 rfl 1 rfl, H144.out.cell 2 rfl 2 rfl, H144.out.cell 2 rfl 3 rfl⟩))
      clear hK K
      try simp only [Act.put, List.getElem_toArray, List.getElem_cons_zero, List.getElem_cons_succ, List.setIfInBounds_toArray, List.set_cons_zero, List.set_cons_succ]
      clear hHeld
      have hHeld := hHeld2
      clear hHeld2
      refine wpAnyH_ready (rs := [7]) (by kernel_rfl) (by simp) (AllReadyH.cons (o := _) rfl (fun K hK => ?_) AllReadyH.nil)
      go_simp
      go_at_call 18
      refine (nextB_any B K1 _ _ (by omega) (H144.out.tapeAt 4 rfl)).mono ?_
      rintro e w146 ⟨x145, rfl, x145a, x145b, htn, hgn, hsn⟩
      have H147 := hid (H144.out.next 4 rfl htn hgn)
      clear htn hgn hsn
      have wnx145 : IntKind.i64.wrap (1 + x145) = 1 + x145 := IntWalk.i64_in _ (by omega)
      refine hK.out _ _ ?_ (fun hHeld2 => ?_)
      focus ((try dsimp only); (exact ⟨H147.out.cell 2 rfl 0 rfl, H147.out.cell 2 rfl 1 rfl, H147.out.cell 2 rfl 2 rfl, H147.out.cell 2 rfl 3 rfl⟩))
      clear hK K
      try simp only [Act.put, List.getElem_toArray, List.getElem_cons_zero, List.getElem_cons_succ, List.setIfInBounds_toArray, List.set_cons_zero, List.set_cons_succ]
      clear hHeld
      have hHeld := hHeld2
      clear hHeld2
      refine wpAnyH_take (i := 8) (oi := _) (v := ?_) rfl (by kernel_rfl) (by kernel_rfl) (by kernel_rfl) (fun _ _ _ h => h) (Or.inl ⟨by rfl, ?_⟩) (by assumption) ?_
      rotate_left
      focus (intro wS hSw; (try dsimp only at hSw); go_simp; (try with_reducible rfl))
      try simp only [Act.put, List.getElem_toArray, List.getElem_cons_zero, List.getElem_cons_succ, List.setIfInBounds_toArray, List.set_cons_zero, List.set_cons_succ]
      refine wpAnyH_ready (rs := [9]) (by kernel_rfl) (by simp) (AllReadyH.cons (o := _) rfl (fun K hK => ?_) AllReadyH.nil)
      go_simp
      go_at_call 19
      refine (weights_any B K1 _ _ (by omega) (H147.out.tapeAt 4 rfl)).mono ?_
      rintro e w148 ⟨wv149, wl150, rfl, hlen, hin, ho, ht, hg⟩
      have H151 := hid (H147.out.add (H147.out.next 4 rfl ht hg) ho)
      have HWLwl150 := hid hlen
      have HWBwl150 := hid hin
      obtain ⟨wv149a, wv149c, rfl, _⟩ := ho.slc
      clear hlen hin ho ht hg
      refine hK.out _ _ ?_ (fun hHeld2 => ?_)
      focus ((try dsimp only); (exact ⟨H151.out.cell 3 rfl 0 rfl, H151.out.cell 3 rfl 1 rfl, H151.out.cell 3 rfl 2 rfl, H151.out.cell 3 rfl 3 rfl⟩))
      clear hK K
      try simp only [Act.put, List.getElem_toArray, List.getElem_cons_zero, List.getElem_cons_succ, List.setIfInBounds_toArray, List.set_cons_zero, List.set_cons_succ]
      clear hHeld
      have hHeld := hHeld2
      clear hHeld2
      refine wpAnyH_ready (rs := [13]) (by kernel_rfl) (by simp) (AllReadyH.cons (o := _) rfl (fun K hK => ?_) AllReadyH.nil)
      go_simp
      go_at_call 25
      refine (edgeok_any B K1 _ _ (by omega) (H151.out.tapeAt 5 rfl)).mono ?_
      rintro e w153 ⟨e152_0, e152_1, rfl, hev, ht, hg⟩
      have H154 := hid (H151.out.next 5 rfl ht hg)
      have HEe152 := hid hev
      clear ht hg hev
      refine hK.out _ _ ?_ (fun hHeld2 => ?_)
      focus ((try dsimp only); (exact ⟨H154.out.cell 3 rfl 0 rfl, H154.out.cell 3 rfl 1 rfl, H154.out.cell 3 rfl 2 rfl, H154.out.cell 3 rfl 3 rfl⟩))
      clear hK K
      try simp only [Act.put, List.getElem_toArray, List.getElem_cons_zero, List.getElem_cons_succ, List.setIfInBounds_toArray, List.set_cons_zero, List.set_cons_succ]
      clear hHeld
      have hHeld := hHeld2
      clear hHeld2
      refine wpAnyH_ready (rs := [15]) (by kernel_rfl) (by simp) (AllReadyH.cons (o := _) rfl (fun K hK => ?_) AllReadyH.nil)
      go_simp
      go_at_call 18
      refine (nextB_any B K1 _ _ (by omega) (H154.out.tapeAt 5 rfl)).mono ?_
      rintro e w156 ⟨x155, rfl, x155a, x155b, htn, hgn, hsn⟩
      have H157 := hid (H154.out.next 5 rfl htn hgn)
      clear htn hgn hsn
      refine hK.out _ _ ?_ (fun hHeld2 => ?_)
      focus ((try dsimp only); (exact ⟨H157.out.cell 3 rfl 0 rfl, H157.out.cell 3 rfl 1 rfl, H157.out.cell 3 rfl 2 rfl, H157.out.cell 3 rfl 3 rfl⟩))
      clear hK K
      try simp only [Act.put, List.getElem_toArray, List.getElem_cons_zero, List.getElem_cons_succ, List.setIfInBounds_toArray, List.set_cons_zero, List.set_cons_succ]
      clear hHeld
      have hHeld := hHeld2
      clear hHeld2
      refine wpAnyH_take (i := 17) (oi := _) (v := ?_) rfl (by kernel_rfl) (by kernel_rfl) (by kernel_rfl) (fun _ _ _ h => h) (Or.inl ⟨by rfl, ?_⟩) (by assumption) ?_
      rotate_left
      focus (intro wS hSw; (try dsimp only at hSw); go_simp; (try with_reducible rfl))
      try simp only [Act.put, List.getElem_toArray, List.getElem_cons_zero, List.getElem_cons_succ, List.setIfInBounds_toArray, List.set_cons_zero, List.set_cons_succ]
      refine wpAnyH_take (i := 18) (oi := _) (v := ?_) rfl (by kernel_rfl) (by kernel_rfl) (by kernel_rfl) (fun _ _ _ h => h) (Or.inl ⟨by rfl, ?_⟩) (by assumption) ?_
      rotate_left
      focus (intro wS hSw; (try dsimp only at hSw); go_simp; (try with_reducible rfl))
      try simp only [Act.put, List.getElem_toArray, List.getElem_cons_zero, List.getElem_cons_succ, List.setIfInBounds_toArray, List.set_cons_zero, List.set_cons_succ]
      refine wpAnyH_ready (rs := [19]) (by kernel_rfl) (by simp) (AllReadyH.cons (o := _) rfl (fun K hK => ?_) AllReadyH.nil)
      have z158 := H157.out.cell 2 rfl 0 rfl
      have z159 := H157.out.free 2 rfl 0
      have z160 := H157.out.cell 2 rfl 1 rfl
      have z161 := H157.out.free 2 rfl 1
      have H162 := hid (show St B W [.own (.slice wv149a wl150.length wv149c) wl150, .own (.slice wv142a wl143.length wv142c) wl143, .cells D135 #[.int .i64 e152_0, .int .i64 e152_1] 38, .cells D7 #[.int .i64 pw4, .int .i64 ph4, .int .i64 pm4, .slice pv4a ps4.length pv4c] 35, .own (.slice pv4a ps4.length pv4c) ps4, .tape K1] [] ((w156.setCell ⟨D135, 0, none⟩ (.int .i64 e152_0)).setCell ⟨D135, 1, none⟩ (.int .i64 e152_1)) from ((H157.out.set 2 rfl 0 (.int .i64 e152_0)).set 2 rfl 1 (.int .i64 e152_1)))
      go_simp
      refine hK.out _ _ ?_ (fun hHeld2 => ?_)
      focus ((try dsimp only); (exact ⟨H162.out.cell 3 rfl 0 rfl, H162.out.cell 3 rfl 1 rfl, H162.out.cell 3 rfl 2 rfl, H162.out.cell 3 rfl 3 rfl⟩))
      clear hK K hHeld
      try simp only [Act.put, List.getElem_toArray, List.getElem_cons_zero, List.getElem_cons_succ, List.setIfInBounds_toArray, List.set_cons_zero, List.set_cons_succ]
      clear z158 z159 z160 z161
      generalize ((w156.setCell ⟨D135, 0, none⟩ (.int .i64 e152_0)).setCell ⟨D135, 1, none⟩ (.int .i64 e152_1)) = k163 at *
      have hHeld := hHeld2
      clear hHeld2
      refine wpAnyH_take (i := 20) (oi := _) (v := ?_) rfl (by kernel_rfl) (by kernel_rfl) (by kernel_rfl) (fun _ _ _ h => h) (Or.inl ⟨by rfl, ?_⟩) (by assumption) ?_
      rotate_left
      focus (intro wS hSw; (try dsimp only at hSw); go_simp; (try with_reducible rfl))
      try simp only [Act.put, List.getElem_toArray, List.getElem_cons_zero, List.getElem_cons_succ, List.setIfInBounds_toArray, List.set_cons_zero, List.set_cons_succ]
      refine wpAnyH_done (by kernel_rfl) ?_ _
      try clear hHeld
      go_wp2_with fail
      go_meet
      exact ⟨D135, _, _, _, _, _, _, _, _, _, rfl, rfl, rfl, rfl, by have := HWLwl143.out; omega, by have := HWLwl143.out; omega, by have := HWLwl150.out; omega, by have := HWLwl150.out; omega, HWBwl143.out, HWBwl150.out, HEe152.out, by omega, by omega, H162.out.pick [1, 0, 2, 3, 4, 5] rfl (by decide)⟩
  case rest =>
    obtain ⟨RE, wla, wlc, wls, vla, vlc, vls, ep, ef, sh, rfl, rfl, rfl, rfl, hwl1, hwl2, hvl1, hvl2, hwb, hvb, hev, sh1, sh2, hst⟩ := hcut
    obtain ⟨u164, rfl⟩ : ∃ u164 : World, u164 = wc := ⟨_, rfl⟩
    have H165 := hid hst
    clear hst
    have HWLwls := hid (show 1 ≤ wls.length ∧ wls.length ≤ 9 from by omega)
    have HWLvls := hid (show 1 ≤ vls.length ∧ vls.length ≤ 9 from by omega)
    have HWBwls := hid hwb
    have HWBvls := hid hvb
    have HEV := hid hev
    clear hwb hvb hev
    go_wp2_with fail
    obtain ⟨ga, gac, hgg⟩ := (H165.out.own 0 rfl).pos (by omega)
    injection hgg with hga hgb hgc
    subst hga
    clear hgb hgc
    obtain ⟨gb, gbc, hgg⟩ := (H165.out.own 1 rfl).pos (by omega)
    injection hgg with hga hgb hgc
    subst hga
    clear hgb hgc
    have H166 := hid (show St B W [.own (.slice none 0 0) ([]), .own (.slice (some ⟨ga, 0, none⟩) wls.length wlc) wls, .own (.slice (some ⟨gb, 0, none⟩) vls.length vlc) vls, .cells RE #[.int .i64 ep, .int .i64 ef] 38, .cells D7 #[.int .i64 pw4, .int .i64 ph4, .int .i64 pm4, .slice pv4a ps4.length pv4c] 35, .own (.slice pv4a ps4.length pv4c) ps4, .tape K1] [] u164 from H165.out.grow (Below.refl _ _) (Own.nil _ _))
    go_loopw [10, 9] (fun q v wr => ∃ (j : Nat) (xa : Option Addr) (xn xc : Nat), j ≤ vls.length ∧ q = .int .i64 j ∧ v = .slice xa xn xc ∧ St B W [.own (.slice xa xn xc) (gridL (dnF wls vls) wls.length j 0), .own (.slice (some ⟨ga, 0, none⟩) wls.length wlc) wls, .own (.slice (some ⟨gb, 0, none⟩) vls.length vlc) vls, .cells RE #[.int .i64 ep, .int .i64 ef] 38, .cells D7 #[.int .i64 pw4, .int .i64 ph4, .int .i64 pm4, .slice pv4a ps4.length pv4c] 35, .own (.slice pv4a ps4.length pv4c) ps4, .tape K1] [] wr) (fun q v _ => vls.length - (intOf q).toNat)
    case atStart => exact ⟨0, _, _, _, by omega, rfl, rfl, H166.out⟩
    case round =>
      obtain ⟨j, xa, xn, xc, hj, rfl, rfl, hst⟩ := hrel
      obtain ⟨u167, rfl⟩ : ∃ u167 : World, u167 = wr := ⟨_, rfl⟩
      have H168 := hid hst
      clear hst
      by_cases hjv : j < vls.length
      · skip
        have hjv' : (j : Int) < vls.length := by omega
        go_wp2_with fail
        go_loopw [11, 9] (fun q v wr => ∃ (i : Nat) (xa : Option Addr) (xn xc : Nat), i ≤ wls.length ∧ q = .int .i64 i ∧ v = .slice xa xn xc ∧ St B W [.own (.slice xa xn xc) (gridL (dnF wls vls) wls.length j i), .own (.slice (some ⟨ga, 0, none⟩) wls.length wlc) wls, .own (.slice (some ⟨gb, 0, none⟩) vls.length vlc) vls, .cells RE #[.int .i64 ep, .int .i64 ef] 38, .cells D7 #[.int .i64 pw4, .int .i64 ph4, .int .i64 pm4, .slice pv4a ps4.length pv4c] 35, .own (.slice pv4a ps4.length pv4c) ps4, .tape K1] [] wr) (fun q _ _ => wls.length - (intOf q).toNat)
        case atStart => exact ⟨0, _, _, _, by omega, rfl, rfl, H168.out⟩
        case round =>
          obtain ⟨i, xa, xn, xc, hi, rfl, rfl, hst⟩ := hrel
          obtain ⟨u169, rfl⟩ : ∃ u169 : World, u169 = wr := ⟨_, rfl⟩
          have H170 := hid hst
          clear hst
          by_cases hiw : i < wls.length
          · skip
            have hiw' : (i : Int) < wls.length := by omega
            go_upto_region 11 with fail
            obtain ⟨az, haz⟩ : ∃ xx', wls.getD i 0 = xx' := ⟨_, rfl⟩
            obtain ⟨bz, hbz⟩ : ∃ xx', vls.getD j 0 = xx' := ⟨_, rfl⟩
            have hab := mul_abs (c := 20) (m := 20) (by rw [← haz]; exact HWBwls.out i) (by rw [← hbz]; exact HWBvls.out j) (z := az) (v := bz)
            have HGN := hid (show gridL (dnF wls vls) wls.length j i ++ [az * bz] = gridL (dnF wls vls) wls.length j (i + 1) from by rw [gridL_next, ← haz, ← hbz]; rfl)
            have HAZ := hid haz
            have HBZ := hid hbz
            clear haz hbz
            obtain ⟨dz, hdz⟩ : ∃ xx', az * bz = xx' := ⟨_, rfl⟩
            rw [hdz] at hab HGN
            obtain ⟨hab1, hab2⟩ := hab
            have wdz : IntKind.i64.wrap dz = dz := IntWalk.i64_in _ (by omega)
            have H171 := hid H170.out.drew
            refine wp_region_held_drew (S := (fun w' => w'.cell? ⟨ga, i, none⟩ = some (.int .i64 az) ∧ w'.cell? ⟨gb, j, none⟩ = some (.int .i64 bz))) (by kernel_rfl) ⟨(by have := (H171.out.get 1 rfl (j := i) hiw).1; rw [HAZ.out] at this; exact this), (by have := (H171.out.get 2 rfl (j := j) hjv).1; rw [HBZ.out] at this; exact this)⟩ (fun hHeld => ?_)
            generalize u169.drew = k172 at *
            refine wpAnyH_take (i := 0) (oi := _) (v := ?_) rfl (by kernel_rfl) (by kernel_rfl) (by kernel_rfl) (fun _ _ _ h => h) (Or.inl ⟨by rfl, ?_⟩) (by assumption) ?_
            rotate_left
            focus (intro wS hSw; (try dsimp only at hSw); go_simp; (try with_reducible rfl))
            try simp only [Act.put, List.getElem_toArray, List.getElem_cons_zero, List.getElem_cons_succ, List.setIfInBounds_toArray, List.set_cons_zero, List.set_cons_succ]
            refine wpAnyH_take (i := 1) (oi := _) (v := ?_) rfl (by kernel_rfl) (by kernel_rfl) (by kernel_rfl) (fun _ _ _ h => h) (Or.inl ⟨by rfl, ?_⟩) (by assumption) ?_
            rotate_left
            focus (intro wS hSw; (try dsimp only at hSw); go_simp; (try with_reducible rfl))
            try simp only [Act.put, List.getElem_toArray, List.getElem_cons_zero, List.getElem_cons_succ, List.setIfInBounds_toArray, List.set_cons_zero, List.set_cons_succ]
            refine wpAnyH_take (i := 2) (oi := _) (v := ?_) rfl (by kernel_rfl) (by kernel_rfl) (by kernel_rfl) (fun _ _ _ h => h) (Or.inl ⟨by rfl, ?_⟩) (by assumption) ?_
            rotate_left
            focus (intro wS hSw; (try dsimp only at hSw); go_simp; (try with_reducible rfl))
            try simp only [Act.put, List.getElem_toArray, List.getElem_cons_zero, List.getElem_cons_succ, List.setIfInBounds_toArray, List.set_cons_zero, List.set_cons_succ]
            refine wpAnyH_take (i := 3) (oi := _) (v := ?_) rfl (by kernel_rfl) (by kernel_rfl) (by kernel_rfl) (fun _ _ _ h => h) (Or.inl ⟨by rfl, ?_⟩) (by assumption) ?_
            rotate_left
            focus (intro wS hSw; (try dsimp only at hSw); go_simp; (try with_reducible rfl))
            try simp only [Act.put, List.getElem_toArray, List.getElem_cons_zero, List.getElem_cons_succ, List.setIfInBounds_toArray, List.set_cons_zero, List.set_cons_succ]
            refine wpAnyH_take (i := 4) (oi := _) (v := ?_) rfl (by kernel_rfl) (by kernel_rfl) (by kernel_rfl) (fun _ _ _ h => h) (Or.inl ⟨by rfl, ?_⟩) (by assumption) ?_
            rotate_left
            focus (intro wS hSw; (try dsimp only at hSw); go_simp; (try with_reducible rfl))
            try simp only [Act.put, List.getElem_toArray, List.getElem_cons_zero, List.getElem_cons_succ, List.setIfInBounds_toArray, List.set_cons_zero, List.set_cons_succ]
            refine wpAnyH_take (i := 5) (oi := _) (v := ?_) rfl (by kernel_rfl) (by kernel_rfl) (by kernel_rfl) (fun _ _ _ h => h) (Or.inl ⟨by rfl, ?_⟩) (by assumption) ?_
            rotate_left
            focus (intro wS hSw; (try dsimp only at hSw); go_simp; (try with_reducible rfl))
            try simp only [Act.put, List.getElem_toArray, List.getElem_cons_zero, List.getElem_cons_succ, List.setIfInBounds_toArray, List.set_cons_zero, List.set_cons_succ]
            refine wpAnyH_take (i := 6) (oi := _) (v := ?_) rfl (by kernel_rfl) (by kernel_rfl) (by kernel_rfl) (fun _ _ _ h => h) (Or.inl ⟨by rfl, ?_⟩) (by assumption) ?_
            rotate_left
            focus (intro wS hSw; (try dsimp only at hSw); go_simp; (try with_reducible rfl))
            try simp only [Act.put, List.getElem_toArray, List.getElem_cons_zero, List.getElem_cons_succ, List.setIfInBounds_toArray, List.set_cons_zero, List.set_cons_succ]
            refine wpAnyH_take (i := 7) (oi := _) (v := ?_) rfl (by kernel_rfl) (by kernel_rfl) (by kernel_rfl) (fun _ _ _ h => h) (Or.inl ⟨by rfl, ?_⟩) (by assumption) ?_
            rotate_left
            focus (intro wS hSw; (try dsimp only at hSw); go_simp; (try with_reducible rfl))
            try simp only [Act.put, List.getElem_toArray, List.getElem_cons_zero, List.getElem_cons_succ, List.setIfInBounds_toArray, List.set_cons_zero, List.set_cons_succ]
            refine wpAnyH_take (i := 8) (oi := _) (v := ?_) rfl (by kernel_rfl) (by kernel_rfl) (by kernel_rfl) (fun _ _ _ h => h) (Or.inl ⟨by rfl, ?_⟩) (by assumption) ?_
            rotate_left
            focus (intro wS hSw; (try dsimp only at hSw); go_simp; (try with_reducible rfl))
            try simp only [Act.put, List.getElem_toArray, List.getElem_cons_zero, List.getElem_cons_succ, List.setIfInBounds_toArray, List.set_cons_zero, List.set_cons_succ]
            refine wpAnyH_take (i := 9) (oi := _) (v := ?_) rfl (by kernel_rfl) (by kernel_rfl) (by kernel_rfl) (fun _ _ _ h => h) (Or.inl ⟨by rfl, ?_⟩) (by assumption) ?_
            rotate_left
            focus (intro wS hSw; (try dsimp only at hSw); go_simp; (try with_reducible rfl))
            try simp only [Act.put, List.getElem_toArray, List.getElem_cons_zero, List.getElem_cons_succ, List.setIfInBounds_toArray, List.set_cons_zero, List.set_cons_succ]
            refine wpAnyH_ready (rs := [10]) (by kernel_rfl) (by simp) (AllReadyH.cons (o := _) rfl (fun K hK => ?_) AllReadyH.nil)
            obtain ⟨D173, hD173⟩ : ∃ D, k172.heap.size = D := ⟨_, rfl⟩
            have H174 := hid (H171.out.alloc #[.int .i64 dz] 3 hD173)
            go_simp
            refine hK.out _ _ ?_ (fun hHeld2 => ?_)
            focus ((try dsimp only); (exact ⟨(by have := (H174.out.get 2 rfl (j := i) hiw).1; rw [HAZ.out] at this; exact this), (by have := (H174.out.get 3 rfl (j := j) hjv).1; rw [HBZ.out] at this; exact this)⟩))
            clear hK K hHeld
            try simp only [Act.put, List.getElem_toArray, List.getElem_cons_zero, List.getElem_cons_succ, List.setIfInBounds_toArray, List.set_cons_zero, List.set_cons_succ]
            clear hD173
            generalize (k172.alloc (.cells #[.int .i64 dz] 3)) = k175 at *
            have hHeld := hHeld2
            clear hHeld2
            refine wpAnyH_ready (rs := [11]) (by kernel_rfl) (by simp) (AllReadyH.cons (o := _) rfl (fun K hK => ?_) AllReadyH.nil)
            rw [if_pos (by rfl)]
            refine oper_append_int _ _ rfl B _ (gridL (dnF wls vls) wls.length j i) dz D173 1 rfl rfl (H174.out.own 1 rfl) (H174.out.cell 0 rfl 0 rfl) (by rw [gridL_len]; have := Nat.mul_le_mul (show j ≤ 9 by omega) (show wls.length ≤ 9 by omega); omega) H174.out.size ?_
            intro v178 k177 ho hg hv
            have H176 := hid (H174.out.append 1 rfl ho hg hv)
            clear hg hv
            rw [HGN.out] at H176 ho
            obtain ⟨v178a, v178c, hva, _⟩ := ho.slc
            subst hva
            clear ho
            refine hK.out _ _ ?_ (fun hHeld2 => ?_)
            focus ((try dsimp only); (exact ⟨(by have := (H176.out.get 2 rfl (j := i) hiw).1; rw [HAZ.out] at this; exact this), (by have := (H176.out.get 3 rfl (j := j) hjv).1; rw [HBZ.out] at this; exact this)⟩))
            clear hK K
            try simp only [Act.put, List.getElem_toArray, List.getElem_cons_zero, List.getElem_cons_succ, List.setIfInBounds_toArray, List.set_cons_zero, List.set_cons_succ]
            clear hHeld
            have hHeld := hHeld2
            clear hHeld2
            refine wpAnyH_take (i := 12) (oi := _) (v := ?_) rfl (by kernel_rfl) (by kernel_rfl) (by kernel_rfl) (fun _ _ _ h => h) (Or.inl ⟨by rfl, ?_⟩) (by assumption) ?_
            rotate_left
            focus (intro wS hSw; (try dsimp only at hSw); go_simp; (try with_reducible rfl))
            try simp only [Act.put, List.getElem_toArray, List.getElem_cons_zero, List.getElem_cons_succ, List.setIfInBounds_toArray, List.set_cons_zero, List.set_cons_succ]
            refine wpAnyH_done (by kernel_rfl) ?_ _
            try clear hHeld
            clear wdz hdz
            go_wp2_with fail
            go_roundw
            case rel => exact ⟨i + 1, _, _, _, by omega, by go_num, rfl, H176.out.pick [1, 2, 3, 4, 5, 6, 7] rfl (by decide)⟩
            case measure => first | (simp [intOf]; omega) | (simp [intOf]; done)
          · skip
            have hiw' : ¬ ((i : Int) < wls.length) := by omega
            have HIW := hid (show i = wls.length by omega)
            go_wp2_with fail
            go_roundw
            case rel => exact ⟨j + 1, _, _, _, by omega, by go_num, rfl, by rw [show gridL (dnF wls vls) wls.length (j + 1) 0 = gridL (dnF wls vls) wls.length j i by rw [← gridL_row, HIW.out]]; exact H170.out.pick [0, 1, 2, 3, 4, 5, 6] rfl (by decide)⟩
            case measure => first | (simp [intOf]; omega) | (simp [intOf]; done)
      · skip
        have hjv' : ¬ ((j : Int) < vls.length) := by omega
        have HJV := hid (show j = vls.length by omega)
        obtain ⟨dw, hdw⟩ : ∃ xx', gridL (dnF wls vls) wls.length vls.length 0 = xx' := ⟨_, rfl⟩
        have hxl := (H168.out.own 0 rfl).size
        rw [HJV.out, hdw] at H168 hxl
        subst hxl
        have HDW := hid hdw
        have HWLdw := hid (show (dw.length : Int) = (wls.length : Int) * (vls.length : Int) from by rw [← hdw, gridL_len, Nat.add_zero, Nat.mul_comm]; simp)
        have HWBdw := hid (show ∀ i, -400 ≤ dw.getD i 0 ∧ dw.getD i 0 ≤ 400 from fun i => by rw [← hdw]; exact dn_bd HWBwls.out HWBvls.out _ _ i)
        clear hdw
        have z180 := H168.out.cell 4 rfl 0 rfl
        have z181 := H168.out.cell 4 rfl 1 rfl
        have z182 := H168.out.cell 4 rfl 2 rfl
        have z183 := H168.out.cell 4 rfl 3 rfl
        go_wp2_with fail
        clear z180 z181 z182 z183
        refine (within_any B K1 _ _ _ (by omega) (by omega) (by omega) (by omega) (H168.out.tapeAt 6 rfl)).mono ?_
        rintro e w185 ⟨q184_0, q184_1, q184_2, q184_3, rfl, hq184, ht, hg⟩
        have H186 := hid (H168.out.next 6 rfl ht hg)
        have HWq184 := hid hq184
        clear hq184 ht hg
        obtain ⟨hq0, hq1, hq2, hq3, hq4, hq5⟩ := HWq184.out
        obtain ⟨D187, hD187⟩ : ∃ D, w185.heap.size = D := ⟨_, rfl⟩
        go_upto_region 13 with fail
        have H188 := hid (show St B W [.cells D187 #[.int .i64 q184_0, .int .i64 q184_1, .int .i64 q184_2, .int .i64 q184_3] 33, .own (.slice xa dw.length xc) dw, .own (.slice (some ⟨ga, 0, none⟩) wls.length wlc) wls, .own (.slice (some ⟨gb, 0, none⟩) vls.length vlc) vls, .cells RE #[.int .i64 ep, .int .i64 ef] 38, .cells D7 #[.int .i64 pw4, .int .i64 ph4, .int .i64 pm4, .slice pv4a ps4.length pv4c] 35, .own (.slice pv4a ps4.length pv4c) ps4, .tape K1] [] (w185.alloc (.cells #[.int .i64 q184_0, .int .i64 q184_1, .int .i64 q184_2, .int .i64 q184_3] 33)) from (H186.out.alloc #[.int .i64 q184_0, .int .i64 q184_1, .int .i64 q184_2, .int .i64 q184_3] 33 hD187))
        first | refine gen_code H188.out ?_ | refine gen_list H188.out ?_ | refine gen_calls H188.out ?_
        intro w189 hG
        clear H188
        have H188 := hid hG
        clear hG
        clear hD187
        have z190 := H188.out.cell 5 rfl 0 rfl
        have z191 := H188.out.cell 5 rfl 1 rfl
        have z192 := H188.out.cell 5 rfl 2 rfl
        have z193 := H188.out.cell 5 rfl 3 rfl
        have z194 := H188.out.cell 4 rfl 0 rfl
        have z195 := H188.out.cell 4 rfl 1 rfl
        have z196 := H188.out.cell 0 rfl 0 rfl
        have z197 := H188.out.cell 0 rfl 1 rfl
        have z198 := H188.out.cell 0 rfl 2 rfl
        have z199 := H188.out.cell 0 rfl 3 rfl
        go_wp2_with fail
        clear z190 z191 z192 z193 z194 z195 z196 z197 z198 z199
        have hp := pOk_iff.1 (pValid_iff.1 HVps4.out).1
        have hmx := HMps4.out
        have HCK203 := hid (show spCode pm4 wls vls 0 sh 255 = 0 from sp_ok (by have := HWLwls.out; omega) (by have := HWLvls.out; omega) (fun i hi => HWBwls.out i) (fun i hi => HWBvls.out i) (by omega) (by omega) (by omega) (by omega))
        have hct := spT_ok HVps4.out (HEV.out) HCK203.out (r0 := q184_0) (r1 := q184_1) (r2 := q184_2) (r3 := q184_3) (by omega)
        refine (stile_any _ _ _ _ _ _ ps4 _ _ _ _ _ wls _ _ _ vls _ _ _ _ _ _ _ _ (H188.out.slc 6 rfl) (H188.out.slc 2 rfl) (H188.out.slc 3 rfl)).mono ?_
        rintro e w200 ⟨v201, rfl, ho, hb⟩
        rw [hct] at ho ⊢
        simp only [tI, tL, if_pos] at ho ⊢
        clear hct hp hmx
        obtain ⟨l204, hl204⟩ : ∃ xx', spL pw4 ph4 ps4 ep ef wls vls 0 sh 255 q184_0 q184_1 q184_2 q184_3 = xx' := ⟨_, rfl⟩
        rw [hl204] at ho
        have HNl204 := hid hl204
        clear hl204
        obtain ⟨t205, ht205⟩ : ∃ xx', q184_2 - q184_0 = xx' := ⟨_, rfl⟩
        rw [ht205]
        have HNt205 := hid ht205
        clear ht205
        obtain ⟨t206, ht206⟩ : ∃ xx', q184_3 - q184_1 = xx' := ⟨_, rfl⟩
        rw [ht206]
        have HNt206 := hid ht206
        clear ht206
        have H202 := hid (H188.out.grow hb ho)
        obtain ⟨v201a, v201c, rfl, _⟩ := ho.slc
        clear ho hb
        obtain ⟨D207, hD207⟩ : ∃ D, w200.heap.size = D := ⟨_, rfl⟩
        go_upto_region 14 with fail
        have H208 := hid (show St B W [.cells D207 #[.int .i64 t205, .int .i64 t206, .int .i64 255, .slice v201a l204.length v201c] 35, .own (.slice v201a l204.length v201c) l204, .cells D187 #[.int .i64 q184_0, .int .i64 q184_1, .int .i64 q184_2, .int .i64 q184_3] 33, .own (.slice xa dw.length xc) dw, .own (.slice (some ⟨ga, 0, none⟩) wls.length wlc) wls, .own (.slice (some ⟨gb, 0, none⟩) vls.length vlc) vls, .cells RE #[.int .i64 ep, .int .i64 ef] 38, .cells D7 #[.int .i64 pw4, .int .i64 ph4, .int .i64 pm4, .slice pv4a ps4.length pv4c] 35, .own (.slice pv4a ps4.length pv4c) ps4, .tape K1] [] (w200.alloc (.cells #[.int .i64 t205, .int .i64 t206, .int .i64 255, .slice v201a l204.length v201c] 35)) from (H202.out.alloc #[.int .i64 t205, .int .i64 t206, .int .i64 255, .slice v201a l204.length v201c] 35 hD207))
        first | refine gen_code H208.out ?_ | refine gen_list H208.out ?_ | refine gen_calls H208.out ?_
        intro w209 hG
        clear H208
        have H208 := hid hG
        clear hG
        clear hD207
        have z210 := H208.out.cell 7 rfl 0 rfl
        have z211 := H208.out.cell 7 rfl 1 rfl
        have z212 := H208.out.cell 7 rfl 2 rfl
        have z213 := H208.out.cell 7 rfl 3 rfl
        have z214 := H208.out.cell 6 rfl 0 rfl
        have z215 := H208.out.cell 6 rfl 1 rfl
        have z216 := H208.out.cell 2 rfl 0 rfl
        have z217 := H208.out.cell 2 rfl 1 rfl
        have z218 := H208.out.cell 2 rfl 2 rfl
        have z219 := H208.out.cell 2 rfl 3 rfl
        go_wp2_with fail
        clear z210 z211 z212 z213 z214 z215 z216 z217 z218 z219
        have hp := pOk_iff.1 (pValid_iff.1 HVps4.out).1
        have hmx := HMps4.out
        have HCK223 := hid (show cvCode pm4 wls.length vls.length dw sh 255 = 0 from cv_ok (by omega) (by omega) HWLdw.out (fun i hi => HWBdw.out i) (by omega) (by omega) (by omega))
        have hct := cvT_ok HVps4.out HEV.out HCK223.out (r0 := q184_0) (r1 := q184_1) (r2 := q184_2) (r3 := q184_3) (by omega)
        refine (ctile_any _ _ _ _ _ _ ps4 _ _ _ _ _ _ _ dw _ _ _ _ _ _ _ (H208.out.slc 8 rfl) (H208.out.slc 3 rfl)).mono ?_
        rintro e w220 ⟨v221, rfl, ho, hb⟩
        rw [hct] at ho ⊢
        simp only [tI, tL, if_pos] at ho ⊢
        rw [show cvL pw4 ph4 ps4 ep ef wls.length vls.length dw sh 255 q184_0 q184_1 q184_2 q184_3 = spL pw4 ph4 ps4 ep ef wls vls 0 sh 255 q184_0 q184_1 q184_2 q184_3 from by rw [← HDW.out]; exact dense_all HVps4.out HEV.out hmx HWLwls.out HWBwls.out _ _ _ _ _ _] at ho
        clear hct hp hmx
        rw [HNl204.out] at ho
        rw [HNt205.out]
        rw [HNt206.out]
        have H222 := hid (H208.out.grow hb ho)
        obtain ⟨v221a, v221c, rfl, _⟩ := ho.slc
        clear ho hb
        obtain ⟨D224, hD224⟩ : ∃ D, w220.heap.size = D := ⟨_, rfl⟩
        go_upto_region 15 with fail
        have H225 := hid (show St B W [.cells D224 #[.int .i64 t205, .int .i64 t206, .int .i64 255, .slice v221a l204.length v221c] 35, .own (.slice v221a l204.length v221c) l204, .cells D207 #[.int .i64 t205, .int .i64 t206, .int .i64 255, .slice v201a l204.length v201c] 35, .own (.slice v201a l204.length v201c) l204, .cells D187 #[.int .i64 q184_0, .int .i64 q184_1, .int .i64 q184_2, .int .i64 q184_3] 33, .own (.slice xa dw.length xc) dw, .own (.slice (some ⟨ga, 0, none⟩) wls.length wlc) wls, .own (.slice (some ⟨gb, 0, none⟩) vls.length vlc) vls, .cells RE #[.int .i64 ep, .int .i64 ef] 38, .cells D7 #[.int .i64 pw4, .int .i64 ph4, .int .i64 pm4, .slice pv4a ps4.length pv4c] 35, .own (.slice pv4a ps4.length pv4c) ps4, .tape K1] [] (w220.alloc (.cells #[.int .i64 t205, .int .i64 t206, .int .i64 255, .slice v221a l204.length v221c] 35)) from (H222.out.alloc #[.int .i64 t205, .int .i64 t206, .int .i64 255, .slice v221a l204.length v221c] 35 hD224))
        first | refine gen_code H225.out ?_ | refine gen_list H225.out ?_ | refine gen_calls H225.out ?_
        intro w226 hG
        clear H225
        have H225 := hid hG
        clear hG
        clear hD224
        have z227 := H225.out.cell 2 rfl 0 rfl
        have z228 := H225.out.cell 2 rfl 1 rfl
        have z229 := H225.out.cell 2 rfl 2 rfl
        have z230 := H225.out.cell 2 rfl 3 rfl
        have z231 := H225.out.cell 0 rfl 0 rfl
        have z232 := H225.out.cell 0 rfl 1 rfl
        have z233 := H225.out.cell 0 rfl 2 rfl
        have z234 := H225.out.cell 0 rfl 3 rfl
        go_wp2_with fail
        clear z227 z228 z229 z230 z231 z232 z233 z234
        refine (qequal_any _ _ _ _ _ _ l204 _ _ _ _ _ _ l204 _ (H225.out.slc 3 rfl) (H225.out.slc 1 rfl)).mono ?_
        rintro e w235 ⟨rfl, hb⟩
        have H236 := hid (H225.out.call hb)
        clear hb
        rw [show pEq t205 t206 255 l204 t205 t206 255 l204 = true from by simp [pEq]]
        go_wp2_with fail
        refine (sane10 _).mono ?_
        rintro e w237 ⟨rfl, hb⟩
        have H238 := hid (H236.out.call hb)
        clear hb
        go_wp2_with fail
        go_ret
        exact ⟨rfl, by first | exact H238.out.below | exact H238.out.below'⟩
end Go.Proofs.Ytkpdahjddjdgcaa
