/-
  The walk of SeparableTurns: turning a plane and exchanging rows and columns turns the result.
-/
import Derived.Test.YtkpdahjddjdgcaaSane10
import Derived.Test.YtkpdahjddjdgcaaTurn
import Derived.Test.YtkpdahjddjdgcaaWeights
import Derived.Test.YtkpdahjddjdgcaaEdgeOk
import Derived.Test.YtkpdahjddjdgcaaKX
namespace Go.Proofs.Ytkpdahjddjdgcaa
open Go.RowKit
attribute [local go_sem ↓] Go.wp_at_zero Go.wp_at_succ
set_option linter.unusedVariables false
set_option linter.unusedSimpArgs false

set_option maxRecDepth 100000 in
set_option maxHeartbeats 12800000 in
theorem walk_SeparableTurns (a : Option Addr) (n c : Nat) (zs : List Int) (W : World) (hr : RowIn .i64 W a n c zs) :
    Calls Try.prog 11 #[.slice a n c] W fun e w' => e = .returned (.bool true) ∧ Below W.heap.size W w' := by
  obtain ⟨B, hB⟩ : ∃ B, W.heap.size = B := ⟨_, rfl⟩
  have HI0 := hid (St.init hB)
  have HN := hid (nearRow hr hB)
  have HR := hid hr
  clear hr
  go_enter Try.func11, Try.ntmps11
  go_wp2_with fail
  obtain ⟨K1, hK1⟩ : ∃ D, W.heap.size = D := ⟨_, rfl⟩
  refine (newB_any B _ _ _ _ _ HR.out.len (HI0.out.oldRow HR.out.row) HN.out HI0.out.size).mono ?_
  rintro e w2 ⟨rfl, ht, hb, hs⟩
  rw [hK1] at ht ⊢
  have H3 := hid (HI0.out.newTape ht hb hK1)
  clear ht hb hs hK1
  go_wp2_with fail
  refine (plane_any B K1 _ (H3.out.tapeAt 0 rfl)).mono ?_
  rintro e w5 ⟨pw4, ph4, pw41, pw42, ph41, ph42, pm4, pv4, ps4, rfl, hv, hm, ho, ht, hg⟩
  have H6 := hid (H3.out.add (H3.out.next 0 rfl ht hg) ho)
  have HVps4 := hid hv
  have HMps4 := hid hm
  obtain ⟨pv4a, pv4c, rfl, _⟩ := ho.slc
  clear hv hm ho ht hg
  obtain ⟨D7, hD7⟩ : ∃ D, w5.heap.size = D := ⟨_, rfl⟩
  go_upto_region 3 with fail
  have H8 := hid (show St B W [.cells D7 #[.int .i64 pw4, .int .i64 ph4, .int .i64 pm4, .slice pv4a ps4.length pv4c] 35, .own (.slice pv4a ps4.length pv4c) ps4, .tape K1] [] (w5.alloc (.cells #[.int .i64 pw4, .int .i64 ph4, .int .i64 pm4, .slice pv4a ps4.length pv4c] 35)) from (H6.out.alloc #[.int .i64 pw4, .int .i64 ph4, .int .i64 pm4, .slice pv4a ps4.length pv4c] 35 hD7))
  first | refine gen_code H8.out ?_ | refine gen_list H8.out ?_ | refine gen_calls H8.out ?_
  intro w9 hG
  clear H8
  have H8 := hid hG
  clear hG
  clear hD7
  have hmb := HMps4.out
  obtain ⟨_, _, _, _, _, hm1, _⟩ := pOk_iff.1 (pValid_iff.1 HVps4.out).1
  go_cut [5, 6, 7, 8] (fun s s1 s2 s3 wx => ∃ (RE : Nat) (wla : Option Addr) (wlc : Nat) (wls : List Int) (vla : Option Addr) (vlc : Nat) (vls : List Int) (ep ef sh : Int), s = .slice wla wls.length wlc ∧ s1 = .slice vla vls.length vlc ∧ s2 = .pointer (some ⟨RE, 0, none⟩) ∧ s3 = .int .i64 sh ∧ 1 ≤ wls.length ∧ wls.length ≤ 9 ∧ 1 ≤ vls.length ∧ vls.length ≤ 9 ∧ (∀ i, -20 ≤ wls.getD i 0 ∧ wls.getD i 0 ≤ 20) ∧ (∀ i, -20 ≤ vls.getD i 0 ∧ vls.getD i 0 ≤ 20) ∧ bValid ep ef pm4 = true ∧ 0 ≤ sh ∧ sh ≤ 6 ∧ St B W [.own (.slice wla wls.length wlc) wls, .own (.slice vla vls.length vlc) vls, .cells RE #[.int .i64 ep, .int .i64 ef] 38, .cells D7 #[.int .i64 pw4, .int .i64 ph4, .int .i64 pm4, .slice pv4a ps4.length pv4c] 35, .own (.slice pv4a ps4.length pv4c) ps4, .tape K1] [] wx)
  case first =>
    go_upto_region 3 with fail
    have H10 := hid H8.out.drew
    refine wp_region_held_drew (S := (fun w' => w'.cell? ⟨D7, 0, none⟩ = some (.int .i64 pw4) ∧ w'.cell? ⟨D7, 1, none⟩ = some (.int .i64 ph4) ∧ w'.cell? ⟨D7, 2, none⟩ = some (.int .i64 pm4) ∧ w'.cell? ⟨D7, 3, none⟩ = some (.slice pv4a ps4.length pv4c))) (by kernel_rfl) ⟨H10.out.cell 0 rfl 0 rfl, H10.out.cell 0 rfl 1 rfl, H10.out.cell 0 rfl 2 rfl, H10.out.cell 0 rfl 3 rfl⟩ (fun hHeld => ?_)
    generalize w9.drew = k11 at *
    refine wpAnyH_take (i := 0) (oi := _) (v := ?_) rfl (by kernel_rfl) (by kernel_rfl) (by kernel_rfl) (fun _ _ _ h => h) (Or.inl ⟨by rfl, ?_⟩) (by assumption) ?_
    rotate_left
    focus (intro wS hSw; (try dsimp only at hSw); go_simp; (try with_reducible rfl))
    try simp only [Act.put, List.getElem_toArray, List.getElem_cons_zero, List.getElem_cons_succ, List.setIfInBounds_toArray, List.set_cons_zero, List.set_cons_succ]
    refine wpAnyH_take (i := 1) (oi := _) (v := ?_) rfl (by kernel_rfl) (by kernel_rfl) (by kernel_rfl) (fun _ _ _ h => h) (Or.inl ⟨by rfl, ?_⟩) (by assumption) ?_
    rotate_left
    focus (intro wS hSw; (try dsimp only at hSw); go_simp; (try with_reducible rfl))
    try simp only [Act.put, List.getElem_toArray, List.getElem_cons_zero, List.getElem_cons_succ, List.setIfInBounds_toArray, List.set_cons_zero, List.set_cons_succ]
    refine wpAnyH_take (i := 5) (oi := _) (v := ?_) rfl (by kernel_rfl) (by kernel_rfl) (by kernel_rfl) (fun _ _ _ h => h) (Or.inl ⟨by rfl, ?_⟩) (by assumption) ?_
    rotate_left
    focus (intro wS hSw; (try dsimp only at hSw); go_simp; (try with_reducible rfl))
    try simp only [Act.put, List.getElem_toArray, List.getElem_cons_zero, List.getElem_cons_succ, List.setIfInBounds_toArray, List.set_cons_zero, List.set_cons_succ]
    refine wpAnyH_take (i := 6) (oi := _) (v := ?_) rfl (by kernel_rfl) (by kernel_rfl) (by kernel_rfl) (fun _ _ _ h => h) (Or.inl ⟨by rfl, ?_⟩) (by assumption) ?_
    rotate_left
    focus (intro wS hSw; (try dsimp only at hSw); go_simp; (try with_reducible rfl))
    try simp only [Act.put, List.getElem_toArray, List.getElem_cons_zero, List.getElem_cons_succ, List.setIfInBounds_toArray, List.set_cons_zero, List.set_cons_succ]
    refine wpAnyH_take (i := 10) (oi := _) (v := ?_) rfl (by kernel_rfl) (by kernel_rfl) (by kernel_rfl) (fun _ _ _ h => h) (Or.inl ⟨by rfl, ?_⟩) (by assumption) ?_
    rotate_left
    focus (intro wS hSw; (try dsimp only at hSw); go_simp; (try with_reducible rfl))
    try simp only [Act.put, List.getElem_toArray, List.getElem_cons_zero, List.getElem_cons_succ, List.setIfInBounds_toArray, List.set_cons_zero, List.set_cons_succ]
    refine wpAnyH_take (i := 11) (oi := _) (v := ?_) rfl (by kernel_rfl) (by kernel_rfl) (by kernel_rfl) (fun _ _ _ h => h) (Or.inl ⟨by rfl, ?_⟩) (by assumption) ?_
    rotate_left
    focus (intro wS hSw; (try dsimp only at hSw); go_simp; (try with_reducible rfl))
    try simp only [Act.put, List.getElem_toArray, List.getElem_cons_zero, List.getElem_cons_succ, List.setIfInBounds_toArray, List.set_cons_zero, List.set_cons_succ]
    refine wpAnyH_take (i := 12) (oi := _) (v := ?_) rfl (by kernel_rfl) (by kernel_rfl) (by kernel_rfl) (fun _ _ _ h => h) (Or.inl ⟨by rfl, ?_⟩) (by assumption) ?_
    rotate_left
    focus (intro wS hSw; (try dsimp only at hSw); go_simp; (try with_reducible rfl))
    try simp only [Act.put, List.getElem_toArray, List.getElem_cons_zero, List.getElem_cons_succ, List.setIfInBounds_toArray, List.set_cons_zero, List.set_cons_succ]
    refine wpAnyH_take (i := 14) (oi := _) (v := ?_) rfl (by kernel_rfl) (by kernel_rfl) (by kernel_rfl) (fun _ _ _ h => h) (Or.inl ⟨by rfl, ?_⟩) (by assumption) ?_
    rotate_left
    focus (intro wS hSw; (try dsimp only at hSw); go_simp; (try with_reducible rfl))
    try simp only [Act.put, List.getElem_toArray, List.getElem_cons_zero, List.getElem_cons_succ, List.setIfInBounds_toArray, List.set_cons_zero, List.set_cons_succ]
    refine wpAnyH_ready (rs := [2, 16]) (by kernel_rfl) (by simp) (AllReadyH.cons (o := _) rfl (fun K hK => ?_) (AllReadyH.cons (o := _) rfl (fun K hK => ?_) AllReadyH.nil))
    · go_simp
      go_at_call 18
      refine (nextB_any B K1 _ _ (by omega) (H10.out.tapeAt 2 rfl)).mono ?_
      rintro e w13 ⟨x12, rfl, x12a, x12b, htn, hgn, hsn⟩
      have H14 := hid (H10.out.next 2 rfl htn hgn)
      clear htn hgn hsn
      have wnx12 : IntKind.i64.wrap (1 + x12) = 1 + x12 := IntWalk.i64_in _ (by omega)
      refine hK.out _ _ ?_ (fun hHeld2 => ?_)
      focus ((try dsimp only); (exact ⟨H14.out.cell 0 rfl 0 rfl, H14.out.cell 0 rfl 1 rfl, H14.out.cell 0 rfl 2 rfl, H14.out.cell 0 rfl 3 rfl⟩))
      clear hK K
      try simp only [Act.put, List.getElem_toArray, List.getElem_cons_zero, List.getElem_cons_succ, List.setIfInBounds_toArray, List.set_cons_zero, List.set_cons_succ]
      clear hHeld
      have hHeld := hHeld2
      clear hHeld2
      refine wpAnyH_take (i := 3) (oi := _) (v := ?_) rfl (by kernel_rfl) (by kernel_rfl) (by kernel_rfl) (fun _ _ _ h => h) (Or.inl ⟨by rfl, ?_⟩) (by assumption) ?_
      rotate_left
      focus (intro wS hSw; (try dsimp only at hSw); go_simp; (try with_reducible rfl))
      try simp only [Act.put, List.getElem_toArray, List.getElem_cons_zero, List.getElem_cons_succ, List.setIfInBounds_toArray, List.set_cons_zero, List.set_cons_succ]
      refine wpAnyH_ready (rs := [4, 16]) (by kernel_rfl) (by simp) (AllReadyH.cons (o := _) rfl (fun K hK => ?_) (AllReadyH.cons (o := _) rfl (fun K hK => ?_) AllReadyH.nil))
      · go_simp
        go_at_call 19
        refine (weights_any B K1 _ _ (by omega) (H14.out.tapeAt 2 rfl)).mono ?_
        rintro e w15 ⟨wv16, wl17, rfl, hlen, hin, ho, ht, hg⟩
        have H18 := hid (H14.out.add (H14.out.next 2 rfl ht hg) ho)
        have HWLwl17 := hid hlen
        have HWBwl17 := hid hin
        obtain ⟨wv16a, wv16c, rfl, _⟩ := ho.slc
        clear hlen hin ho ht hg
        refine hK.out _ _ ?_ (fun hHeld2 => ?_)
        focus ((try dsimp only); (exact ⟨H18.out.cell 1 rfl 0 rfl, H18.out.cell 1 rfl 1 rfl, H18.out.cell 1 rfl 2 rfl, H18.out.cell 1 rfl 3 rfl⟩))
        clear hK K
        try simp only [Act.put, List.getElem_toArray, List.getElem_cons_zero, List.getElem_cons_succ, List.setIfInBounds_toArray, List.set_cons_zero, List.set_cons_succ]
        clear hHeld
        have hHeld := hHeld2
        clear hHeld2
        refine wpAnyH_ready (rs := [7, 16]) (by kernel_rfl) (by simp) (AllReadyH.cons (o := _) rfl (fun K hK => ?_) (AllReadyH.cons (o := _) rfl (fun K hK => ?_) AllReadyH.nil))
        · go_simp
          go_at_call 18
          refine (nextB_any B K1 _ _ (by omega) (H18.out.tapeAt 3 rfl)).mono ?_
          rintro e w20 ⟨x19, rfl, x19a, x19b, htn, hgn, hsn⟩
          have H21 := hid (H18.out.next 3 rfl htn hgn)
          clear htn hgn hsn
          have wnx19 : IntKind.i64.wrap (1 + x19) = 1 + x19 := IntWalk.i64_in _ (by omega)
          refine hK.out _ _ ?_ (fun hHeld2 => ?_)
          focus ((try dsimp only); (exact ⟨H21.out.cell 1 rfl 0 rfl, H21.out.cell 1 rfl 1 rfl, H21.out.cell 1 rfl 2 rfl, H21.out.cell 1 rfl 3 rfl⟩))
          clear hK K
          try simp only [Act.put, List.getElem_toArray, List.getElem_cons_zero, List.getElem_cons_succ, List.setIfInBounds_toArray, List.set_cons_zero, List.set_cons_succ]
          clear hHeld
          have hHeld := hHeld2
          clear hHeld2
          refine wpAnyH_take (i := 8) (oi := _) (v := ?_) rfl (by kernel_rfl) (by kernel_rfl) (by kernel_rfl) (fun _ _ _ h => h) (Or.inl ⟨by rfl, ?_⟩) (by assumption) ?_
          rotate_left
          focus (intro wS hSw; (try dsimp only at hSw); go_simp; (try with_reducible rfl))
          try simp only [Act.put, List.getElem_toArray, List.getElem_cons_zero, List.getElem_cons_succ, List.setIfInBounds_toArray, List.set_cons_zero, List.set_cons_succ]
          refine wpAnyH_ready (rs := [9, 16]) (by kernel_rfl) (by simp) (AllReadyH.cons (o := _) rfl (fun K hK => ?_) (AllReadyH.cons (o := _) rfl (fun K hK => ?_) AllReadyH.nil))
          · go_simp
            go_at_call 19
            refine (weights_any B K1 _ _ (by omega) (H21.out.tapeAt 3 rfl)).mono ?_
            rintro e w22 ⟨wv23, wl24, rfl, hlen, hin, ho, ht, hg⟩
            have H25 := hid (H21.out.add (H21.out.next 3 rfl ht hg) ho)
            have HWLwl24 := hid hlen
            have HWBwl24 := hid hin
            obtain ⟨wv23a, wv23c, rfl, _⟩ := ho.slc
            clear hlen hin ho ht hg
            refine hK.out _ _ ?_ (fun hHeld2 => ?_)
            focus ((try dsimp only); (exact ⟨H25.out.cell 2 rfl 0 rfl, H25.out.cell 2 rfl 1 rfl, H25.out.cell 2 rfl 2 rfl, H25.out.cell 2 rfl 3 rfl⟩))
            clear hK K
            try simp only [Act.put, List.getElem_toArray, List.getElem_cons_zero, List.getElem_cons_succ, List.setIfInBounds_toArray, List.set_cons_zero, List.set_cons_succ]
            clear hHeld
            have hHeld := hHeld2
            clear hHeld2
            refine wpAnyH_ready (rs := [13, 16]) (by kernel_rfl) (by simp) (AllReadyH.cons (o := _) rfl (fun K hK => ?_) (AllReadyH.cons (o := _) rfl (fun K hK => ?_) AllReadyH.nil))
            · go_simp
              go_at_call 25
              refine (edgeok_any B K1 _ _ (by omega) (H25.out.tapeAt 4 rfl)).mono ?_
              rintro e w27 ⟨e26_0, e26_1, rfl, hev, ht, hg⟩
              have H28 := hid (H25.out.next 4 rfl ht hg)
              have HEe26 := hid hev
              clear ht hg hev
              refine hK.out _ _ ?_ (fun hHeld2 => ?_)
              focus ((try dsimp only); (exact ⟨H28.out.cell 2 rfl 0 rfl, H28.out.cell 2 rfl 1 rfl, H28.out.cell 2 rfl 2 rfl, H28.out.cell 2 rfl 3 rfl⟩))
              clear hK K
              try simp only [Act.put, List.getElem_toArray, List.getElem_cons_zero, List.getElem_cons_succ, List.setIfInBounds_toArray, List.set_cons_zero, List.set_cons_succ]
              clear hHeld
              have hHeld := hHeld2
              clear hHeld2
              refine wpAnyH_ready (rs := [15, 16]) (by kernel_rfl) (by simp) (AllReadyH.cons (o := _) rfl (fun K hK => ?_) (AllReadyH.cons (o := _) rfl (fun K hK => ?_) AllReadyH.nil))
              · go_simp
                go_at_call 18
                refine (nextB_any B K1 _ _ (by omega) (H28.out.tapeAt 4 rfl)).mono ?_
                rintro e w30 ⟨x29, rfl, x29a, x29b, htn, hgn, hsn⟩
                have H31 := hid (H28.out.next 4 rfl htn hgn)
                clear htn hgn hsn
                refine hK.out _ _ ?_ (fun hHeld2 => ?_)
                focus ((try dsimp only); (exact ⟨H31.out.cell 2 rfl 0 rfl, H31.out.cell 2 rfl 1 rfl, H31.out.cell 2 rfl 2 rfl, H31.out.cell 2 rfl 3 rfl⟩))
                clear hK K
                try simp only [Act.put, List.getElem_toArray, List.getElem_cons_zero, List.getElem_cons_succ, List.setIfInBounds_toArray, List.set_cons_zero, List.set_cons_succ]
                clear hHeld
                have hHeld := hHeld2
                clear hHeld2
                refine wpAnyH_ready (rs := [16]) (by kernel_rfl) (by simp) (AllReadyH.cons (o := _) rfl (fun K hK => ?_) AllReadyH.nil)
                obtain ⟨D32, hD32⟩ : ∃ D, w30.heap.size = D := ⟨_, rfl⟩
                have H33 := hid (H31.out.alloc #[.int .i64 0, .int .i64 0] 38 hD32)
                go_simp
                refine hK.out _ _ ?_ (fun hHeld2 => ?_)
                focus ((try dsimp only); (exact ⟨H33.out.cell 3 rfl 0 rfl, H33.out.cell 3 rfl 1 rfl, H33.out.cell 3 rfl 2 rfl, H33.out.cell 3 rfl 3 rfl⟩))
                clear hK K hHeld
                try simp only [Act.put, List.getElem_toArray, List.getElem_cons_zero, List.getElem_cons_succ, List.setIfInBounds_toArray, List.set_cons_zero, List.set_cons_succ]
                clear hD32
                generalize (w30.alloc (.cells #[.int .i64 0, .int .i64 0] 38)) = k34 at *
                have hHeld := hHeld2
                clear hHeld2
                refine wpAnyH_take (i := 17) (oi := _) (v := ?_) rfl (by kernel_rfl) (by kernel_rfl) (by kernel_rfl) (fun _ _ _ h => h) (Or.inl ⟨by rfl, ?_⟩) (by assumption) ?_
                rotate_left
                focus (intro wS hSw; (try dsimp only at hSw); go_simp; (try with_reducible rfl))
                try simp only [Act.put, List.getElem_toArray, List.getElem_cons_zero, List.getElem_cons_succ, List.setIfInBounds_toArray, List.set_cons_zero, List.set_cons_succ]
                refine wpAnyH_take (i := 18) (oi := _) (v := ?_) rfl (by kernel_rfl) (by kernel_rfl) (by kernel_rfl) (fun _ _ _ h => h) (Or.inl ⟨by rfl, ?_⟩) (by assumption) ?_
                rotate_left
                focus (intro wS hSw; (try dsimp only at hSw); go_simp; (try with_reducible rfl))
                try simp only [Act.put, List.getElem_toArray, List.getElem_cons_zero, List.getElem_cons_succ, List.setIfInBounds_toArray, List.set_cons_zero, List.set_cons_succ]
                refine wpAnyH_ready (rs := [19]) (by kernel_rfl) (by simp) (AllReadyH.cons (o := _) rfl (fun K hK => ?_) AllReadyH.nil)
                have z35 := H33.out.cell 0 rfl 0 rfl
                have z36 := H33.out.free 0 rfl 0
                have z37 := H33.out.cell 0 rfl 1 rfl
                have z38 := H33.out.free 0 rfl 1
                have H39 := hid (show St B W [.cells D32 #[.int .i64 e26_0, .int .i64 e26_1] 38, .own (.slice wv23a wl24.length wv23c) wl24, .own (.slice wv16a wl17.length wv16c) wl17, .cells D7 #[.int .i64 pw4, .int .i64 ph4, .int .i64 pm4, .slice pv4a ps4.length pv4c] 35, .own (.slice pv4a ps4.length pv4c) ps4, .tape K1] [] ((k34.setCell ⟨D32, 0, none⟩ (.int .i64 e26_0)).setCell ⟨D32, 1, none⟩ (.int .i64 e26_1)) from ((H33.out.set 0 rfl 0 (.int .i64 e26_0)).set 0 rfl 1 (.int .i64 e26_1)))
                go_simp
                refine hK.out _ _ ?_ (fun hHeld2 => ?_)
                focus ((try dsimp only); (exact ⟨H39.out.cell 3 rfl 0 rfl, H39.out.cell 3 rfl 1 rfl, H39.out.cell 3 rfl 2 rfl, H39.out.cell 3 rfl 3 rfl⟩))
                clear hK K hHeld
                try simp only [Act.put, List.getElem_toArray, List.getElem_cons_zero, List.getElem_cons_succ, List.setIfInBounds_toArray, List.set_cons_zero, List.set_cons_succ]
                clear z35 z36 z37 z38
                generalize ((k34.setCell ⟨D32, 0, none⟩ (.int .i64 e26_0)).setCell ⟨D32, 1, none⟩ (.int .i64 e26_1)) = k40 at *
                have hHeld := hHeld2
                clear hHeld2
                refine wpAnyH_take (i := 20) (oi := _) (v := ?_) rfl (by kernel_rfl) (by kernel_rfl) (by kernel_rfl) (fun _ _ _ h => h) (Or.inl ⟨by rfl, ?_⟩) (by assumption) ?_
                rotate_left
                focus (intro wS hSw; (try dsimp only at hSw); go_simp; (try with_reducible rfl))
                try simp only [Act.put, List.getElem_toArray, List.getElem_cons_zero, List.getElem_cons_succ, List.setIfInBounds_toArray, List.set_cons_zero, List.set_cons_succ]
                refine wpAnyH_done (by kernel_rfl) ?_ _
                try clear hHeld
                go_wp2_with fail
                go_meet
                exact ⟨D32, _, _, _, _, _, _, _, _, _, rfl, rfl, rfl, rfl, by have := HWLwl17.out; omega, by have := HWLwl17.out; omega, by have := HWLwl24.out; omega, by have := HWLwl24.out; omega, HWBwl17.out, HWBwl24.out, HEe26.out, by omega, by omega, H39.out.pick [2, 1, 0, 3, 4, 5] rfl (by decide)⟩
              · obtain ⟨D41, hD41⟩ : ∃ D, w27.heap.size = D := ⟨_, rfl⟩
                have H42 := hid (H28.out.alloc #[.int .i64 0, .int .i64 0] 38 hD41)
                go_simp
                refine hK.out _ _ ?_ (fun hHeld2 => ?_)
                focus ((try dsimp only); (exact ⟨H42.out.cell 3 rfl 0 rfl, H42.out.cell 3 rfl 1 rfl, H42.out.cell 3 rfl 2 rfl, H42.out.cell 3 rfl 3 rfl⟩))
                clear hK K hHeld
                try simp only [Act.put, List.getElem_toArray, List.getElem_cons_zero, List.getElem_cons_succ, List.setIfInBounds_toArray, List.set_cons_zero, List.set_cons_succ]
                clear hD41
                generalize (w27.alloc (.cells #[.int .i64 0, .int .i64 0] 38)) = k43 at *
                have hHeld := hHeld2
                clear hHeld2
                refine wpAnyH_ready (rs := [15]) (by kernel_rfl) (by simp) (AllReadyH.cons (o := _) rfl (fun K hK => ?_) AllReadyH.nil)
                go_simp
                go_at_call 18
                refine (nextB_any B K1 _ _ (by omega) (H42.out.tapeAt 5 rfl)).mono ?_
                rintro e w45 ⟨x44, rfl, x44a, x44b, htn, hgn, hsn⟩
                have H46 := hid (H42.out.next 5 rfl htn hgn)
                clear htn hgn hsn
                refine hK.out _ _ ?_ (fun hHeld2 => ?_)
                focus ((try dsimp only); (exact ⟨H46.out.cell 3 rfl 0 rfl, H46.out.cell 3 rfl 1 rfl, H46.out.cell 3 rfl 2 rfl, H46.out.cell 3 rfl 3 rfl⟩))
                clear hK K
                try simp only [Act.put, List.getElem_toArray, List.getElem_cons_zero, List.getElem_cons_succ, List.setIfInBounds_toArray, List.set_cons_zero, List.set_cons_succ]
                clear hHeld
                have hHeld := hHeld2
                clear hHeld2
                refine wpAnyH_take (i := 17) (oi := _) (v := ?_) rfl (by kernel_rfl) (by kernel_rfl) (by kernel_rfl) (fun _ _ _ h => h) (Or.inl ⟨by rfl, ?_⟩) (by assumption) ?_
                rotate_left
                focus (intro wS hSw; (try dsimp only at hSw); go_simp; (try with_reducible rfl))
                try simp only [Act.put, List.getElem_toArray, List.getElem_cons_zero, List.getElem_cons_succ, List.setIfInBounds_toArray, List.set_cons_zero, List.set_cons_succ]
                refine wpAnyH_take (i := 18) (oi := _) (v := ?_) rfl (by kernel_rfl) (by kernel_rfl) (by kernel_rfl) (fun _ _ _ h => h) (Or.inl ⟨by rfl, ?_⟩) (by assumption) ?_
                rotate_left
                focus (intro wS hSw; (try dsimp only at hSw); go_simp; (try with_reducible rfl))
                try simp only [Act.put, List.getElem_toArray, List.getElem_cons_zero, List.getElem_cons_succ, List.setIfInBounds_toArray, List.set_cons_zero, List.set_cons_succ]
                refine wpAnyH_ready (rs := [19]) (by kernel_rfl) (by simp) (AllReadyH.cons (o := _) rfl (fun K hK => ?_) AllReadyH.nil)
                have z47 := H46.out.cell 0 rfl 0 rfl
                have z48 := H46.out.free 0 rfl 0
                have z49 := H46.out.cell 0 rfl 1 rfl
                have z50 := H46.out.free 0 rfl 1
                have H51 := hid (show St B W [.cells D41 #[.int .i64 e26_0, .int .i64 e26_1] 38, .own (.slice wv23a wl24.length wv23c) wl24, .own (.slice wv16a wl17.length wv16c) wl17, .cells D7 #[.int .i64 pw4, .int .i64 ph4, .int .i64 pm4, .slice pv4a ps4.length pv4c] 35, .own (.slice pv4a ps4.length pv4c) ps4, .tape K1] [] ((w45.setCell ⟨D41, 0, none⟩ (.int .i64 e26_0)).setCell ⟨D41, 1, none⟩ (.int .i64 e26_1)) from ((H46.out.set 0 rfl 0 (.int .i64 e26_0)).set 0 rfl 1 (.int .i64 e26_1)))
                go_simp
                refine hK.out _ _ ?_ (fun hHeld2 => ?_)
                focus ((try dsimp only); (exact ⟨H51.out.cell 3 rfl 0 rfl, H51.out.cell 3 rfl 1 rfl, H51.out.cell 3 rfl 2 rfl, H51.out.cell 3 rfl 3 rfl⟩))
                clear hK K hHeld
                try simp only [Act.put, List.getElem_toArray, List.getElem_cons_zero, List.getElem_cons_succ, List.setIfInBounds_toArray, List.set_cons_zero, List.set_cons_succ]
                clear z47 z48 z49 z50
                generalize ((w45.setCell ⟨D41, 0, none⟩ (.int .i64 e26_0)).setCell ⟨D41, 1, none⟩ (.int .i64 e26_1)) = k52 at *
                have hHeld := hHeld2
                clear hHeld2
                refine wpAnyH_take (i := 20) (oi := _) (v := ?_) rfl (by kernel_rfl) (by kernel_rfl) (by kernel_rfl) (fun _ _ _ h => h) (Or.inl ⟨by rfl, ?_⟩) (by assumption) ?_
                rotate_left
                focus (intro wS hSw; (try dsimp only at hSw); go_simp; (try with_reducible rfl))
                try simp only [Act.put, List.getElem_toArray, List.getElem_cons_zero, List.getElem_cons_succ, List.setIfInBounds_toArray, List.set_cons_zero, List.set_cons_succ]
                refine wpAnyH_done (by kernel_rfl) ?_ _
                try clear hHeld
                go_wp2_with fail
                go_meet
                exact ⟨D41, _, _, _, _, _, _, _, _, _, rfl, rfl, rfl, rfl, by have := HWLwl17.out; omega, by have := HWLwl17.out; omega, by have := HWLwl24.out; omega, by have := HWLwl24.out; omega, HWBwl17.out, HWBwl24.out, HEe26.out, by omega, by omega, H51.out.pick [2, 1, 0, 3, 4, 5] rfl (by decide)⟩
            · obtain ⟨D53, hD53⟩ : ∃ D, w22.heap.size = D := ⟨_, rfl⟩
              have H54 := hid (H25.out.alloc #[.int .i64 0, .int .i64 0] 38 hD53)
              go_simp
              refine hK.out _ _ ?_ (fun hHeld2 => ?_)
              focus ((try dsimp only); (exact ⟨H54.out.cell 3 rfl 0 rfl, H54.out.cell 3 rfl 1 rfl, H54.out.cell 3 rfl 2 rfl, H54.out.cell 3 rfl 3 rfl⟩))
              clear hK K hHeld
              try simp only [Act.put, List.getElem_toArray, List.getElem_cons_zero, List.getElem_cons_succ, List.setIfInBounds_toArray, List.set_cons_zero, List.set_cons_succ]
              clear hD53
              generalize (w22.alloc (.cells #[.int .i64 0, .int .i64 0] 38)) = k55 at *
              have hHeld := hHeld2
              clear hHeld2
              refine wpAnyH_ready (rs := [13]) (by kernel_rfl) (by simp) (AllReadyH.cons (o := _) rfl (fun K hK => ?_) AllReadyH.nil)
              go_simp
              go_at_call 25
              refine (edgeok_any B K1 _ _ (by omega) (H54.out.tapeAt 5 rfl)).mono ?_
              rintro e w57 ⟨e56_0, e56_1, rfl, hev, ht, hg⟩
              have H58 := hid (H54.out.next 5 rfl ht hg)
              have HEe56 := hid hev
              clear ht hg hev
              refine hK.out _ _ ?_ (fun hHeld2 => ?_)
              focus ((try dsimp only); (exact ⟨H58.out.cell 3 rfl 0 rfl, H58.out.cell 3 rfl 1 rfl, H58.out.cell 3 rfl 2 rfl, H58.out.cell 3 rfl 3 rfl⟩))
              clear hK K
              try simp only [Act.put, List.getElem_toArray, List.getElem_cons_zero, List.getElem_cons_succ, List.setIfInBounds_toArray, List.set_cons_zero, List.set_cons_succ]
              clear hHeld
              have hHeld := hHeld2
              clear hHeld2
              refine wpAnyH_ready (rs := [15]) (by kernel_rfl) (by simp) (AllReadyH.cons (o := _) rfl (fun K hK => ?_) AllReadyH.nil)
              go_simp
              go_at_call 18
              refine (nextB_any B K1 _ _ (by omega) (H58.out.tapeAt 5 rfl)).mono ?_
              rintro e w60 ⟨x59, rfl, x59a, x59b, htn, hgn, hsn⟩
              have H61 := hid (H58.out.next 5 rfl htn hgn)
              clear htn hgn hsn
              refine hK.out _ _ ?_ (fun hHeld2 => ?_)
              focus ((try dsimp only); (exact ⟨H61.out.cell 3 rfl 0 rfl, H61.out.cell 3 rfl 1 rfl, H61.out.cell 3 rfl 2 rfl, H61.out.cell 3 rfl 3 rfl⟩))
              clear hK K
              try simp only [Act.put, List.getElem_toArray, List.getElem_cons_zero, List.getElem_cons_succ, List.setIfInBounds_toArray, List.set_cons_zero, List.set_cons_succ]
              clear hHeld
              have hHeld := hHeld2
              clear hHeld2
              refine wpAnyH_take (i := 17) (oi := _) (v := ?_) rfl (by kernel_rfl) (by kernel_rfl) (by kernel_rfl) (fun _ _ _ h => h) (Or.inl ⟨by rfl, ?_⟩) (by assumption) ?_
              rotate_left
              focus (intro wS hSw; (try dsimp only at hSw); go_simp; (try with_reducible rfl))
              try simp only [Act.put, List.getElem_toArray, List.getElem_cons_zero, List.getElem_cons_succ, List.setIfInBounds_toArray, List.set_cons_zero, List.set_cons_succ]
              refine wpAnyH_take (i := 18) (oi := _) (v := ?_) rfl (by kernel_rfl) (by kernel_rfl) (by kernel_rfl) (fun _ _ _ h => h) (Or.inl ⟨by rfl, ?_⟩) (by assumption) ?_
              rotate_left
              focus (intro wS hSw; (try dsimp only at hSw); go_simp; (try with_reducible rfl))
              try simp only [Act.put, List.getElem_toArray, List.getElem_cons_zero, List.getElem_cons_succ, List.setIfInBounds_toArray, List.set_cons_zero, List.set_cons_succ]
              refine wpAnyH_ready (rs := [19]) (by kernel_rfl) (by simp) (AllReadyH.cons (o := _) rfl (fun K hK => ?_) AllReadyH.nil)
              have z62 := H61.out.cell 0 rfl 0 rfl
              have z63 := H61.out.free 0 rfl 0
              have z64 := H61.out.cell 0 rfl 1 rfl
              have z65 := H61.out.free 0 rfl 1
              have H66 := hid (show St B W [.cells D53 #[.int .i64 e56_0, .int .i64 e56_1] 38, .own (.slice wv23a wl24.length wv23c) wl24, .own (.slice wv16a wl17.length wv16c) wl17, .cells D7 #[.int .i64 pw4, .int .i64 ph4, .int .i64 pm4, .slice pv4a ps4.length pv4c] 35, .own (.slice pv4a ps4.length pv4c) ps4, .tape K1] [] ((w60.setCell ⟨D53, 0, none⟩ (.int .i64 e56_0)).setCell ⟨D53, 1, none⟩ (.int .i64 e56_1)) from ((H61.out.set 0 rfl 0 (.int .i64 e56_0)).set 0 rfl 1 (.int .i64 e56_1)))
              go_simp
              refine hK.out _ _ ?_ (fun hHeld2 => ?_)
              focus ((try dsimp only); (exact ⟨H66.out.cell 3 rfl 0 rfl, H66.out.cell 3 rfl 1 rfl, H66.out.cell 3 rfl 2 rfl, H66.out.cell 3 rfl 3 rfl⟩))
              clear hK K hHeld
              try simp only [Act.put, List.getElem_toArray, List.getElem_cons_zero, List.getElem_cons_succ, List.setIfInBounds_toArray, List.set_cons_zero, List.set_cons_succ]
              clear z62 z63 z64 z65
              generalize ((w60.setCell ⟨D53, 0, none⟩ (.int .i64 e56_0)).setCell ⟨D53, 1, none⟩ (.int .i64 e56_1)) = k67 at *
              have hHeld := hHeld2
              clear hHeld2
              refine wpAnyH_take (i := 20) (oi := _) (v := ?_) rfl (by kernel_rfl) (by kernel_rfl) (by kernel_rfl) (fun _ _ _ h => h) (Or.inl ⟨by rfl, ?_⟩) (by assumption) ?_
              rotate_left
              focus (intro wS hSw; (try dsimp only at hSw); go_simp; (try with_reducible rfl))
              try simp only [Act.put, List.getElem_toArray, List.getElem_cons_zero, List.getElem_cons_succ, List.setIfInBounds_toArray, List.set_cons_zero, List.set_cons_succ]
              refine wpAnyH_done (by kernel_rfl) ?_ _
              try clear hHeld
              go_wp2_with fail
              go_meet
              exact ⟨D53, _, _, _, _, _, _, _, _, _, rfl, rfl, rfl, rfl, by have := HWLwl17.out; omega, by have := HWLwl17.out; omega, by have := HWLwl24.out; omega, by have := HWLwl24.out; omega, HWBwl17.out, HWBwl24.out, HEe56.out, by omega, by omega, H66.out.pick [2, 1, 0, 3, 4, 5] rfl (by decide)⟩
          · obtain ⟨D68, hD68⟩ : ∃ D, w20.heap.size = D := ⟨_, rfl⟩
            have H69 := hid (H21.out.alloc #[.int .i64 0, .int .i64 0] 38 hD68)
            go_simp
            refine hK.out _ _ ?_ (fun hHeld2 => ?_)
            focus ((try dsimp only); (exact ⟨H69.out.cell 2 rfl 0 rfl, H69.out.cell 2 rfl 1 rfl, H69.out.cell 2 rfl 2 rfl, H69.out.cell 2 rfl 3 rfl⟩))
            clear hK K hHeld
            try simp only [Act.put, List.getElem_toArray, List.getElem_cons_zero, List.getElem_cons_succ, List.setIfInBounds_toArray, List.set_cons_zero, List.set_cons_succ]
            clear hD68
            generalize (w20.alloc (.cells #[.int .i64 0, .int .i64 0] 38)) = k70 at *
            have hHeld := hHeld2
            clear hHeld2
            refine wpAnyH_ready (rs := [9]) (by kernel_rfl) (by simp) (AllReadyH.cons (o := _) rfl (fun K hK => ?_) AllReadyH.nil)
            go_simp
            go_at_call 19
            refine (weights_any B K1 _ _ (by omega) (H69.out.tapeAt 4 rfl)).mono ?_
            rintro e w71 ⟨wv72, wl73, rfl, hlen, hin, ho, ht, hg⟩
            have H74 := hid (H69.out.add (H69.out.next 4 rfl ht hg) ho)
            have HWLwl73 := hid hlen
            have HWBwl73 := hid hin
            obtain ⟨wv72a, wv72c, rfl, _⟩ := ho.slc
            clear hlen hin ho ht hg
            refine hK.out _ _ ?_ (fun hHeld2 => ?_)
            focus ((try dsimp only); (exact ⟨H74.out.cell 3 rfl 0 rfl, H74.out.cell 3 rfl 1 rfl, H74.out.cell 3 rfl 2 rfl, H74.out.cell 3 rfl 3 rfl⟩))
            clear hK K
            try simp only [Act.put, List.getElem_toArray, List.getElem_cons_zero, List.getElem_cons_succ, List.setIfInBounds_toArray, List.set_cons_zero, List.set_cons_succ]
            clear hHeld
            have hHeld := hHeld2
            clear hHeld2
            refine wpAnyH_ready (rs := [13]) (by kernel_rfl) (by simp) (AllReadyH.cons (o := _) rfl (fun K hK => ?_) AllReadyH.nil)
            go_simp
            go_at_call 25
            refine (edgeok_any B K1 _ _ (by omega) (H74.out.tapeAt 5 rfl)).mono ?_
            rintro e w76 ⟨e75_0, e75_1, rfl, hev, ht, hg⟩
            have H77 := hid (H74.out.next 5 rfl ht hg)
            have HEe75 := hid hev
            clear ht hg hev
            refine hK.out _ _ ?_ (fun hHeld2 => ?_)
            focus ((try dsimp only); (exact ⟨H77.out.cell 3 rfl 0 rfl, H77.out.cell 3 rfl 1 rfl, H77.out.cell 3 rfl 2 rfl, H77.out.cell 3 rfl 3 rfl⟩))
            clear hK K
            try simp only [Act.put, List.getElem_toArray, List.getElem_cons_zero, List.getElem_cons_succ, List.setIfInBounds_toArray, List.set_cons_zero, List.set_cons_succ]
            clear hHeld
            have hHeld := hHeld2
            clear hHeld2
            refine wpAnyH_ready (rs := [15]) (by kernel_rfl) (by simp) (AllReadyH.cons (o := _) rfl (fun K hK => ?_) AllReadyH.nil)
            go_simp
            go_at_call 18
            refine (nextB_any B K1 _ _ (by omega) (H77.out.tapeAt 5 rfl)).mono ?_
            rintro e w79 ⟨x78, rfl, x78a, x78b, htn, hgn, hsn⟩
            have H80 := hid (H77.out.next 5 rfl htn hgn)
            clear htn hgn hsn
            refine hK.out _ _ ?_ (fun hHeld2 => ?_)
            focus ((try dsimp only); (exact ⟨H80.out.cell 3 rfl 0 rfl, H80.out.cell 3 rfl 1 rfl, H80.out.cell 3 rfl 2 rfl, H80.out.cell 3 rfl 3 rfl⟩))
            clear hK K
            try simp only [Act.put, List.getElem_toArray, List.getElem_cons_zero, List.getElem_cons_succ, List.setIfInBounds_toArray, List.set_cons_zero, List.set_cons_succ]
            clear hHeld
            have hHeld := hHeld2
            clear hHeld2
            refine wpAnyH_take (i := 17) (oi := _) (v := ?_) rfl (by kernel_rfl) (by kernel_rfl) (by kernel_rfl) (fun _ _ _ h => h) (Or.inl ⟨by rfl, ?_⟩) (by assumption) ?_
            rotate_left
            focus (intro wS hSw; (try dsimp only at hSw); go_simp; (try with_reducible rfl))
            try simp only [Act.put, List.getElem_toArray, List.getElem_cons_zero, List.getElem_cons_succ, List.setIfInBounds_toArray, List.set_cons_zero, List.set_cons_succ]
            refine wpAnyH_take (i := 18) (oi := _) (v := ?_) rfl (by kernel_rfl) (by kernel_rfl) (by kernel_rfl) (fun _ _ _ h => h) (Or.inl ⟨by rfl, ?_⟩) (by assumption) ?_
            rotate_left
            focus (intro wS hSw; (try dsimp only at hSw); go_simp; (try with_reducible rfl))
            try simp only [Act.put, List.getElem_toArray, List.getElem_cons_zero, List.getElem_cons_succ, List.setIfInBounds_toArray, List.set_cons_zero, List.set_cons_succ]
            refine wpAnyH_ready (rs := [19]) (by kernel_rfl) (by simp) (AllReadyH.cons (o := _) rfl (fun K hK => ?_) AllReadyH.nil)
            have z81 := H80.out.cell 1 rfl 0 rfl
            have z82 := H80.out.free 1 rfl 0
            have z83 := H80.out.cell 1 rfl 1 rfl
            have z84 := H80.out.free 1 rfl 1
            have H85 := hid (show St B W [.own (.slice wv72a wl73.length wv72c) wl73, .cells D68 #[.int .i64 e75_0, .int .i64 e75_1] 38, .own (.slice wv16a wl17.length wv16c) wl17, .cells D7 #[.int .i64 pw4, .int .i64 ph4, .int .i64 pm4, .slice pv4a ps4.length pv4c] 35, .own (.slice pv4a ps4.length pv4c) ps4, .tape K1] [] ((w79.setCell ⟨D68, 0, none⟩ (.int .i64 e75_0)).setCell ⟨D68, 1, none⟩ (.int .i64 e75_1)) from ((H80.out.set 1 rfl 0 (.int .i64 e75_0)).set 1 rfl 1 (.int .i64 e75_1)))
            go_simp
            refine hK.out _ _ ?_ (fun hHeld2 => ?_)
            focus ((try dsimp only); (exact ⟨H85.out.cell 3 rfl 0 rfl, H85.out.cell 3 rfl 1 rfl, H85.out.cell 3 rfl 2 rfl, H85.out.cell 3 rfl 3 rfl⟩))
            clear hK K hHeld
            try simp only [Act.put, List.getElem_toArray, List.getElem_cons_zero, List.getElem_cons_succ, List.setIfInBounds_toArray, List.set_cons_zero, List.set_cons_succ]
            clear z81 z82 z83 z84
            generalize ((w79.setCell ⟨D68, 0, none⟩ (.int .i64 e75_0)).setCell ⟨D68, 1, none⟩ (.int .i64 e75_1)) = k86 at *
            have hHeld := hHeld2
            clear hHeld2
            refine wpAnyH_take (i := 20) (oi := _) (v := ?_) rfl (by kernel_rfl) (by kernel_rfl) (by kernel_rfl) (fun _ _ _ h => h) (Or.inl ⟨by rfl, ?_⟩) (by assumption) ?_
            rotate_left
            focus (intro wS hSw; (try dsimp only at hSw); go_simp; (try with_reducible rfl))
            try simp only [Act.put, List.getElem_toArray, List.getElem_cons_zero, List.getElem_cons_succ, List.setIfInBounds_toArray, List.set_cons_zero, List.set_cons_succ]
            refine wpAnyH_done (by kernel_rfl) ?_ _
            try clear hHeld
            go_wp2_with fail
            go_meet
            exact ⟨D68, _, _, _, _, _, _, _, _, _, rfl, rfl, rfl, rfl, by have := HWLwl17.out; omega, by have := HWLwl17.out; omega, by have := HWLwl73.out; omega, by have := HWLwl73.out; omega, HWBwl17.out, HWBwl73.out, HEe75.out, by omega, by omega, H85.out.pick [2, 0, 1, 3, 4, 5] rfl (by decide)⟩
        · obtain ⟨D87, hD87⟩ : ∃ D, w15.heap.size = D := ⟨_, rfl⟩
          have H88 := hid (H18.out.alloc #[.int .i64 0, .int .i64 0] 38 hD87)
          go_simp
          refine hK.out _ _ ?_ (fun hHeld2 => ?_)
          focus ((try dsimp only); (exact ⟨H88.out.cell 2 rfl 0 rfl, H88.out.cell 2 rfl 1 rfl, H88.out.cell 2 rfl 2 rfl, H88.out.cell 2 rfl 3 rfl⟩))
          clear hK K hHeld
          try simp only [Act.put, List.getElem_toArray, List.getElem_cons_zero, List.getElem_cons_succ, List.setIfInBounds_toArray, List.set_cons_zero, List.set_cons_succ]
          clear hD87
          generalize (w15.alloc (.cells #[.int .i64 0, .int .i64 0] 38)) = k89 at *
          have hHeld := hHeld2
          clear hHeld2
          refine wpAnyH_ready (rs := [7]) (by kernel_rfl) (by simp) (AllReadyH.cons (o := _) rfl (fun K hK => ?_) AllReadyH.nil)
          go_simp
          go_at_call 18
          refine (nextB_any B K1 _ _ (by omega) (H88.out.tapeAt 4 rfl)).mono ?_
          rintro e w91 ⟨x90, rfl, x90a, x90b, htn, hgn, hsn⟩
          have H92 := hid (H88.out.next 4 rfl htn hgn)
          clear htn hgn hsn
          have wnx90 : IntKind.i64.wrap (1 + x90) = 1 + x90 := IntWalk.i64_in _ (by omega)
          refine hK.out _ _ ?_ (fun hHeld2 => ?_)
          focus ((try dsimp only); (exact ⟨H92.out.cell 2 rfl 0 rfl, H92.out.cell 2 rfl 1 rfl, H92.out.cell 2 rfl 2 rfl, H92.out.cell 2 rfl 3 rfl⟩))
          clear hK K
          try simp only [Act.put, List.getElem_toArray, List.getElem_cons_zero, List.getElem_cons_succ, List.setIfInBounds_toArray, List.set_cons_zero, List.set_cons_succ]
          clear hHeld
          have hHeld := hHeld2
          clear hHeld2
          refine wpAnyH_take (i := 8) (oi := _) (v := ?_) rfl (by kernel_rfl) (by kernel_rfl) (by kernel_rfl) (fun _ _ _ h => h) (Or.inl ⟨by rfl, ?_⟩) (by assumption) ?_
          rotate_left
          focus (intro wS hSw; (try dsimp only at hSw); go_simp; (try with_reducible rfl))
          try simp only [Act.put, List.getElem_toArray, List.getElem_cons_zero, List.getElem_cons_succ, List.setIfInBounds_toArray, List.set_cons_zero, List.set_cons_succ]
          refine wpAnyH_ready (rs := [9]) (by kernel_rfl) (by simp) (AllReadyH.cons (o := _) rfl (fun K hK => ?_) AllReadyH.nil)
          go_simp
          go_at_call 19
          refine (weights_any B K1 _ _ (by omega) (H92.out.tapeAt 4 rfl)).mono ?_
          rintro e w93 ⟨wv94, wl95, rfl, hlen, hin, ho, ht, hg⟩
          have H96 := hid (H92.out.add (H92.out.next 4 rfl ht hg) ho)
          have HWLwl95 := hid hlen
          have HWBwl95 := hid hin
          obtain ⟨wv94a, wv94c, rfl, _⟩ := ho.slc
          clear hlen hin ho ht hg
          refine hK.out _ _ ?_ (fun hHeld2 => ?_)
          focus ((try dsimp only); (exact ⟨H96.out.cell 3 rfl 0 rfl, H96.out.cell 3 rfl 1 rfl, H96.out.cell 3 rfl 2 rfl, H96.out.cell 3 rfl 3 rfl⟩))
          clear hK K
          try simp only [Act.put, List.getElem_toArray, List.getElem_cons_zero, List.getElem_cons_succ, List.setIfInBounds_toArray, List.set_cons_zero, List.set_cons_succ]
          clear hHeld
          have hHeld := hHeld2
          clear hHeld2
          refine wpAnyH_ready (rs := [13]) (by kernel_rfl) (by simp) (AllReadyH.cons (o := _) rfl (fun K hK => ?_) AllReadyH.nil)
          go_simp
          go_at_call 25
          refine (edgeok_any B K1 _ _ (by omega) (H96.out.tapeAt 5 rfl)).mono ?_
          rintro e w98 ⟨e97_0, e97_1, rfl, hev, ht, hg⟩
          have H99 := hid (H96.out.next 5 rfl ht hg)
          have HEe97 := hid hev
          clear ht hg hev
          refine hK.out _ _ ?_ (fun hHeld2 => ?_)
          focus ((try dsimp only); (exact ⟨H99.out.cell 3 rfl 0 rfl, H99.out.cell 3 rfl 1 rfl, H99.out.cell 3 rfl 2 rfl, H99.out.cell 3 rfl 3 rfl⟩))
          clear hK K
          try simp only [Act.put, List.getElem_toArray, List.getElem_cons_zero, List.getElem_cons_succ, List.setIfInBounds_toArray, List.set_cons_zero, List.set_cons_succ]
          clear hHeld
          have hHeld := hHeld2
          clear hHeld2
          refine wpAnyH_ready (rs := [15]) (by kernel_rfl) (by simp) (AllReadyH.cons (o := _) rfl (fun K hK => ?_) AllReadyH.nil)
          go_simp
          go_at_call 18
          refine (nextB_any B K1 _ _ (by omega) (H99.out.tapeAt 5 rfl)).mono ?_
          rintro e w101 ⟨x100, rfl, x100a, x100b, htn, hgn, hsn⟩
          have H102 := hid (H99.out.next 5 rfl htn hgn)
          clear htn hgn hsn
          refine hK.out _ _ ?_ (fun hHeld2 => ?_)
          focus ((try dsimp only); (exact ⟨H102.out.cell 3 rfl 0 rfl, H102.out.cell 3 rfl 1 rfl, H102.out.cell 3 rfl 2 rfl, H102.out.cell 3 rfl 3 rfl⟩))
          clear hK K
          try simp only [Act.put, List.getElem_toArray, List.getElem_cons_zero, List.getElem_cons_succ, List.setIfInBounds_toArray, List.set_cons_zero, List.set_cons_succ]
          clear hHeld
          have hHeld := hHeld2
          clear hHeld2
          refine wpAnyH_take (i := 17) (oi := _) (v := ?_) rfl (by kernel_rfl) (by kernel_rfl) (by kernel_rfl) (fun _ _ _ h => h) (Or.inl ⟨by rfl, ?_⟩) (by assumption) ?_
          rotate_left
          focus (intro wS hSw; (try dsimp only at hSw); go_simp; (try with_reducible rfl))
          try simp only [Act.put, List.getElem_toArray, List.getElem_cons_zero, List.getElem_cons_succ, List.setIfInBounds_toArray, List.set_cons_zero, List.set_cons_succ]
          refine wpAnyH_take (i := 18) (oi := _) (v := ?_) rfl (by kernel_rfl) (by kernel_rfl) (by kernel_rfl) (fun _ _ _ h => h) (Or.inl ⟨by rfl, ?_⟩) (by assumption) ?_
          rotate_left
          focus (intro wS hSw; (try dsimp only at hSw); go_simp; (try with_reducible rfl))
          try simp only [Act.put, List.getElem_toArray, List.getElem_cons_zero, List.getElem_cons_succ, List.setIfInBounds_toArray, List.set_cons_zero, List.set_cons_succ]
          refine wpAnyH_ready (rs := [19]) (by kernel_rfl) (by simp) (AllReadyH.cons (o := _) rfl (fun K hK => ?_) AllReadyH.nil)
          have z103 := H102.out.cell 1 rfl 0 rfl
          have z104 := H102.out.free 1 rfl 0
          have z105 := H102.out.cell 1 rfl 1 rfl
          have z106 := H102.out.free 1 rfl 1
          have H107 := hid (show St B W [.own (.slice wv94a wl95.length wv94c) wl95, .cells D87 #[.int .i64 e97_0, .int .i64 e97_1] 38, .own (.slice wv16a wl17.length wv16c) wl17, .cells D7 #[.int .i64 pw4, .int .i64 ph4, .int .i64 pm4, .slice pv4a ps4.length pv4c] 35, .own (.slice pv4a ps4.length pv4c) ps4, .tape K1] [] ((w101.setCell ⟨D87, 0, none⟩ (.int .i64 e97_0)).setCell ⟨D87, 1, none⟩ (.int .i64 e97_1)) from ((H102.out.set 1 rfl 0 (.int .i64 e97_0)).set 1 rfl 1 (.int .i64 e97_1)))
          go_simp
          refine hK.out _ _ ?_ (fun hHeld2 => ?_)
          focus ((try dsimp only); (exact ⟨H107.out.cell 3 rfl 0 rfl, H107.out.cell 3 rfl 1 rfl, H107.out.cell 3 rfl 2 rfl, H107.out.cell 3 rfl 3 rfl⟩))
          clear hK K hHeld
          try simp only [Act.put, List.getElem_toArray, List.getElem_cons_zero, List.getElem_cons_succ, List.setIfInBounds_toArray, List.set_cons_zero, List.set_cons_succ]
          clear z103 z104 z105 z106
          generalize ((w101.setCell ⟨D87, 0, none⟩ (.int .i64 e97_0)).setCell ⟨D87, 1, none⟩ (.int .i64 e97_1)) = k108 at *
          have hHeld := hHeld2
          clear hHeld2
          refine wpAnyH_take (i := 20) (oi := _) (v := ?_) rfl (by kernel_rfl) (by kernel_rfl) (by kernel_rfl) (fun _ _ _ h => h) (Or.inl ⟨by rfl, ?_⟩) (by assumption) ?_
          rotate_left
          focus (intro wS hSw; (try dsimp only at hSw); go_simp; (try with_reducible rfl))
          try simp only [Act.put, List.getElem_toArray, List.getElem_cons_zero, List.getElem_cons_succ, List.setIfInBounds_toArray, List.set_cons_zero, List.set_cons_succ]
          refine wpAnyH_done (by kernel_rfl) ?_ _
          try clear hHeld
          go_wp2_with fail
          go_meet
          exact ⟨D87, _, _, _, _, _, _, _, _, _, rfl, rfl, rfl, rfl, by have := HWLwl17.out; omega, by have := HWLwl17.out; omega, by have := HWLwl95.out; omega, by have := HWLwl95.out; omega, HWBwl17.out, HWBwl95.out, HEe97.out, by omega, by omega, H107.out.pick [2, 0, 1, 3, 4, 5] rfl (by decide)⟩
      · obtain ⟨D109, hD109⟩ : ∃ D, w13.heap.size = D := ⟨_, rfl⟩
        have H110 := hid (H14.out.alloc #[.int .i64 0, .int .i64 0] 38 hD109)
        go_simp
        refine hK.out _ _ ?_ (fun hHeld2 => ?_)
        focus ((try dsimp only); (exact ⟨H110.out.cell 1 rfl 0 rfl, H110.out.cell 1 rfl 1 rfl, H110.out.cell 1 rfl 2 rfl, H110.out.cell 1 rfl 3 rfl⟩))
        clear hK K hHeld
        try simp only [Act.put, List.getElem_toArray, List.getElem_cons_zero, List.getElem_cons_succ, List.setIfInBounds_toArray, List.set_cons_zero, List.set_cons_succ]
        clear hD109
        generalize (w13.alloc (.cells #[.int .i64 0, .int .i64 0] 38)) = k111 at *
        have hHeld := hHeld2
        clear hHeld2
        refine wpAnyH_ready (rs := [4]) (by kernel_rfl) (by simp) (AllReadyH.cons (o := _) rfl (fun K hK => ?_) AllReadyH.nil)
        go_simp
        go_at_call 19
        refine (weights_any B K1 _ _ (by omega) (H110.out.tapeAt 3 rfl)).mono ?_
        rintro e w112 ⟨wv113, wl114, rfl, hlen, hin, ho, ht, hg⟩
        have H115 := hid (H110.out.add (H110.out.next 3 rfl ht hg) ho)
        have HWLwl114 := hid hlen
        have HWBwl114 := hid hin
        obtain ⟨wv113a, wv113c, rfl, _⟩ := ho.slc
        clear hlen hin ho ht hg
        refine hK.out _ _ ?_ (fun hHeld2 => ?_)
        focus ((try dsimp only); (exact ⟨H115.out.cell 2 rfl 0 rfl, H115.out.cell 2 rfl 1 rfl, H115.out.cell 2 rfl 2 rfl, H115.out.cell 2 rfl 3 rfl⟩))
        clear hK K
        try simp only [Act.put, List.getElem_toArray, List.getElem_cons_zero, List.getElem_cons_succ, List.setIfInBounds_toArray, List.set_cons_zero, List.set_cons_succ]
        clear hHeld
        have hHeld := hHeld2
        clear hHeld2
        refine wpAnyH_ready (rs := [7]) (by kernel_rfl) (by simp) (AllReadyH.cons (o := _) rfl (fun K hK => ?_) AllReadyH.nil)
        go_simp
        go_at_call 18
        refine (nextB_any B K1 _ _ (by omega) (H115.out.tapeAt 4 rfl)).mono ?_
        rintro e w117 ⟨x116, rfl, x116a, x116b, htn, hgn, hsn⟩
        have H118 := hid (H115.out.next 4 rfl htn hgn)
        clear htn hgn hsn
        have wnx116 : IntKind.i64.wrap (1 + x116) = 1 + x116 := IntWalk.i64_in _ (by omega)
        refine hK.out _ _ ?_ (fun hHeld2 => ?_)
        focus ((try dsimp only); (exact ⟨H118.out.cell 2 rfl 0 rfl, H118.out.cell 2 rfl 1 rfl, H118.out.cell 2 rfl 2 rfl, H118.out.cell 2 rfl 3 rfl⟩))
        clear hK K
        try simp only [Act.put, List.getElem_toArray, List.getElem_cons_zero, List.getElem_cons_succ, List.setIfInBounds_toArray, List.set_cons_zero, List.set_cons_succ]
        clear hHeld
        have hHeld := hHeld2
        clear hHeld2
        refine wpAnyH_take (i := 8) (oi := _) (v := ?_) rfl (by kernel_rfl) (by kernel_rfl) (by kernel_rfl) (fun _ _ _ h => h) (Or.inl ⟨by rfl, ?_⟩) (by assumption) ?_
        rotate_left
        focus (intro wS hSw; (try dsimp only at hSw); go_simp; (try with_reducible rfl))
        try simp only [Act.put, List.getElem_toArray, List.getElem_cons_zero, List.getElem_cons_succ, List.setIfInBounds_toArray, List.set_cons_zero, List.set_cons_succ]
        refine wpAnyH_ready (rs := [9]) (by kernel_rfl) (by simp) (AllReadyH.cons (o := _) rfl (fun K hK => ?_) AllReadyH.nil)
        go_simp
        go_at_call 19
        refine (weights_any B K1 _ _ (by omega) (H118.out.tapeAt 4 rfl)).mono ?_
        rintro e w119 ⟨wv120, wl121, rfl, hlen, hin, ho, ht, hg⟩
        have H122 := hid (H118.out.add (H118.out.next 4 rfl ht hg) ho)
        have HWLwl121 := hid hlen
        have HWBwl121 := hid hin
        obtain ⟨wv120a, wv120c, rfl, _⟩ := ho.slc
        clear hlen hin ho ht hg
        refine hK.out _ _ ?_ (fun hHeld2 => ?_)
        focus ((try dsimp only); (exact ⟨H122.out.cell 3 rfl 0 rfl, H122.out.cell 3 rfl 1 rfl, H122.out.cell 3 rfl 2 rfl, H122.out.cell 3 rfl 3 rfl⟩))
        clear hK K
        try simp only [Act.put, List.getElem_toArray, List.getElem_cons_zero, List.getElem_cons_succ, List.setIfInBounds_toArray, List.set_cons_zero, List.set_cons_succ]
        clear hHeld
        have hHeld := hHeld2
        clear hHeld2
        refine wpAnyH_ready (rs := [13]) (by kernel_rfl) (by simp) (AllReadyH.cons (o := _) rfl (fun K hK => ?_) AllReadyH.nil)
        go_simp
        go_at_call 25
        refine (edgeok_any B K1 _ _ (by omega) (H122.out.tapeAt 5 rfl)).mono ?_
        rintro e w124 ⟨e123_0, e123_1, rfl, hev, ht, hg⟩
        have H125 := hid (H122.out.next 5 rfl ht hg)
        have HEe123 := hid hev
        clear ht hg hev
        refine hK.out _ _ ?_ (fun hHeld2 => ?_)
        focus ((try dsimp only); (exact ⟨H125.out.cell 3 rfl 0 rfl, H125.out.cell 3 rfl 1 rfl, H125.out.cell 3 rfl 2 rfl, H125.out.cell 3 rfl 3 rfl⟩))
        clear hK K
        try simp only [Act.put, List.getElem_toArray, List.getElem_cons_zero, List.getElem_cons_succ, List.setIfInBounds_toArray, List.set_cons_zero, List.set_cons_succ]
        clear hHeld
        have hHeld := hHeld2
        clear hHeld2
        refine wpAnyH_ready (rs := [15]) (by kernel_rfl) (by simp) (AllReadyH.cons (o := _) rfl (fun K hK => ?_) AllReadyH.nil)
        go_simp
        go_at_call 18
        refine (nextB_any B K1 _ _ (by omega) (H125.out.tapeAt 5 rfl)).mono ?_
        rintro e w127 ⟨x126, rfl, x126a, x126b, htn, hgn, hsn⟩
        have H128 := hid (H125.out.next 5 rfl htn hgn)
        clear htn hgn hsn
        refine hK.out _ _ ?_ (fun hHeld2 => ?_)
        focus ((try dsimp only); (exact ⟨H128.out.cell 3 rfl 0 rfl, H128.out.cell 3 rfl 1 rfl, H128.out.cell 3 rfl 2 rfl, H128.out.cell 3 rfl 3 rfl⟩))
        clear hK K
        try simp only [Act.put, List.getElem_toArray, List.getElem_cons_zero, List.getElem_cons_succ, List.setIfInBounds_toArray, List.set_cons_zero, List.set_cons_succ]
        clear hHeld
        have hHeld := hHeld2
        clear hHeld2
        refine wpAnyH_take (i := 17) (oi := _) (v := ?_) rfl (by kernel_rfl) (by kernel_rfl) (by kernel_rfl) (fun _ _ _ h => h) (Or.inl ⟨by rfl, ?_⟩) (by assumption) ?_
        rotate_left
        focus (intro wS hSw; (try dsimp only at hSw); go_simp; (try with_reducible rfl))
        try simp only [Act.put, List.getElem_toArray, List.getElem_cons_zero, List.getElem_cons_succ, List.setIfInBounds_toArray, List.set_cons_zero, List.set_cons_succ]
        refine wpAnyH_take (i := 18) (oi := _) (v := ?_) rfl (by kernel_rfl) (by kernel_rfl) (by kernel_rfl) (fun _ _ _ h => h) (Or.inl ⟨by rfl, ?_⟩) (by assumption) ?_
        rotate_left
        focus (intro wS hSw; (try dsimp only at hSw); go_simp; (try with_reducible rfl))
        try simp only [Act.put, List.getElem_toArray, List.getElem_cons_zero, List.getElem_cons_succ, List.setIfInBounds_toArray, List.set_cons_zero, List.set_cons_succ]
        refine wpAnyH_ready (rs := [19]) (by kernel_rfl) (by simp) (AllReadyH.cons (o := _) rfl (fun K hK => ?_) AllReadyH.nil)
        have z129 := H128.out.cell 2 rfl 0 rfl
        have z130 := H128.out.free 2 rfl 0
        have z131 := H128.out.cell 2 rfl 1 rfl
        have z132 := H128.out.free 2 rfl 1
        have H133 := hid (show St B W [.own (.slice wv120a wl121.length wv120c) wl121, .own (.slice wv113a wl114.length wv113c) wl114, .cells D109 #[.int .i64 e123_0, .int .i64 e123_1] 38, .cells D7 #[.int .i64 pw4, .int .i64 ph4, .int .i64 pm4, .slice pv4a ps4.length pv4c] 35, .own (.slice pv4a ps4.length pv4c) ps4, .tape K1] [] ((w127.setCell ⟨D109, 0, none⟩ (.int .i64 e123_0)).setCell ⟨D109, 1, none⟩ (.int .i64 e123_1)) from ((H128.out.set 2 rfl 0 (.int .i64 e123_0)).set 2 rfl 1 (.int .i64 e123_1)))
        go_simp
        refine hK.out _ _ ?_ (fun hHeld2 => ?_)
        focus ((try dsimp only); (exact ⟨H133.out.cell 3 rfl 0 rfl, H133.out.cell 3 rfl 1 rfl, H133.out.cell 3 rfl 2 rfl, H133.out.cell 3 rfl 3 rfl⟩))
        clear hK K hHeld
        try simp only [Act.put, List.getElem_toArray, List.getElem_cons_zero, List.getElem_cons_succ, List.setIfInBounds_toArray, List.set_cons_zero, List.set_cons_succ]
        clear z129 z130 z131 z132
        generalize ((w127.setCell ⟨D109, 0, none⟩ (.int .i64 e123_0)).setCell ⟨D109, 1, none⟩ (.int .i64 e123_1)) = k134 at *
        have hHeld := hHeld2
        clear hHeld2
        refine wpAnyH_take (i := 20) (oi := _) (v := ?_) rfl (by kernel_rfl) (by kernel_rfl) (by kernel_rfl) (fun _ _ _ h => h) (Or.inl ⟨by rfl, ?_⟩) (by assumption) ?_
        rotate_left
        focus (intro wS hSw; (try dsimp only at hSw); go_simp; (try with_reducible rfl))
        try simp only [Act.put, List.getElem_toArray, List.getElem_cons_zero, List.getElem_cons_succ, List.setIfInBounds_toArray, List.set_cons_zero, List.set_cons_succ]
        refine wpAnyH_done (by kernel_rfl) ?_ _
        try clear hHeld
        go_wp2_with fail
        go_meet
        exact ⟨D109, _, _, _, _, _, _, _, _, _, rfl, rfl, rfl, rfl, by have := HWLwl114.out; omega, by have := HWLwl114.out; omega, by have := HWLwl121.out; omega, by have := HWLwl121.out; omega, HWBwl114.out, HWBwl121.out, HEe123.out, by omega, by omega, H133.out.pick [1, 0, 2, 3, 4, 5] rfl (by decide)⟩
    · obtain ⟨D135, hD135⟩ : ∃ D, k11.heap.size = D := ⟨_, rfl⟩
      have H136 := hid (H10.out.alloc #[.int .i64 0, .int .i64 0] 38 hD135)
      go_simp
      refine hK.out _ _ ?_ (fun hHeld2 => ?_)
      focus ((try dsimp only); (exact ⟨H136.out.cell 1 rfl 0 rfl, H136.out.cell 1 rfl 1 rfl, H136.out.cell 1 rfl 2 rfl, H136.out.cell 1 rfl 3 rfl⟩))
      clear hK K hHeld
      try simp only [Act.put, List.getElem_toArray, List.getElem_cons_zero, List.getElem_cons_succ, List.setIfInBounds_toArray, List.set_cons_zero, List.set_cons_succ]
      clear hD135
      generalize (k11.alloc (.cells #[.int .i64 0, .int .i64 0] 38)) = k137 at *
      have hHeld := hHeld2
      clear hHeld2
      refine wpAnyH_ready (rs := [2]) (by kernel_rfl) (by simp) (AllReadyH.cons (o := _) rfl (fun K hK => ?_) AllReadyH.nil)
      go_simp
      go_at_call 18
      refine (nextB_any B K1 _ _ (by omega) (H136.out.tapeAt 3 rfl)).mono ?_
      rintro e w139 ⟨x138, rfl, x138a, x138b, htn, hgn, hsn⟩
      have H140 := hid (H136.out.next 3 rfl htn hgn)
      clear htn hgn hsn
      have wnx138 : IntKind.i64.wrap (1 + x138) = 1 + x138 := IntWalk.i64_in _ (by omega)
      refine hK.out _ _ ?_ (fun hHeld2 => ?_)
      focus ((try dsimp only); (exact ⟨H140.out.cell 1 rfl 0 rfl, H140.out.cell 1 rfl 1 rfl, H140.out.cell 1 rfl 2 rfl, H140.out.cell 1 rfl 3 rfl⟩))
      clear hK K
      try simp only [Act.put, List.getElem_toArray, List.getElem_cons_zero, List.getElem_cons_succ, List.setIfInBounds_toArray, List.set_cons_zero, List.set_cons_succ]
      clear hHeld
      have hHeld := hHeld2
      clear hHeld2
      refine wpAnyH_take (i := 3) (oi := _) (v := ?_) rfl (by kernel_rfl) (by kernel_rfl) (by kernel_rfl) (fun _ _ _ h => h) (Or.inl ⟨by rfl, ?_⟩) (by assumption) ?_
      rotate_left
      focus (intro wS hSw; (try dsimp only at hSw); go_simp; (try with_reducible rfl))
      try simp only [Act.put, List.getElem_toArray, List.getElem_cons_zero, List.getElem_cons_succ, List.setIfInBounds_toArray, List.set_cons_zero, List.set_cons_succ]
      refine wpAnyH_ready (rs := [4]) (by kernel_rfl) (by simp) (AllReadyH.cons (o := _) rfl (fun K hK => ?_) AllReadyH.nil)
      go_simp
      go_at_call 19
      refine (weights_any B K1 _ _ (by omega) (H140.out.tapeAt 3 rfl)).mono ?_
      rintro e w141 ⟨wv142, wl143, rfl, hlen, hin, ho, ht, hg⟩
      have H144 := hid (H140.out.add (H140.out.next 3 rfl ht hg) ho)
      have HWLwl143 := hid hlen
      have HWBwl143 := hid hin
      obtain ⟨wv142a, wv142c, rfl, _⟩ := ho.slc
      clear hlen hin ho ht hg
      refine hK.out _ _ ?_ (fun hHeld2 => ?_)
      focus ((try dsimp only); (exact ⟨H144.out.cell 2 rfl 0 rfl, H144.out.cell 2 rfl 1 rfl, H144.out.cell 2 rfl 2 rfl, H144.out.cell 2 rfl 3 rfl⟩))
      clear hK K
      try simp only [Act.put, List.getElem_toArray, List.getElem_cons_zero, List.getElem_cons_succ, List.setIfInBounds_toArray, List.set_cons_zero, List.set_cons_succ]
      clear hHeld
      have hHeld := hHeld2
      clear hHeld2
      refine wpAnyH_ready (rs := [7]) (by kernel_rfl) (by simp) (AllReadyH.cons (o := _) rfl (fun K hK => ?_) AllReadyH.nil)
      go_simp
      go_at_call 18
      refine (nextB_any B K1 _ _ (by omega) (H144.out.tapeAt 4 rfl)).mono ?_
      rintro e w146 ⟨x145, rfl, x145a, x145b, htn, hgn, hsn⟩
      have H147 := hid (H144.out.next 4 rfl htn hgn)
      clear htn hgn hsn
      have wnx145 : IntKind.i64.wrap (1 + x145) = 1 + x145 := IntWalk.i64_in _ (by omega)
      refine hK.out _ _ ?_ (fun hHeld2 => ?_)
      focus ((try dsimp only); (exact ⟨H147.out.cell 2 rfl 0 rfl, H147.out.cell 2 rfl 1 rfl, H147.out.cell 2 rfl 2 rfl, H147.out.cell 2 rfl 3 rfl⟩))
      clear hK K
      try simp only [Act.put, List.getElem_toArray, List.getElem_cons_zero, List.getElem_cons_succ, List.setIfInBounds_toArray, List.set_cons_zero, List.set_cons_succ]
      clear hHeld
      have hHeld := hHeld2
      clear hHeld2
      refine wpAnyH_take (i := 8) (oi := _) (v := ?_) rfl (by kernel_rfl) (by kernel_rfl) (by kernel_rfl) (fun _ _ _ h => h) (Or.inl ⟨by rfl, ?_⟩) (by assumption) ?_
      rotate_left
      focus (intro wS hSw; (try dsimp only at hSw); go_simp; (try with_reducible rfl))
      try simp only [Act.put, List.getElem_toArray, List.getElem_cons_zero, List.getElem_cons_succ, List.setIfInBounds_toArray, List.set_cons_zero, List.set_cons_succ]
      refine wpAnyH_ready (rs := [9]) (by kernel_rfl) (by simp) (AllReadyH.cons (o := _) rfl (fun K hK => ?_) AllReadyH.nil)
      go_simp
      go_at_call 19
      refine (weights_any B K1 _ _ (by omega) (H147.out.tapeAt 4 rfl)).mono ?_
      rintro e w148 ⟨wv149, wl150, rfl, hlen, hin, ho, ht, hg⟩
      have H151 := hid (H147.out.add (H147.out.next 4 rfl ht hg) ho)
      have HWLwl150 := hid hlen
      have HWBwl150 := hid hin
      obtain ⟨wv149a, wv149c, rfl, _⟩ := ho.slc
      clear hlen hin ho ht hg
      refine hK.out _ _ ?_ (fun hHeld2 => ?_)
      focus ((try dsimp only); (exact ⟨H151.out.cell 3 rfl 0 rfl, H151.out.cell 3 rfl 1 rfl, H151.out.cell 3 rfl 2 rfl, H151.out.cell 3 rfl 3 rfl⟩))
      clear hK K
      try simp only [Act.put, List.getElem_toArray, List.getElem_cons_zero, List.getElem_cons_succ, List.setIfInBounds_toArray, List.set_cons_zero, List.set_cons_succ]
      clear hHeld
      have hHeld := hHeld2
      clear hHeld2
      refine wpAnyH_ready (rs := [13]) (by kernel_rfl) (by simp) (AllReadyH.cons (o := _) rfl (fun K hK => ?_) AllReadyH.nil)
      go_simp
      go_at_call 25
      refine (edgeok_any B K1 _ _ (by omega) (H151.out.tapeAt 5 rfl)).mono ?_
      rintro e w153 ⟨e152_0, e152_1, rfl, hev, ht, hg⟩
      have H154 := hid (H151.out.next 5 rfl ht hg)
      have HEe152 := hid hev
      clear ht hg hev
      refine hK.out _ _ ?_ (fun hHeld2 => ?_)
      focus ((try dsimp only); (exact ⟨H154.out.cell 3 rfl 0 rfl, H154.out.cell 3 rfl 1 rfl, H154.out.cell 3 rfl 2 rfl, H154.out.cell 3 rfl 3 rfl⟩))
      clear hK K
      try simp only [Act.put, List.getElem_toArray, List.getElem_cons_zero, List.getElem_cons_succ, List.setIfInBounds_toArray, List.set_cons_zero, List.set_cons_succ]
      clear hHeld
      have hHeld := hHeld2
      clear hHeld2
      refine wpAnyH_ready (rs := [15]) (by kernel_rfl) (by simp) (AllReadyH.cons (o := _) rfl (fun K hK => ?_) AllReadyH.nil)
      go_simp
      go_at_call 18
      refine (nextB_any B K1 _ _ (by omega) (H154.out.tapeAt 5 rfl)).mono ?_
      rintro e w156 ⟨x155, rfl, x155a, x155b, htn, hgn, hsn⟩
      have H157 := hid (H154.out.next 5 rfl htn hgn)
      clear htn hgn hsn
      refine hK.out _ _ ?_ (fun hHeld2 => ?_)
      focus ((try dsimp only); (exact ⟨H157.out.cell 3 rfl 0 rfl, H157.out.cell 3 rfl 1 rfl, H157.out.cell 3 rfl 2 rfl, H157.out.cell 3 rfl 3 rfl⟩))
      clear hK K
      try simp only [Act.put, List.getElem_toArray, List.getElem_cons_zero, List.getElem_cons_succ, List.setIfInBounds_toArray, List.set_cons_zero, List.set_cons_succ]
      clear hHeld
      have hHeld := hHeld2
      clear hHeld2
      refine wpAnyH_take (i := 17) (oi := _) (v := ?_) rfl (by kernel_rfl) (by kernel_rfl) (by kernel_rfl) (fun _ _ _ h => h) (Or.inl ⟨by rfl, ?_⟩) (by assumption) ?_
      rotate_left
      focus (intro wS hSw; (try dsimp only at hSw); go_simp; (try with_reducible rfl))
      try simp only [Act.put, List.getElem_toArray, List.getElem_cons_zero, List.getElem_cons_succ, List.setIfInBounds_toArray, List.set_cons_zero, List.set_cons_succ]
      refine wpAnyH_take (i := 18) (oi := _) (v := ?_) rfl (by kernel_rfl) (by kernel_rfl) (by kernel_rfl) (fun _ _ _ h => h) (Or.inl ⟨by rfl, ?_⟩) (by assumption) ?_
      rotate_left
      focus (intro wS hSw; (try dsimp only at hSw); go_simp; (try with_reducible rfl))
      try simp only [Act.put, List.getElem_toArray, List.getElem_cons_zero, List.getElem_cons_succ, List.setIfInBounds_toArray, List.set_cons_zero, List.set_cons_succ]
      refine wpAnyH_ready (rs := [19]) (by kernel_rfl) (by simp) (AllReadyH.cons (o := _) rfl (fun K hK => ?_) AllReadyH.nil)
      have z158 := H157.out.cell 2 rfl 0 rfl
      have z159 := H157.out.free 2 rfl 0
      have z160 := H157.out.cell 2 rfl 1 rfl
      have z161 := H157.out.free 2 rfl 1
      have H162 := hid (show St B W [.own (.slice wv149a wl150.length wv149c) wl150, .own (.slice wv142a wl143.length wv142c) wl143, .cells D135 #[.int .i64 e152_0, .int .i64 e152_1] 38, .cells D7 #[.int .i64 pw4, .int .i64 ph4, .int .i64 pm4, .slice pv4a ps4.length pv4c] 35, .own (.slice pv4a ps4.length pv4c) ps4, .tape K1] [] ((w156.setCell ⟨D135, 0, none⟩ (.int .i64 e152_0)).setCell ⟨D135, 1, none⟩ (.int .i64 e152_1)) from ((H157.out.set 2 rfl 0 (.int .i64 e152_0)).set 2 rfl 1 (.int .i64 e152_1)))
      go_simp
      refine hK.out _ _ ?_ (fun hHeld2 => ?_)
      focus ((try dsimp only); (exact ⟨H162.out.cell 3 rfl 0 rfl, H162.out.cell 3 rfl 1 rfl, H162.out.cell 3 rfl 2 rfl, H162.out.cell 3 rfl 3 rfl⟩))
      clear hK K hHeld
      try simp only [Act.put, List.getElem_toArray, List.getElem_cons_zero, List.getElem_cons_succ, List.setIfInBounds_toArray, List.set_cons_zero, List.set_cons_succ]
      clear z158 z159 z160 z161
      generalize ((w156.setCell ⟨D135, 0, none⟩ (.int .i64 e152_0)).setCell ⟨D135, 1, none⟩ (.int .i64 e152_1)) = k163 at *
      have hHeld := hHeld2
      clear hHeld2
      refine wpAnyH_take (i := 20) (oi := _) (v := ?_) rfl (by kernel_rfl) (by kernel_rfl) (by kernel_rfl) (fun _ _ _ h => h) (Or.inl ⟨by rfl, ?_⟩) (by assumption) ?_
      rotate_left
      focus (intro wS hSw; (try dsimp only at hSw); go_simp; (try with_reducible rfl))
      try simp only [Act.put, List.getElem_toArray, List.getElem_cons_zero, List.getElem_cons_succ, List.setIfInBounds_toArray, List.set_cons_zero, List.set_cons_succ]
      refine wpAnyH_done (by kernel_rfl) ?_ _
      try clear hHeld
      go_wp2_with fail
      go_meet
      exact ⟨D135, _, _, _, _, _, _, _, _, _, rfl, rfl, rfl, rfl, by have := HWLwl143.out; omega, by have := HWLwl143.out; omega, by have := HWLwl150.out; omega, by have := HWLwl150.out; omega, HWBwl143.out, HWBwl150.out, HEe152.out, by omega, by omega, H162.out.pick [1, 0, 2, 3, 4, 5] rfl (by decide)⟩
  case rest =>
    obtain ⟨RE, wla, wlc, wls, vla, vlc, vls, ep, ef, sh, rfl, rfl, rfl, rfl, hwl1, hwl2, hvl1, hvl2, hwb, hvb, hev, sh1, sh2, hst⟩ := hcut
    obtain ⟨u164, rfl⟩ : ∃ u164 : World, u164 = wc := ⟨_, rfl⟩
    have H165 := hid hst
    clear hst
    have HWLwls := hid (show 1 ≤ wls.length ∧ wls.length ≤ 9 from by omega)
    have HWLvls := hid (show 1 ≤ vls.length ∧ vls.length ≤ 9 from by omega)
    have HWBwls := hid hwb
    have HWBvls := hid hvb
    have HEV := hid hev
    clear hwb hvb hev
    obtain ⟨nw, hnw⟩ : ∃ m : Nat, pw4 = m := ⟨pw4.toNat, by omega⟩
    obtain ⟨nh, hnh⟩ : ∃ m : Nat, ph4 = m := ⟨ph4.toNat, by omega⟩
    subst hnw
    subst hnh
    have HLP := hid (show ps4.length = nh * nw from by have := (pValid_iff.1 HVps4.out).2.1; rw [← Int.natCast_mul, Nat.mul_comm] at this; omega)
    have z166 := H165.out.cell 3 rfl 0 rfl
    have z167 := H165.out.cell 3 rfl 1 rfl
    have z168 := H165.out.cell 3 rfl 2 rfl
    have z169 := H165.out.cell 3 rfl 3 rfl
    have z170 := H165.out.cell 2 rfl 0 rfl
    have z171 := H165.out.cell 2 rfl 1 rfl
    go_wp2_with fail
    clear z166 z167 z168 z169 z170 z171
    have hp := pOk_iff.1 (pValid_iff.1 HVps4.out).1
    have hmx := HMps4.out
    have HCK175 := hid (show spCode pm4 wls vls 0 sh 255 = 0 from sp_ok (by have := HWLwls.out; omega) (by have := HWLvls.out; omega) (fun i hi => HWBwls.out i) (fun i hi => HWBvls.out i) (by omega) (by omega) (by omega) (by omega))
    have hct := spT_ok HVps4.out (HEV.out) HCK175.out (r0 := 0) (r1 := 0) (r2 := nw) (r3 := nh) (by omega)
    refine (stile_any _ _ _ _ _ _ ps4 _ _ _ _ _ wls _ _ _ vls _ _ _ _ _ _ _ _ (H165.out.slc 4 rfl) (H165.out.slc 0 rfl) (H165.out.slc 1 rfl)).mono ?_
    rintro e w172 ⟨v173, rfl, ho, hb⟩
    rw [hct] at ho ⊢
    simp only [tI, tL, if_pos] at ho ⊢
    clear hct hp hmx
    obtain ⟨l176, hl176⟩ : ∃ xx', spL nw nh ps4 ep ef wls vls 0 sh 255 0 0 nw nh = xx' := ⟨_, rfl⟩
    rw [hl176] at ho
    have HNl176 := hid hl176
    clear hl176
    rw [Int.sub_zero, Int.sub_zero]
    have H174 := hid (H165.out.grow hb ho)
    obtain ⟨v173a, v173c, rfl, _⟩ := ho.slc
    clear ho hb
    have HVl176 := hid (show pValid nw nh 255 l176 = true from by rw [← HNl176.out]; exact rG_valid (by omega) (fun x y => clV_bd (by omega)) HVps4.out)
    obtain ⟨D177, hD177⟩ : ∃ D, w172.heap.size = D := ⟨_, rfl⟩
    go_upto_region 5 with fail
    have H178 := hid (show St B W [.cells D177 #[.int .i64 nw, .int .i64 nh, .int .i64 255, .slice v173a l176.length v173c] 35, .own (.slice v173a l176.length v173c) l176, .own (.slice wla wls.length wlc) wls, .own (.slice vla vls.length vlc) vls, .cells RE #[.int .i64 ep, .int .i64 ef] 38, .cells D7 #[.int .i64 nw, .int .i64 nh, .int .i64 pm4, .slice pv4a ps4.length pv4c] 35, .own (.slice pv4a ps4.length pv4c) ps4, .tape K1] [] (w172.alloc (.cells #[.int .i64 nw, .int .i64 nh, .int .i64 255, .slice v173a l176.length v173c] 35)) from (H174.out.alloc #[.int .i64 nw, .int .i64 nh, .int .i64 255, .slice v173a l176.length v173c] 35 hD177))
    first | refine gen_code H178.out ?_ | refine gen_list H178.out ?_ | refine gen_calls H178.out ?_
    intro w179 hG
    clear H178
    have H178 := hid hG
    clear hG
    clear hD177
    have H180 := hid H178.out.drew
    refine wp_region_held_drew (S := (fun w' => w'.cell? ⟨D7, 0, none⟩ = some (.int .i64 nw) ∧ w'.cell? ⟨D7, 1, none⟩ = some (.int .i64 nh) ∧ w'.cell? ⟨D7, 2, none⟩ = some (.int .i64 pm4) ∧ w'.cell? ⟨D7, 3, none⟩ = some (.slice pv4a ps4.length pv4c) ∧ w'.cell? ⟨RE, 0, none⟩ = some (.int .i64 ep) ∧ w'.cell? ⟨RE, 1, none⟩ = some (.int .i64 ef))) (by kernel_rfl) ⟨H180.out.cell 5 rfl 0 rfl, H180.out.cell 5 rfl 1 rfl, H180.out.cell 5 rfl 2 rfl, H180.out.cell 5 rfl 3 rfl, H180.out.cell 4 rfl 0 rfl, H180.out.cell 4 rfl 1 rfl⟩ (fun hHeld => ?_)
    generalize w179.drew = k181 at *
    refine wpAnyH_take (i := 0) (oi := _) (v := ?_) rfl (by kernel_rfl) (by kernel_rfl) (by kernel_rfl) (fun _ _ _ h => h) (Or.inl ⟨by rfl, ?_⟩) (by assumption) ?_
    rotate_left
    focus (intro wS hSw; (try dsimp only at hSw); go_simp; (try with_reducible rfl))
    try simp only [Act.put, List.getElem_toArray, List.getElem_cons_zero, List.getElem_cons_succ, List.setIfInBounds_toArray, List.set_cons_zero, List.set_cons_succ]
    refine wpAnyH_take (i := 2) (oi := _) (v := ?_) rfl (by kernel_rfl) (by kernel_rfl) (by kernel_rfl) (fun _ _ _ h => h) (Or.inl ⟨by rfl, ?_⟩) (by assumption) ?_
    rotate_left
    focus (intro wS hSw; (try dsimp only at hSw); go_simp; (try with_reducible rfl))
    try simp only [Act.put, List.getElem_toArray, List.getElem_cons_zero, List.getElem_cons_succ, List.setIfInBounds_toArray, List.set_cons_zero, List.set_cons_succ]
    refine wpAnyH_take (i := 3) (oi := _) (v := ?_) rfl (by kernel_rfl) (by kernel_rfl) (by kernel_rfl) (fun _ _ _ h => h) (Or.inl ⟨by rfl, ?_⟩) (by assumption) ?_
    rotate_left
    focus (intro wS hSw; (try dsimp only at hSw); go_simp; (try with_reducible rfl))
    try simp only [Act.put, List.getElem_toArray, List.getElem_cons_zero, List.getElem_cons_succ, List.setIfInBounds_toArray, List.set_cons_zero, List.set_cons_succ]
    refine wpAnyH_take (i := 4) (oi := _) (v := ?_) rfl (by kernel_rfl) (by kernel_rfl) (by kernel_rfl) (fun _ _ _ h => h) (Or.inl ⟨by rfl, ?_⟩) (by assumption) ?_
    rotate_left
    focus (intro wS hSw; (try dsimp only at hSw); go_simp; (try with_reducible rfl))
    try simp only [Act.put, List.getElem_toArray, List.getElem_cons_zero, List.getElem_cons_succ, List.setIfInBounds_toArray, List.set_cons_zero, List.set_cons_succ]
    refine wpAnyH_take (i := 5) (oi := _) (v := ?_) rfl (by kernel_rfl) (by kernel_rfl) (by kernel_rfl) (fun _ _ _ h => h) (Or.inl ⟨by rfl, ?_⟩) (by assumption) ?_
    rotate_left
    focus (intro wS hSw; (try dsimp only at hSw); go_simp; (try with_reducible rfl))
    try simp only [Act.put, List.getElem_toArray, List.getElem_cons_zero, List.getElem_cons_succ, List.setIfInBounds_toArray, List.set_cons_zero, List.set_cons_succ]
    refine wpAnyH_take (i := 6) (oi := _) (v := ?_) rfl (by kernel_rfl) (by kernel_rfl) (by kernel_rfl) (fun _ _ _ h => h) (Or.inl ⟨by rfl, ?_⟩) (by assumption) ?_
    rotate_left
    focus (intro wS hSw; (try dsimp only at hSw); go_simp; (try with_reducible rfl))
    try simp only [Act.put, List.getElem_toArray, List.getElem_cons_zero, List.getElem_cons_succ, List.setIfInBounds_toArray, List.set_cons_zero, List.set_cons_succ]
    refine wpAnyH_take (i := 7) (oi := _) (v := ?_) rfl (by kernel_rfl) (by kernel_rfl) (by kernel_rfl) (fun _ _ _ h => h) (Or.inl ⟨by rfl, ?_⟩) (by assumption) ?_
    rotate_left
    focus (intro wS hSw; (try dsimp only at hSw); go_simp; (try with_reducible rfl))
    try simp only [Act.put, List.getElem_toArray, List.getElem_cons_zero, List.getElem_cons_succ, List.setIfInBounds_toArray, List.set_cons_zero, List.set_cons_succ]
    refine wpAnyH_take (i := 8) (oi := _) (v := ?_) rfl (by kernel_rfl) (by kernel_rfl) (by kernel_rfl) (fun _ _ _ h => h) (Or.inl ⟨by rfl, ?_⟩) (by assumption) ?_
    rotate_left
    focus (intro wS hSw; (try dsimp only at hSw); go_simp; (try with_reducible rfl))
    try simp only [Act.put, List.getElem_toArray, List.getElem_cons_zero, List.getElem_cons_succ, List.setIfInBounds_toArray, List.set_cons_zero, List.set_cons_succ]
    refine wpAnyH_take (i := 9) (oi := _) (v := ?_) rfl (by kernel_rfl) (by kernel_rfl) (by kernel_rfl) (fun _ _ _ h => h) (Or.inl ⟨by rfl, ?_⟩) (by assumption) ?_
    rotate_left
    focus (intro wS hSw; (try dsimp only at hSw); go_simp; (try with_reducible rfl))
    try simp only [Act.put, List.getElem_toArray, List.getElem_cons_zero, List.getElem_cons_succ, List.setIfInBounds_toArray, List.set_cons_zero, List.set_cons_succ]
    refine wpAnyH_take (i := 10) (oi := _) (v := ?_) rfl (by kernel_rfl) (by kernel_rfl) (by kernel_rfl) (fun _ _ _ h => h) (Or.inl ⟨by rfl, ?_⟩) (by assumption) ?_
    rotate_left
    focus (intro wS hSw; (try dsimp only at hSw); go_simp; (try with_reducible rfl))
    try simp only [Act.put, List.getElem_toArray, List.getElem_cons_zero, List.getElem_cons_succ, List.setIfInBounds_toArray, List.set_cons_zero, List.set_cons_succ]
    refine wpAnyH_ready (rs := [1, 15]) (by kernel_rfl) (by simp) (AllReadyH.cons (o := _) rfl (fun K hK => ?_) (AllReadyH.cons (o := _) rfl (fun K hK => ?_) AllReadyH.nil))
    · go_simp
      go_at_call 40
      have hlx : ps4.length = nh * nw := by have := (pValid_iff.1 HVps4.out).2.1; rw [← Int.natCast_mul, Nat.mul_comm] at this; omega
      refine (turn_any nw nh pm4 _ _ _ ps4 _ (H180.out.slc 6 rfl) hlx (by omega) (by omega)).mono ?_
      rintro e w182 ⟨v183, tl185, rfl, htu, ho, hb⟩
      have HTUtl185 := hid htu
      have HVtl185 := hid (htu.valid rfl rfl HVps4.out)
      have HMtl185 := HMps4
      have H184 := hid (H180.out.grow hb ho)
      obtain ⟨v183a, v183c, rfl, _⟩ := ho.slc
      clear ho hb htu hlx
      refine hK.out _ _ ?_ (fun hHeld2 => ?_)
      focus ((try dsimp only); (exact ⟨H184.out.cell 6 rfl 0 rfl, H184.out.cell 6 rfl 1 rfl, H184.out.cell 6 rfl 2 rfl, H184.out.cell 6 rfl 3 rfl, H184.out.cell 5 rfl 0 rfl, H184.out.cell 5 rfl 1 rfl⟩))
      clear hK K
      try simp only [Act.put, List.getElem_toArray, List.getElem_cons_zero, List.getElem_cons_succ, List.setIfInBounds_toArray, List.set_cons_zero, List.set_cons_succ]
      clear hHeld
      have hHeld := hHeld2
      clear hHeld2
      refine wpAnyH_ready (rs := [11, 15]) (by kernel_rfl) (by simp) (AllReadyH.cons (o := _) rfl (fun K hK => ?_) (AllReadyH.cons (o := _) rfl (fun K hK => ?_) AllReadyH.nil))
      · go_simp
        go_at_call 38
        have hp := pOk_iff.1 (pValid_iff.1 HVtl185.out).1
        have hmx := HMtl185.out
        have HCK189 := hid (show spCode pm4 vls wls 0 sh 255 = 0 from sp_ok (by have := HWLvls.out; omega) (by have := HWLwls.out; omega) (fun i hi => HWBvls.out i) (fun i hi => HWBwls.out i) (by omega) (by omega) (by omega) (by omega))
        have hct := spT_ok HVtl185.out (HEV.out) HCK189.out (r0 := 0) (r1 := 0) (r2 := nh) (r3 := nw) (by omega)
        refine (stile_any _ _ _ _ _ _ tl185 _ _ _ _ _ vls _ _ _ wls _ _ _ _ _ _ _ _ (H184.out.slc 0 rfl) (H184.out.slc 4 rfl) (H184.out.slc 3 rfl)).mono ?_
        rintro e w186 ⟨v187, rfl, ho, hb⟩
        rw [hct] at ho ⊢
        simp only [tI, tL, if_pos] at ho ⊢
        clear hct hp hmx
        obtain ⟨l190, hl190⟩ : ∃ xx', spL nh nw tl185 ep ef vls wls 0 sh 255 0 0 nh nw = xx' := ⟨_, rfl⟩
        rw [hl190] at ho
        have HNl190 := hid hl190
        clear hl190
        rw [Int.sub_zero, Int.sub_zero]
        have H188 := hid (H184.out.grow hb ho)
        obtain ⟨v187a, v187c, rfl, _⟩ := ho.slc
        clear ho hb
        have HVl190 := hid (show pValid nh nw 255 l190 = true from by rw [← HNl190.out]; exact rG_valid (by omega) (fun x y => clV_bd (by omega)) HVtl185.out)
        refine hK.out _ _ ?_ (fun hHeld2 => ?_)
        focus ((try dsimp only); (exact ⟨H188.out.cell 7 rfl 0 rfl, H188.out.cell 7 rfl 1 rfl, H188.out.cell 7 rfl 2 rfl, H188.out.cell 7 rfl 3 rfl, H188.out.cell 6 rfl 0 rfl, H188.out.cell 6 rfl 1 rfl⟩))
        clear hK K
        try simp only [Act.put, List.getElem_toArray, List.getElem_cons_zero, List.getElem_cons_succ, List.setIfInBounds_toArray, List.set_cons_zero, List.set_cons_succ]
        clear hHeld
        have hHeld := hHeld2
        clear hHeld2
        refine wpAnyH_take (i := 12) (oi := _) (v := ?_) rfl (by kernel_rfl) (by kernel_rfl) (by kernel_rfl) (fun _ _ _ h => h) (Or.inl ⟨by rfl, ?_⟩) (by assumption) ?_
        rotate_left
        focus (intro wS hSw; (try dsimp only at hSw); go_simp; (try with_reducible rfl))
        try simp only [Act.put, List.getElem_toArray, List.getElem_cons_zero, List.getElem_cons_succ, List.setIfInBounds_toArray, List.set_cons_zero, List.set_cons_succ]
        refine wpAnyH_take (i := 13) (oi := _) (v := ?_) rfl (by kernel_rfl) (by kernel_rfl) (by kernel_rfl) (fun _ _ _ h => h) (Or.inl ⟨by rfl, ?_⟩) (by assumption) ?_
        rotate_left
        focus (intro wS hSw; (try dsimp only at hSw); go_simp; (try with_reducible rfl))
        try simp only [Act.put, List.getElem_toArray, List.getElem_cons_zero, List.getElem_cons_succ, List.setIfInBounds_toArray, List.set_cons_zero, List.set_cons_succ]
        refine wpAnyH_take (i := 14) (oi := _) (v := ?_) rfl (by kernel_rfl) (by kernel_rfl) (by kernel_rfl) (fun _ _ _ h => h) (Or.inl ⟨by rfl, ?_⟩) (by assumption) ?_
        rotate_left
        focus (intro wS hSw; (try dsimp only at hSw); go_simp; (try with_reducible rfl))
        try simp only [Act.put, List.getElem_toArray, List.getElem_cons_zero, List.getElem_cons_succ, List.setIfInBounds_toArray, List.set_cons_zero, List.set_cons_succ]
        refine wpAnyH_ready (rs := [15]) (by kernel_rfl) (by simp) (AllReadyH.cons (o := _) rfl (fun K hK => ?_) AllReadyH.nil)
        obtain ⟨D191, hD191⟩ : ∃ D, w186.heap.size = D := ⟨_, rfl⟩
        have H192 := hid (H188.out.alloc #[.int .i64 0, .int .i64 0, .int .i64 0, .slice none 0 0] 35 hD191)
        go_simp
        refine hK.out _ _ ?_ (fun hHeld2 => ?_)
        focus ((try dsimp only); (exact ⟨H192.out.cell 8 rfl 0 rfl, H192.out.cell 8 rfl 1 rfl, H192.out.cell 8 rfl 2 rfl, H192.out.cell 8 rfl 3 rfl, H192.out.cell 7 rfl 0 rfl, H192.out.cell 7 rfl 1 rfl⟩))
        clear hK K hHeld
        try simp only [Act.put, List.getElem_toArray, List.getElem_cons_zero, List.getElem_cons_succ, List.setIfInBounds_toArray, List.set_cons_zero, List.set_cons_succ]
        clear hD191
        generalize (w186.alloc (.cells #[.int .i64 0, .int .i64 0, .int .i64 0, .slice none 0 0] 35)) = k193 at *
        have hHeld := hHeld2
        clear hHeld2
        refine wpAnyH_ready (rs := [16]) (by kernel_rfl) (by simp) (AllReadyH.cons (o := _) rfl (fun K hK => ?_) AllReadyH.nil)
        have z194 := H192.out.cell 0 rfl 0 rfl
        have z195 := H192.out.free 0 rfl 0
        have z196 := H192.out.cell 0 rfl 1 rfl
        have z197 := H192.out.free 0 rfl 1
        have z198 := H192.out.cell 0 rfl 2 rfl
        have z199 := H192.out.free 0 rfl 2
        have z200 := H192.out.cell 0 rfl 3 rfl
        have z201 := H192.out.free 0 rfl 3
        have H202 := hid (show St B W [.cells D191 #[.int .i64 nh, .int .i64 nw, .int .i64 255, .slice v187a l190.length v187c] 35, .own (.slice v187a l190.length v187c) l190, .own (.slice v183a tl185.length v183c) tl185, .cells D177 #[.int .i64 nw, .int .i64 nh, .int .i64 255, .slice v173a l176.length v173c] 35, .own (.slice v173a l176.length v173c) l176, .own (.slice wla wls.length wlc) wls, .own (.slice vla vls.length vlc) vls, .cells RE #[.int .i64 ep, .int .i64 ef] 38, .cells D7 #[.int .i64 nw, .int .i64 nh, .int .i64 pm4, .slice pv4a ps4.length pv4c] 35, .own (.slice pv4a ps4.length pv4c) ps4, .tape K1] [] ((((k193.setCell ⟨D191, 0, none⟩ (.int .i64 nh)).setCell ⟨D191, 1, none⟩ (.int .i64 nw)).setCell ⟨D191, 2, none⟩ (.int .i64 255)).setCell ⟨D191, 3, none⟩ (.slice v187a l190.length v187c)) from (H192.out.set4 0 rfl (.int .i64 nh) (.int .i64 nw) (.int .i64 255) (.slice v187a l190.length v187c)))
        go_simp
        refine hK.out _ _ ?_ (fun hHeld2 => ?_)
        focus ((try dsimp only); (exact ⟨H202.out.cell 8 rfl 0 rfl, H202.out.cell 8 rfl 1 rfl, H202.out.cell 8 rfl 2 rfl, H202.out.cell 8 rfl 3 rfl, H202.out.cell 7 rfl 0 rfl, H202.out.cell 7 rfl 1 rfl⟩))
        clear hK K hHeld
        try simp only [Act.put, List.getElem_toArray, List.getElem_cons_zero, List.getElem_cons_succ, List.setIfInBounds_toArray, List.set_cons_zero, List.set_cons_succ]
        clear z194 z195 z196 z197 z198 z199 z200 z201
        generalize ((((k193.setCell ⟨D191, 0, none⟩ (.int .i64 nh)).setCell ⟨D191, 1, none⟩ (.int .i64 nw)).setCell ⟨D191, 2, none⟩ (.int .i64 255)).setCell ⟨D191, 3, none⟩ (.slice v187a l190.length v187c)) = k203 at *
        have hHeld := hHeld2
        clear hHeld2
        refine wpAnyH_take (i := 17) (oi := _) (v := ?_) rfl (by kernel_rfl) (by kernel_rfl) (by kernel_rfl) (fun _ _ _ h => h) (Or.inl ⟨by rfl, ?_⟩) (by assumption) ?_
        rotate_left
        focus (intro wS hSw; (try dsimp only at hSw); go_simp; (try with_reducible rfl))
        try simp only [Act.put, List.getElem_toArray, List.getElem_cons_zero, List.getElem_cons_succ, List.setIfInBounds_toArray, List.set_cons_zero, List.set_cons_succ]
        refine wpAnyH_done (by kernel_rfl) ?_ _
        try clear hHeld
        obtain ⟨NP, hNP⟩ : ∃ m : Nat, nw * nh = m := ⟨_, rfl⟩
        have hnp : (nw : Int) * (nh : Int) = (NP : Int) := by rw [← hNP]; simp
        have hl0 := (pValid_iff.1 HVl176.out).2.1
        rw [hnp] at hl0
        have hlx : ((l176.length : Int) == (NP : Int)) = true := by rw [hl0]; simp
        have hnm := Nat.mul_le_mul (show nw ≤ 128 by omega) (show nh ≤ 128 by omega)
        have wnp : IntKind.i64.wrap (NP : Int) = NP := IntWalk.i64_in _ (by omega)
        clear hl0 hNP hnm
        go_upto_region 6 with fail
        have H204 := hid H202.out.drew
        refine wp_region_held_drew (S := (fun w' => w'.cell? ⟨D177, 0, none⟩ = some (.int .i64 nw) ∧ w'.cell? ⟨D177, 1, none⟩ = some (.int .i64 nh) ∧ w'.cell? ⟨D177, 2, none⟩ = some (.int .i64 255) ∧ w'.cell? ⟨D177, 3, none⟩ = some (.slice v173a l176.length v173c) ∧ w'.cell? ⟨D7, 0, none⟩ = some (.int .i64 nw) ∧ w'.cell? ⟨D7, 1, none⟩ = some (.int .i64 nh) ∧ w'.cell? ⟨D7, 2, none⟩ = some (.int .i64 pm4) ∧ w'.cell? ⟨D7, 3, none⟩ = some (.slice pv4a ps4.length pv4c) ∧ w'.cell? ⟨D191, 0, none⟩ = some (.int .i64 nh) ∧ w'.cell? ⟨D191, 1, none⟩ = some (.int .i64 nw) ∧ w'.cell? ⟨D191, 2, none⟩ = some (.int .i64 255) ∧ w'.cell? ⟨D191, 3, none⟩ = some (.slice v187a l190.length v187c))) (by kernel_rfl) ⟨H204.out.cell 3 rfl 0 rfl, H204.out.cell 3 rfl 1 rfl, H204.out.cell 3 rfl 2 rfl, H204.out.cell 3 rfl 3 rfl, H204.out.cell 8 rfl 0 rfl, H204.out.cell 8 rfl 1 rfl, H204.out.cell 8 rfl 2 rfl, H204.out.cell 8 rfl 3 rfl, H204.out.cell 0 rfl 0 rfl, H204.out.cell 0 rfl 1 rfl, H204.out.cell 0 rfl 2 rfl, H204.out.cell 0 rfl 3 rfl⟩ (fun hHeld => ?_)
        generalize k203.drew = k205 at *
        refine wpAnyH_take (i := 0) (oi := _) (v := ?_) rfl (by kernel_rfl) (by kernel_rfl) (by kernel_rfl) (fun _ _ _ h => h) (Or.inl ⟨by rfl, ?_⟩) (by assumption) ?_
        rotate_left
        focus (intro wS hSw; (try dsimp only at hSw); go_simp; (try with_reducible rfl))
        try simp only [Act.put, List.getElem_toArray, List.getElem_cons_zero, List.getElem_cons_succ, List.setIfInBounds_toArray, List.set_cons_zero, List.set_cons_succ]
        refine wpAnyH_take (i := 1) (oi := _) (v := ?_) rfl (by kernel_rfl) (by kernel_rfl) (by kernel_rfl) (fun _ _ _ h => h) (Or.inl ⟨by rfl, ?_⟩) (by assumption) ?_
        rotate_left
        focus (intro wS hSw; (try dsimp only at hSw); go_simp; (try with_reducible rfl))
        try simp only [Act.put, List.getElem_toArray, List.getElem_cons_zero, List.getElem_cons_succ, List.setIfInBounds_toArray, List.set_cons_zero, List.set_cons_succ]
        refine wpAnyH_take (i := 2) (oi := _) (v := ?_) rfl (by kernel_rfl) (by kernel_rfl) (by kernel_rfl) (fun _ _ _ h => h) (Or.inl ⟨by rfl, ?_⟩) (by assumption) ?_
        rotate_left
        focus (intro wS hSw; (try dsimp only at hSw); go_simp; (try with_reducible rfl))
        try simp only [Act.put, List.getElem_toArray, List.getElem_cons_zero, List.getElem_cons_succ, List.setIfInBounds_toArray, List.set_cons_zero, List.set_cons_succ]
        refine wpAnyH_take (i := 3) (oi := _) (v := ?_) rfl (by kernel_rfl) (by kernel_rfl) (by kernel_rfl) (fun _ _ _ h => h) (Or.inl ⟨by rfl, ?_⟩) (by assumption) ?_
        rotate_left
        focus (intro wS hSw; (try dsimp only at hSw); go_simp; (try with_reducible rfl))
        try simp only [Act.put, List.getElem_toArray, List.getElem_cons_zero, List.getElem_cons_succ, List.setIfInBounds_toArray, List.set_cons_zero, List.set_cons_succ]
        refine wpAnyH_take (i := 4) (oi := _) (v := ?_) rfl (by kernel_rfl) (by kernel_rfl) (by kernel_rfl) (fun _ _ _ h => h) (Or.inl ⟨by rfl, ?_⟩) (by assumption) ?_
        rotate_left
        focus (intro wS hSw; (try dsimp only at hSw); go_simp; (try with_reducible rfl))
        try simp only [Act.put, List.getElem_toArray, List.getElem_cons_zero, List.getElem_cons_succ, List.setIfInBounds_toArray, List.set_cons_zero, List.set_cons_succ]
        refine wpAnyH_take (i := 5) (oi := _) (v := ?_) rfl (by kernel_rfl) (by kernel_rfl) (by kernel_rfl) (fun _ _ _ h => h) (Or.inl ⟨by rfl, ?_⟩) (by assumption) ?_
        rotate_left
        focus (intro wS hSw; (try dsimp only at hSw); go_simp; (try with_reducible rfl))
        try simp only [Act.put, List.getElem_toArray, List.getElem_cons_zero, List.getElem_cons_succ, List.setIfInBounds_toArray, List.set_cons_zero, List.set_cons_succ]
        refine wpAnyH_take (i := 6) (oi := _) (v := ?_) rfl (by kernel_rfl) (by kernel_rfl) (by kernel_rfl) (fun _ _ _ h => h) (Or.inl ⟨by rfl, ?_⟩) (by assumption) ?_
        rotate_left
        focus (intro wS hSw; (try dsimp only at hSw); go_simp; (try with_reducible rfl))
        try simp only [Act.put, List.getElem_toArray, List.getElem_cons_zero, List.getElem_cons_succ, List.setIfInBounds_toArray, List.set_cons_zero, List.set_cons_succ]
        refine wpAnyH_take (i := 7) (oi := _) (v := ?_) rfl (by kernel_rfl) (by kernel_rfl) (by kernel_rfl) (fun _ _ _ h => h) (Or.inl ⟨by rfl, ?_⟩) (by assumption) ?_
        rotate_left
        focus (intro wS hSw; (try dsimp only at hSw); go_simp; (try with_reducible rfl))
        try simp only [Act.put, List.getElem_toArray, List.getElem_cons_zero, List.getElem_cons_succ, List.setIfInBounds_toArray, List.set_cons_zero, List.set_cons_succ]
        refine wpAnyH_take (i := 8) (oi := _) (v := ?_) rfl (by kernel_rfl) (by kernel_rfl) (by kernel_rfl) (fun _ _ _ h => h) (Or.inl ⟨by rfl, ?_⟩) (by assumption) ?_
        rotate_left
        focus (intro wS hSw; (try dsimp only at hSw); go_simp; (try with_reducible rfl))
        try simp only [Act.put, List.getElem_toArray, List.getElem_cons_zero, List.getElem_cons_succ, List.setIfInBounds_toArray, List.set_cons_zero, List.set_cons_succ]
        refine wpAnyH_take (i := 9) (oi := _) (v := ?_) rfl (by kernel_rfl) (by kernel_rfl) (by kernel_rfl) (fun _ _ _ h => h) (Or.inl ⟨by rfl, ?_⟩) (by assumption) ?_
        rotate_left
        focus (intro wS hSw; (try dsimp only at hSw); go_simp; (try with_reducible rfl))
        try simp only [Act.put, List.getElem_toArray, List.getElem_cons_zero, List.getElem_cons_succ, List.setIfInBounds_toArray, List.set_cons_zero, List.set_cons_succ]
        refine wpAnyH_take (i := 10) (oi := _) (v := ?_) rfl (by kernel_rfl) (by kernel_rfl) (by kernel_rfl) (fun _ _ _ h => h) (Or.inl ⟨by rfl, ?_⟩) (by assumption) ?_
        rotate_left
        focus (intro wS hSw; (try dsimp only at hSw); go_simp; (try with_reducible rfl))
        try simp only [Act.put, List.getElem_toArray, List.getElem_cons_zero, List.getElem_cons_succ, List.setIfInBounds_toArray, List.set_cons_zero, List.set_cons_succ]
        refine wpAnyH_take (i := 11) (oi := _) (v := ?_) rfl (by kernel_rfl) (by kernel_rfl) (by kernel_rfl) (fun _ _ _ h => h) (Or.inl ⟨by rfl, ?_⟩) (by assumption) ?_
        rotate_left
        focus (intro wS hSw; (try dsimp only at hSw); go_simp; (try with_reducible rfl))
        try simp only [Act.put, List.getElem_toArray, List.getElem_cons_zero, List.getElem_cons_succ, List.setIfInBounds_toArray, List.set_cons_zero, List.set_cons_succ]
        refine wpAnyH_take (i := 12) (oi := _) (v := ?_) rfl (by kernel_rfl) (by kernel_rfl) (by kernel_rfl) (fun _ _ _ h => h) (Or.inl ⟨by rfl, ?_⟩) (by assumption) ?_
        rotate_left
        focus (intro wS hSw; (try dsimp only at hSw); go_simp; (try with_reducible rfl))
        try simp only [Act.put, List.getElem_toArray, List.getElem_cons_zero, List.getElem_cons_succ, List.setIfInBounds_toArray, List.set_cons_zero, List.set_cons_succ]
        refine wpAnyH_take (i := 13) (oi := _) (v := ?_) rfl (by kernel_rfl) (by kernel_rfl) (by kernel_rfl) (fun _ _ _ h => h) (Or.inl ⟨by rfl, ?_⟩) (by assumption) ?_
        rotate_left
        focus (intro wS hSw; (try dsimp only at hSw); go_simp; (try with_reducible rfl))
        try simp only [Act.put, List.getElem_toArray, List.getElem_cons_zero, List.getElem_cons_succ, List.setIfInBounds_toArray, List.set_cons_zero, List.set_cons_succ]
        refine wpAnyH_take (i := 14) (oi := _) (v := ?_) rfl (by kernel_rfl) (by kernel_rfl) (by kernel_rfl) (fun _ _ _ h => h) (Or.inl ⟨by rfl, ?_⟩) (by assumption) ?_
        rotate_left
        focus (intro wS hSw; (try dsimp only at hSw); go_simp; (try with_reducible rfl))
        try simp only [Act.put, List.getElem_toArray, List.getElem_cons_zero, List.getElem_cons_succ, List.setIfInBounds_toArray, List.set_cons_zero, List.set_cons_succ]
        refine wpAnyH_take (i := 15) (oi := _) (v := ?_) rfl (by kernel_rfl) (by kernel_rfl) (by kernel_rfl) (fun _ _ _ h => h) (Or.inl ⟨by rfl, ?_⟩) (by assumption) ?_
        rotate_left
        focus (intro wS hSw; (try dsimp only at hSw); go_simp; (try with_reducible rfl))
        try simp only [Act.put, List.getElem_toArray, List.getElem_cons_zero, List.getElem_cons_succ, List.setIfInBounds_toArray, List.set_cons_zero, List.set_cons_succ]
        refine wpAnyH_take (i := 16) (oi := _) (v := ?_) rfl (by kernel_rfl) (by kernel_rfl) (by kernel_rfl) (fun _ _ _ h => h) (Or.inl ⟨by rfl, ?_⟩) (by assumption) ?_
        rotate_left
        focus (intro wS hSw; (try dsimp only at hSw); go_simp; (try with_reducible rfl))
        try simp only [Act.put, List.getElem_toArray, List.getElem_cons_zero, List.getElem_cons_succ, List.setIfInBounds_toArray, List.set_cons_zero, List.set_cons_succ]
        refine wpAnyH_take (i := 17) (oi := _) (v := ?_) rfl (by kernel_rfl) (by kernel_rfl) (by kernel_rfl) (fun _ _ _ h => h) (Or.inl ⟨by rfl, ?_⟩) (by assumption) ?_
        rotate_left
        focus (intro wS hSw; (try dsimp only at hSw); go_simp; (try with_reducible rfl))
        try simp only [Act.put, List.getElem_toArray, List.getElem_cons_zero, List.getElem_cons_succ, List.setIfInBounds_toArray, List.set_cons_zero, List.set_cons_succ]
        refine wpAnyH_take (i := 18) (oi := _) (v := ?_) rfl (by kernel_rfl) (by kernel_rfl) (by kernel_rfl) (fun _ _ _ h => h) (Or.inl ⟨by rfl, ?_⟩) (by assumption) ?_
        rotate_left
        focus (intro wS hSw; (try dsimp only at hSw); go_simp; (try with_reducible rfl))
        try simp only [Act.put, List.getElem_toArray, List.getElem_cons_zero, List.getElem_cons_succ, List.setIfInBounds_toArray, List.set_cons_zero, List.set_cons_succ]
        refine wpAnyH_take (i := 20) (oi := _) (v := ?_) rfl (by kernel_rfl) (by kernel_rfl) (by kernel_rfl) (fun _ _ _ h => h) (Or.inl ⟨by rfl, ?_⟩) (by assumption) ?_
        rotate_left
        focus (intro wS hSw; (try dsimp only at hSw); go_simp; (try with_reducible rfl))
        try simp only [Act.put, List.getElem_toArray, List.getElem_cons_zero, List.getElem_cons_succ, List.setIfInBounds_toArray, List.set_cons_zero, List.set_cons_succ]
        refine wpAnyH_ready (rs := [19]) (by kernel_rfl) (by simp) (AllReadyH.cons (o := _) rfl (fun K hK => ?_) AllReadyH.nil)
        go_simp
        go_at_call 40
        have hlx : l176.length = nh * nw := by have := (pValid_iff.1 HVl176.out).2.1; rw [← Int.natCast_mul, Nat.mul_comm] at this; omega
        refine (turn_any nw nh 255 _ _ _ l176 _ (H204.out.slc 4 rfl) hlx (by omega) (by omega)).mono ?_
        rintro e w206 ⟨v207, tl209, rfl, htu, ho, hb⟩
        rw [show tl209 = l190 from Turned.unique hlx htu (by rw [← HNl176.out, ← HNl190.out]; exact turn_all rfl rfl HVps4.out HTUtl185.out HEV.out HMps4.out HWLwls.out HWBwls.out HWLvls.out HWBvls.out _ _)] at ho
        have H208 := hid (H204.out.grow hb ho)
        obtain ⟨v207a, v207c, rfl, _⟩ := ho.slc
        clear ho hb htu hlx
        refine hK.out _ _ ?_ (fun hHeld2 => ?_)
        focus ((try dsimp only); (exact ⟨H208.out.cell 4 rfl 0 rfl, H208.out.cell 4 rfl 1 rfl, H208.out.cell 4 rfl 2 rfl, H208.out.cell 4 rfl 3 rfl, H208.out.cell 9 rfl 0 rfl, H208.out.cell 9 rfl 1 rfl, H208.out.cell 9 rfl 2 rfl, H208.out.cell 9 rfl 3 rfl, H208.out.cell 1 rfl 0 rfl, H208.out.cell 1 rfl 1 rfl, H208.out.cell 1 rfl 2 rfl, H208.out.cell 1 rfl 3 rfl⟩))
        clear hK K
        try simp only [Act.put, List.getElem_toArray, List.getElem_cons_zero, List.getElem_cons_succ, List.setIfInBounds_toArray, List.set_cons_zero, List.set_cons_succ]
        clear hHeld
        have hHeld := hHeld2
        clear hHeld2
        refine wpAnyH_ready (rs := [21]) (by kernel_rfl) (by simp) (AllReadyH.cons (o := _) rfl (fun K hK => ?_) AllReadyH.nil)
        go_simp
        go_at_call 31
        refine (qequal_any _ _ _ _ _ _ l190 _ _ _ _ _ _ l190 _ (H208.out.slc 0 rfl) (H208.out.slc 2 rfl)).mono ?_
        rintro e w210 ⟨rfl, hb⟩
        have H211 := hid (H208.out.call hb)
        clear hb
        rw [show pEq nh nw 255 l190 nh nw 255 l190 = true from by simp [pEq]]
        refine hK.out _ _ ?_ (fun hHeld2 => ?_)
        focus ((try dsimp only); (exact ⟨H211.out.cell 4 rfl 0 rfl, H211.out.cell 4 rfl 1 rfl, H211.out.cell 4 rfl 2 rfl, H211.out.cell 4 rfl 3 rfl, H211.out.cell 9 rfl 0 rfl, H211.out.cell 9 rfl 1 rfl, H211.out.cell 9 rfl 2 rfl, H211.out.cell 9 rfl 3 rfl, H211.out.cell 1 rfl 0 rfl, H211.out.cell 1 rfl 1 rfl, H211.out.cell 1 rfl 2 rfl, H211.out.cell 1 rfl 3 rfl⟩))
        clear hK K
        try simp only [Act.put, List.getElem_toArray, List.getElem_cons_zero, List.getElem_cons_succ, List.setIfInBounds_toArray, List.set_cons_zero, List.set_cons_succ]
        clear hHeld
        have hHeld := hHeld2
        clear hHeld2
        refine wpAnyH_take (i := 22) (oi := _) (v := ?_) rfl (by kernel_rfl) (by kernel_rfl) (by kernel_rfl) (fun _ _ _ h => h) (Or.inl ⟨by rfl, ?_⟩) (by assumption) ?_
        rotate_left
        focus (intro wS hSw; (try dsimp only at hSw); go_simp; (try with_reducible rfl))
        try simp only [Act.put, List.getElem_toArray, List.getElem_cons_zero, List.getElem_cons_succ, List.setIfInBounds_toArray, List.set_cons_zero, List.set_cons_succ]
        refine wpAnyH_take (i := 23) (oi := _) (v := ?_) rfl (by kernel_rfl) (by kernel_rfl) (by kernel_rfl) (fun _ _ _ h => h) (Or.inl ⟨by rfl, ?_⟩) (by assumption) ?_
        rotate_left
        focus (intro wS hSw; (try dsimp only at hSw); go_simp; (try with_reducible rfl))
        try simp only [Act.put, List.getElem_toArray, List.getElem_cons_zero, List.getElem_cons_succ, List.setIfInBounds_toArray, List.set_cons_zero, List.set_cons_succ]
        refine wpAnyH_ready (rs := [24]) (by kernel_rfl) (by simp) (AllReadyH.cons (o := _) rfl (fun K hK => ?_) AllReadyH.nil)
        go_simp
        go_at_call 37
        refine (sane10 _).mono ?_
        rintro e w212 ⟨rfl, hb⟩
        have H213 := hid (H211.out.call hb)
        clear hb
        refine hK.out _ _ ?_ (fun hHeld2 => ?_)
        focus ((try dsimp only); (exact ⟨H213.out.cell 4 rfl 0 rfl, H213.out.cell 4 rfl 1 rfl, H213.out.cell 4 rfl 2 rfl, H213.out.cell 4 rfl 3 rfl, H213.out.cell 9 rfl 0 rfl, H213.out.cell 9 rfl 1 rfl, H213.out.cell 9 rfl 2 rfl, H213.out.cell 9 rfl 3 rfl, H213.out.cell 1 rfl 0 rfl, H213.out.cell 1 rfl 1 rfl, H213.out.cell 1 rfl 2 rfl, H213.out.cell 1 rfl 3 rfl⟩))
        clear hK K
        try simp only [Act.put, List.getElem_toArray, List.getElem_cons_zero, List.getElem_cons_succ, List.setIfInBounds_toArray, List.set_cons_zero, List.set_cons_succ]
        clear hHeld
        have hHeld := hHeld2
        clear hHeld2
        refine wpAnyH_take (i := 25) (oi := _) (v := ?_) rfl (by kernel_rfl) (by kernel_rfl) (by kernel_rfl) (fun _ _ _ h => h) (Or.inl ⟨by rfl, ?_⟩) (by assumption) ?_
        rotate_left
        focus (intro wS hSw; (try dsimp only at hSw); go_simp; (try with_reducible rfl))
        try simp only [Act.put, List.getElem_toArray, List.getElem_cons_zero, List.getElem_cons_succ, List.setIfInBounds_toArray, List.set_cons_zero, List.set_cons_succ]
        refine wpAnyH_take (i := 26) (oi := _) (v := ?_) rfl (by kernel_rfl) (by kernel_rfl) (by kernel_rfl) (fun _ _ _ h => h) (Or.inl ⟨by rfl, ?_⟩) (by assumption) ?_
        rotate_left
        focus (intro wS hSw; (try dsimp only at hSw); go_simp; (try with_reducible rfl))
        try simp only [Act.put, List.getElem_toArray, List.getElem_cons_zero, List.getElem_cons_succ, List.setIfInBounds_toArray, List.set_cons_zero, List.set_cons_succ]
        refine wpAnyH_done (by kernel_rfl) ?_ _
        try clear hHeld
        go_wp2_with fail
        go_ret
        exact ⟨rfl, by first | exact H213.out.below | exact H213.out.below'⟩
      · obtain ⟨D214, hD214⟩ : ∃ D, w182.heap.size = D := ⟨_, rfl⟩
        have H215 := hid (H184.out.alloc #[.int .i64 0, .int .i64 0, .int .i64 0, .slice none 0 0] 35 hD214)
        go_simp
        refine hK.out _ _ ?_ (fun hHeld2 => ?_)
        focus ((try dsimp only); (exact ⟨H215.out.cell 7 rfl 0 rfl, H215.out.cell 7 rfl 1 rfl, H215.out.cell 7 rfl 2 rfl, H215.out.cell 7 rfl 3 rfl, H215.out.cell 6 rfl 0 rfl, H215.out.cell 6 rfl 1 rfl⟩))
        clear hK K hHeld
        try simp only [Act.put, List.getElem_toArray, List.getElem_cons_zero, List.getElem_cons_succ, List.setIfInBounds_toArray, List.set_cons_zero, List.set_cons_succ]
        clear hD214
        generalize (w182.alloc (.cells #[.int .i64 0, .int .i64 0, .int .i64 0, .slice none 0 0] 35)) = k216 at *
        have hHeld := hHeld2
        clear hHeld2
        refine wpAnyH_ready (rs := [11]) (by kernel_rfl) (by simp) (AllReadyH.cons (o := _) rfl (fun K hK => ?_) AllReadyH.nil)
        go_simp
        go_at_call 38
        have hp := pOk_iff.1 (pValid_iff.1 HVtl185.out).1
        have hmx := HMtl185.out
        have HCK220 := hid (show spCode pm4 vls wls 0 sh 255 = 0 from sp_ok (by have := HWLvls.out; omega) (by have := HWLwls.out; omega) (fun i hi => HWBvls.out i) (fun i hi => HWBwls.out i) (by omega) (by omega) (by omega) (by omega))
        have hct := spT_ok HVtl185.out (HEV.out) HCK220.out (r0 := 0) (r1 := 0) (r2 := nh) (r3 := nw) (by omega)
        refine (stile_any _ _ _ _ _ _ tl185 _ _ _ _ _ vls _ _ _ wls _ _ _ _ _ _ _ _ (H215.out.slc 1 rfl) (H215.out.slc 5 rfl) (H215.out.slc 4 rfl)).mono ?_
        rintro e w217 ⟨v218, rfl, ho, hb⟩
        rw [hct] at ho ⊢
        simp only [tI, tL, if_pos] at ho ⊢
        clear hct hp hmx
        obtain ⟨l221, hl221⟩ : ∃ xx', spL nh nw tl185 ep ef vls wls 0 sh 255 0 0 nh nw = xx' := ⟨_, rfl⟩
        rw [hl221] at ho
        have HNl221 := hid hl221
        clear hl221
        rw [Int.sub_zero, Int.sub_zero]
        have H219 := hid (H215.out.grow hb ho)
        obtain ⟨v218a, v218c, rfl, _⟩ := ho.slc
        clear ho hb
        have HVl221 := hid (show pValid nh nw 255 l221 = true from by rw [← HNl221.out]; exact rG_valid (by omega) (fun x y => clV_bd (by omega)) HVtl185.out)
        refine hK.out _ _ ?_ (fun hHeld2 => ?_)
        focus ((try dsimp only); (exact ⟨H219.out.cell 8 rfl 0 rfl, H219.out.cell 8 rfl 1 rfl, H219.out.cell 8 rfl 2 rfl, H219.out.cell 8 rfl 3 rfl, H219.out.cell 7 rfl 0 rfl, H219.out.cell 7 rfl 1 rfl⟩))
        clear hK K
        try simp only [Act.put, List.getElem_toArray, List.getElem_cons_zero, List.getElem_cons_succ, List.setIfInBounds_toArray, List.set_cons_zero, List.set_cons_succ]
        clear hHeld
        have hHeld := hHeld2
        clear hHeld2
        refine wpAnyH_take (i := 12) (oi := _) (v := ?_) rfl (by kernel_rfl) (by kernel_rfl) (by kernel_rfl) (fun _ _ _ h => h) (Or.inl ⟨by rfl, ?_⟩) (by assumption) ?_
        rotate_left
        focus (intro wS hSw; (try dsimp only at hSw); go_simp; (try with_reducible rfl))
        try simp only [Act.put, List.getElem_toArray, List.getElem_cons_zero, List.getElem_cons_succ, List.setIfInBounds_toArray, List.set_cons_zero, List.set_cons_succ]
        refine wpAnyH_take (i := 13) (oi := _) (v := ?_) rfl (by kernel_rfl) (by kernel_rfl) (by kernel_rfl) (fun _ _ _ h => h) (Or.inl ⟨by rfl, ?_⟩) (by assumption) ?_
        rotate_left
        focus (intro wS hSw; (try dsimp only at hSw); go_simp; (try with_reducible rfl))
        try simp only [Act.put, List.getElem_toArray, List.getElem_cons_zero, List.getElem_cons_succ, List.setIfInBounds_toArray, List.set_cons_zero, List.set_cons_succ]
        refine wpAnyH_take (i := 14) (oi := _) (v := ?_) rfl (by kernel_rfl) (by kernel_rfl) (by kernel_rfl) (fun _ _ _ h => h) (Or.inl ⟨by rfl, ?_⟩) (by assumption) ?_
        rotate_left
        focus (intro wS hSw; (try dsimp only at hSw); go_simp; (try with_reducible rfl))
        try simp only [Act.put, List.getElem_toArray, List.getElem_cons_zero, List.getElem_cons_succ, List.setIfInBounds_toArray, List.set_cons_zero, List.set_cons_succ]
        refine wpAnyH_ready (rs := [16]) (by kernel_rfl) (by simp) (AllReadyH.cons (o := _) rfl (fun K hK => ?_) AllReadyH.nil)
        have z222 := H219.out.cell 1 rfl 0 rfl
        have z223 := H219.out.free 1 rfl 0
        have z224 := H219.out.cell 1 rfl 1 rfl
        have z225 := H219.out.free 1 rfl 1
        have z226 := H219.out.cell 1 rfl 2 rfl
        have z227 := H219.out.free 1 rfl 2
        have z228 := H219.out.cell 1 rfl 3 rfl
        have z229 := H219.out.free 1 rfl 3
        have H230 := hid (show St B W [.own (.slice v218a l221.length v218c) l221, .cells D214 #[.int .i64 nh, .int .i64 nw, .int .i64 255, .slice v218a l221.length v218c] 35, .own (.slice v183a tl185.length v183c) tl185, .cells D177 #[.int .i64 nw, .int .i64 nh, .int .i64 255, .slice v173a l176.length v173c] 35, .own (.slice v173a l176.length v173c) l176, .own (.slice wla wls.length wlc) wls, .own (.slice vla vls.length vlc) vls, .cells RE #[.int .i64 ep, .int .i64 ef] 38, .cells D7 #[.int .i64 nw, .int .i64 nh, .int .i64 pm4, .slice pv4a ps4.length pv4c] 35, .own (.slice pv4a ps4.length pv4c) ps4, .tape K1] [] ((((w217.setCell ⟨D214, 0, none⟩ (.int .i64 nh)).setCell ⟨D214, 1, none⟩ (.int .i64 nw)).setCell ⟨D214, 2, none⟩ (.int .i64 255)).setCell ⟨D214, 3, none⟩ (.slice v218a l221.length v218c)) from (H219.out.set4 1 rfl (.int .i64 nh) (.int .i64 nw) (.int .i64 255) (.slice v218a l221.length v218c)))
        go_simp
        refine hK.out _ _ ?_ (fun hHeld2 => ?_)
        focus ((try dsimp only); (exact ⟨H230.out.cell 8 rfl 0 rfl, H230.out.cell 8 rfl 1 rfl, H230.out.cell 8 rfl 2 rfl, H230.out.cell 8 rfl 3 rfl, H230.out.cell 7 rfl 0 rfl, H230.out.cell 7 rfl 1 rfl⟩))
        clear hK K hHeld
        try simp only [Act.put, List.getElem_toArray, List.getElem_cons_zero, List.getElem_cons_succ, List.setIfInBounds_toArray, List.set_cons_zero, List.set_cons_succ]
        clear z222 z223 z224 z225 z226 z227 z228 z229
        generalize ((((w217.setCell ⟨D214, 0, none⟩ (.int .i64 nh)).setCell ⟨D214, 1, none⟩ (.int .i64 nw)).setCell ⟨D214, 2, none⟩ (.int .i64 255)).setCell ⟨D214, 3, none⟩ (.slice v218a l221.length v218c)) = k231 at *
        have hHeld := hHeld2
        clear hHeld2
        refine wpAnyH_take (i := 17) (oi := _) (v := ?_) rfl (by kernel_rfl) (by kernel_rfl) (by kernel_rfl) (fun _ _ _ h => h) (Or.inl ⟨by rfl, ?_⟩) (by assumption) ?_
        rotate_left
        focus (intro wS hSw; (try dsimp only at hSw); go_simp; (try with_reducible rfl))
        try simp only [Act.put, List.getElem_toArray, List.getElem_cons_zero, List.getElem_cons_succ, List.setIfInBounds_toArray, List.set_cons_zero, List.set_cons_succ]
        refine wpAnyH_done (by kernel_rfl) ?_ _
        try clear hHeld
        obtain ⟨NP, hNP⟩ : ∃ m : Nat, nw * nh = m := ⟨_, rfl⟩
        have hnp : (nw : Int) * (nh : Int) = (NP : Int) := by rw [← hNP]; simp
        have hl0 := (pValid_iff.1 HVl176.out).2.1
        rw [hnp] at hl0
        have hlx : ((l176.length : Int) == (NP : Int)) = true := by rw [hl0]; simp
        have hnm := Nat.mul_le_mul (show nw ≤ 128 by omega) (show nh ≤ 128 by omega)
        have wnp : IntKind.i64.wrap (NP : Int) = NP := IntWalk.i64_in _ (by omega)
        clear hl0 hNP hnm
        go_upto_region 6 with fail
        have H232 := hid H230.out.drew
        refine wp_region_held_drew (S := (fun w' => w'.cell? ⟨D177, 0, none⟩ = some (.int .i64 nw) ∧ w'.cell? ⟨D177, 1, none⟩ = some (.int .i64 nh) ∧ w'.cell? ⟨D177, 2, none⟩ = some (.int .i64 255) ∧ w'.cell? ⟨D177, 3, none⟩ = some (.slice v173a l176.length v173c) ∧ w'.cell? ⟨D7, 0, none⟩ = some (.int .i64 nw) ∧ w'.cell? ⟨D7, 1, none⟩ = some (.int .i64 nh) ∧ w'.cell? ⟨D7, 2, none⟩ = some (.int .i64 pm4) ∧ w'.cell? ⟨D7, 3, none⟩ = some (.slice pv4a ps4.length pv4c) ∧ w'.cell? ⟨D214, 0, none⟩ = some (.int .i64 nh) ∧ w'.cell? ⟨D214, 1, none⟩ = some (.int .i64 nw) ∧ w'.cell? ⟨D214, 2, none⟩ = some (.int .i64 255) ∧ w'.cell? ⟨D214, 3, none⟩ = some (.slice v218a l221.length v218c))) (by kernel_rfl) ⟨H232.out.cell 3 rfl 0 rfl, H232.out.cell 3 rfl 1 rfl, H232.out.cell 3 rfl 2 rfl, H232.out.cell 3 rfl 3 rfl, H232.out.cell 8 rfl 0 rfl, H232.out.cell 8 rfl 1 rfl, H232.out.cell 8 rfl 2 rfl, H232.out.cell 8 rfl 3 rfl, H232.out.cell 1 rfl 0 rfl, H232.out.cell 1 rfl 1 rfl, H232.out.cell 1 rfl 2 rfl, H232.out.cell 1 rfl 3 rfl⟩ (fun hHeld => ?_)
        generalize k231.drew = k233 at *
        refine wpAnyH_take (i := 0) (oi := _) (v := ?_) rfl (by kernel_rfl) (by kernel_rfl) (by kernel_rfl) (fun _ _ _ h => h) (Or.inl ⟨by rfl, ?_⟩) (by assumption) ?_
        rotate_left
        focus (intro wS hSw; (try dsimp only at hSw); go_simp; (try with_reducible rfl))
        try simp only [Act.put, List.getElem_toArray, List.getElem_cons_zero, List.getElem_cons_succ, List.setIfInBounds_toArray, List.set_cons_zero, List.set_cons_succ]
        refine wpAnyH_take (i := 1) (oi := _) (v := ?_) rfl (by kernel_rfl) (by kernel_rfl) (by kernel_rfl) (fun _ _ _ h => h) (Or.inl ⟨by rfl, ?_⟩) (by assumption) ?_
        rotate_left
        focus (intro wS hSw; (try dsimp only at hSw); go_simp; (try with_reducible rfl))
        try simp only [Act.put, List.getElem_toArray, List.getElem_cons_zero, List.getElem_cons_succ, List.setIfInBounds_toArray, List.set_cons_zero, List.set_cons_succ]
        refine wpAnyH_take (i := 2) (oi := _) (v := ?_) rfl (by kernel_rfl) (by kernel_rfl) (by kernel_rfl) (fun _ _ _ h => h) (Or.inl ⟨by rfl, ?_⟩) (by assumption) ?_
        rotate_left
        focus (intro wS hSw; (try dsimp only at hSw); go_simp; (try with_reducible rfl))
        try simp only [Act.put, List.getElem_toArray, List.getElem_cons_zero, List.getElem_cons_succ, List.setIfInBounds_toArray, List.set_cons_zero, List.set_cons_succ]
        refine wpAnyH_take (i := 3) (oi := _) (v := ?_) rfl (by kernel_rfl) (by kernel_rfl) (by kernel_rfl) (fun _ _ _ h => h) (Or.inl ⟨by rfl, ?_⟩) (by assumption) ?_
        rotate_left
        focus (intro wS hSw; (try dsimp only at hSw); go_simp; (try with_reducible rfl))
        try simp only [Act.put, List.getElem_toArray, List.getElem_cons_zero, List.getElem_cons_succ, List.setIfInBounds_toArray, List.set_cons_zero, List.set_cons_succ]
        refine wpAnyH_take (i := 4) (oi := _) (v := ?_) rfl (by kernel_rfl) (by kernel_rfl) (by kernel_rfl) (fun _ _ _ h => h) (Or.inl ⟨by rfl, ?_⟩) (by assumption) ?_
        rotate_left
        focus (intro wS hSw; (try dsimp only at hSw); go_simp; (try with_reducible rfl))
        try simp only [Act.put, List.getElem_toArray, List.getElem_cons_zero, List.getElem_cons_succ, List.setIfInBounds_toArray, List.set_cons_zero, List.set_cons_succ]
        refine wpAnyH_take (i := 5) (oi := _) (v := ?_) rfl (by kernel_rfl) (by kernel_rfl) (by kernel_rfl) (fun _ _ _ h => h) (Or.inl ⟨by rfl, ?_⟩) (by assumption) ?_
        rotate_left
        focus (intro wS hSw; (try dsimp only at hSw); go_simp; (try with_reducible rfl))
        try simp only [Act.put, List.getElem_toArray, List.getElem_cons_zero, List.getElem_cons_succ, List.setIfInBounds_toArray, List.set_cons_zero, List.set_cons_succ]
        refine wpAnyH_take (i := 6) (oi := _) (v := ?_) rfl (by kernel_rfl) (by kernel_rfl) (by kernel_rfl) (fun _ _ _ h => h) (Or.inl ⟨by rfl, ?_⟩) (by assumption) ?_
        rotate_left
        focus (intro wS hSw; (try dsimp only at hSw); go_simp; (try with_reducible rfl))
        try simp only [Act.put, List.getElem_toArray, List.getElem_cons_zero, List.getElem_cons_succ, List.setIfInBounds_toArray, List.set_cons_zero, List.set_cons_succ]
        refine wpAnyH_take (i := 7) (oi := _) (v := ?_) rfl (by kernel_rfl) (by kernel_rfl) (by kernel_rfl) (fun _ _ _ h => h) (Or.inl ⟨by rfl, ?_⟩) (by assumption) ?_
        rotate_left
        focus (intro wS hSw; (try dsimp only at hSw); go_simp; (try with_reducible rfl))
        try simp only [Act.put, List.getElem_toArray, List.getElem_cons_zero, List.getElem_cons_succ, List.setIfInBounds_toArray, List.set_cons_zero, List.set_cons_succ]
        refine wpAnyH_take (i := 8) (oi := _) (v := ?_) rfl (by kernel_rfl) (by kernel_rfl) (by kernel_rfl) (fun _ _ _ h => h) (Or.inl ⟨by rfl, ?_⟩) (by assumption) ?_
        rotate_left
        focus (intro wS hSw; (try dsimp only at hSw); go_simp; (try with_reducible rfl))
        try simp only [Act.put, List.getElem_toArray, List.getElem_cons_zero, List.getElem_cons_succ, List.setIfInBounds_toArray, List.set_cons_zero, List.set_cons_succ]
        refine wpAnyH_take (i := 9) (oi := _) (v := ?_) rfl (by kernel_rfl) (by kernel_rfl) (by kernel_rfl) (fun _ _ _ h => h) (Or.inl ⟨by rfl, ?_⟩) (by assumption) ?_
        rotate_left
        focus (intro wS hSw; (try dsimp only at hSw); go_simp; (try with_reducible rfl))
        try simp only [Act.put, List.getElem_toArray, List.getElem_cons_zero, List.getElem_cons_succ, List.setIfInBounds_toArray, List.set_cons_zero, List.set_cons_succ]
        refine wpAnyH_take (i := 10) (oi := _) (v := ?_) rfl (by kernel_rfl) (by kernel_rfl) (by kernel_rfl) (fun _ _ _ h => h) (Or.inl ⟨by rfl, ?_⟩) (by assumption) ?_
        rotate_left
        focus (intro wS hSw; (try dsimp only at hSw); go_simp; (try with_reducible rfl))
        try simp only [Act.put, List.getElem_toArray, List.getElem_cons_zero, List.getElem_cons_succ, List.setIfInBounds_toArray, List.set_cons_zero, List.set_cons_succ]
        refine wpAnyH_take (i := 11) (oi := _) (v := ?_) rfl (by kernel_rfl) (by kernel_rfl) (by kernel_rfl) (fun _ _ _ h => h) (Or.inl ⟨by rfl, ?_⟩) (by assumption) ?_
        rotate_left
        focus (intro wS hSw; (try dsimp only at hSw); go_simp; (try with_reducible rfl))
        try simp only [Act.put, List.getElem_toArray, List.getElem_cons_zero, List.getElem_cons_succ, List.setIfInBounds_toArray, List.set_cons_zero, List.set_cons_succ]
        refine wpAnyH_take (i := 12) (oi := _) (v := ?_) rfl (by kernel_rfl) (by kernel_rfl) (by kernel_rfl) (fun _ _ _ h => h) (Or.inl ⟨by rfl, ?_⟩) (by assumption) ?_
        rotate_left
        focus (intro wS hSw; (try dsimp only at hSw); go_simp; (try with_reducible rfl))
        try simp only [Act.put, List.getElem_toArray, List.getElem_cons_zero, List.getElem_cons_succ, List.setIfInBounds_toArray, List.set_cons_zero, List.set_cons_succ]
        refine wpAnyH_take (i := 13) (oi := _) (v := ?_) rfl (by kernel_rfl) (by kernel_rfl) (by kernel_rfl) (fun _ _ _ h => h) (Or.inl ⟨by rfl, ?_⟩) (by assumption) ?_
        rotate_left
        focus (intro wS hSw; (try dsimp only at hSw); go_simp; (try with_reducible rfl))
        try simp only [Act.put, List.getElem_toArray, List.getElem_cons_zero, List.getElem_cons_succ, List.setIfInBounds_toArray, List.set_cons_zero, List.set_cons_succ]
        refine wpAnyH_take (i := 14) (oi := _) (v := ?_) rfl (by kernel_rfl) (by kernel_rfl) (by kernel_rfl) (fun _ _ _ h => h) (Or.inl ⟨by rfl, ?_⟩) (by assumption) ?_
        rotate_left
        focus (intro wS hSw; (try dsimp only at hSw); go_simp; (try with_reducible rfl))
        try simp only [Act.put, List.getElem_toArray, List.getElem_cons_zero, List.getElem_cons_succ, List.setIfInBounds_toArray, List.set_cons_zero, List.set_cons_succ]
        refine wpAnyH_take (i := 15) (oi := _) (v := ?_) rfl (by kernel_rfl) (by kernel_rfl) (by kernel_rfl) (fun _ _ _ h => h) (Or.inl ⟨by rfl, ?_⟩) (by assumption) ?_
        rotate_left
        focus (intro wS hSw; (try dsimp only at hSw); go_simp; (try with_reducible rfl))
        try simp only [Act.put, List.getElem_toArray, List.getElem_cons_zero, List.getElem_cons_succ, List.setIfInBounds_toArray, List.set_cons_zero, List.set_cons_succ]
        refine wpAnyH_take (i := 16) (oi := _) (v := ?_) rfl (by kernel_rfl) (by kernel_rfl) (by kernel_rfl) (fun _ _ _ h => h) (Or.inl ⟨by rfl, ?_⟩) (by assumption) ?_
        rotate_left
        focus (intro wS hSw; (try dsimp only at hSw); go_simp; (try with_reducible rfl))
        try simp only [Act.put, List.getElem_toArray, List.getElem_cons_zero, List.getElem_cons_succ, List.setIfInBounds_toArray, List.set_cons_zero, List.set_cons_succ]
        refine wpAnyH_take (i := 17) (oi := _) (v := ?_) rfl (by kernel_rfl) (by kernel_rfl) (by kernel_rfl) (fun _ _ _ h => h) (Or.inl ⟨by rfl, ?_⟩) (by assumption) ?_
        rotate_left
        focus (intro wS hSw; (try dsimp only at hSw); go_simp; (try with_reducible rfl))
        try simp only [Act.put, List.getElem_toArray, List.getElem_cons_zero, List.getElem_cons_succ, List.setIfInBounds_toArray, List.set_cons_zero, List.set_cons_succ]
        refine wpAnyH_take (i := 18) (oi := _) (v := ?_) rfl (by kernel_rfl) (by kernel_rfl) (by kernel_rfl) (fun _ _ _ h => h) (Or.inl ⟨by rfl, ?_⟩) (by assumption) ?_
        rotate_left
        focus (intro wS hSw; (try dsimp only at hSw); go_simp; (try with_reducible rfl))
        try simp only [Act.put, List.getElem_toArray, List.getElem_cons_zero, List.getElem_cons_succ, List.setIfInBounds_toArray, List.set_cons_zero, List.set_cons_succ]
        refine wpAnyH_take (i := 20) (oi := _) (v := ?_) rfl (by kernel_rfl) (by kernel_rfl) (by kernel_rfl) (fun _ _ _ h => h) (Or.inl ⟨by rfl, ?_⟩) (by assumption) ?_
        rotate_left
        focus (intro wS hSw; (try dsimp only at hSw); go_simp; (try with_reducible rfl))
        try simp only [Act.put, List.getElem_toArray, List.getElem_cons_zero, List.getElem_cons_succ, List.setIfInBounds_toArray, List.set_cons_zero, List.set_cons_succ]
        refine wpAnyH_ready (rs := [19]) (by kernel_rfl) (by simp) (AllReadyH.cons (o := _) rfl (fun K hK => ?_) AllReadyH.nil)
        go_simp
        go_at_call 40
        have hlx : l176.length = nh * nw := by have := (pValid_iff.1 HVl176.out).2.1; rw [← Int.natCast_mul, Nat.mul_comm] at this; omega
        refine (turn_any nw nh 255 _ _ _ l176 _ (H232.out.slc 4 rfl) hlx (by omega) (by omega)).mono ?_
        rintro e w234 ⟨v235, tl237, rfl, htu, ho, hb⟩
        rw [show tl237 = l221 from Turned.unique hlx htu (by rw [← HNl176.out, ← HNl221.out]; exact turn_all rfl rfl HVps4.out HTUtl185.out HEV.out HMps4.out HWLwls.out HWBwls.out HWLvls.out HWBvls.out _ _)] at ho
        have H236 := hid (H232.out.grow hb ho)
        obtain ⟨v235a, v235c, rfl, _⟩ := ho.slc
        clear ho hb htu hlx
        refine hK.out _ _ ?_ (fun hHeld2 => ?_)
        focus ((try dsimp only); (exact ⟨H236.out.cell 4 rfl 0 rfl, H236.out.cell 4 rfl 1 rfl, H236.out.cell 4 rfl 2 rfl, H236.out.cell 4 rfl 3 rfl, H236.out.cell 9 rfl 0 rfl, H236.out.cell 9 rfl 1 rfl, H236.out.cell 9 rfl 2 rfl, H236.out.cell 9 rfl 3 rfl, H236.out.cell 2 rfl 0 rfl, H236.out.cell 2 rfl 1 rfl, H236.out.cell 2 rfl 2 rfl, H236.out.cell 2 rfl 3 rfl⟩))
        clear hK K
        try simp only [Act.put, List.getElem_toArray, List.getElem_cons_zero, List.getElem_cons_succ, List.setIfInBounds_toArray, List.set_cons_zero, List.set_cons_succ]
        clear hHeld
        have hHeld := hHeld2
        clear hHeld2
        refine wpAnyH_ready (rs := [21]) (by kernel_rfl) (by simp) (AllReadyH.cons (o := _) rfl (fun K hK => ?_) AllReadyH.nil)
        go_simp
        go_at_call 31
        refine (qequal_any _ _ _ _ _ _ l221 _ _ _ _ _ _ l221 _ (H236.out.slc 0 rfl) (H236.out.slc 1 rfl)).mono ?_
        rintro e w238 ⟨rfl, hb⟩
        have H239 := hid (H236.out.call hb)
        clear hb
        rw [show pEq nh nw 255 l221 nh nw 255 l221 = true from by simp [pEq]]
        refine hK.out _ _ ?_ (fun hHeld2 => ?_)
        focus ((try dsimp only); (exact ⟨H239.out.cell 4 rfl 0 rfl, H239.out.cell 4 rfl 1 rfl, H239.out.cell 4 rfl 2 rfl, H239.out.cell 4 rfl 3 rfl, H239.out.cell 9 rfl 0 rfl, H239.out.cell 9 rfl 1 rfl, H239.out.cell 9 rfl 2 rfl, H239.out.cell 9 rfl 3 rfl, H239.out.cell 2 rfl 0 rfl, H239.out.cell 2 rfl 1 rfl, H239.out.cell 2 rfl 2 rfl, H239.out.cell 2 rfl 3 rfl⟩))
        clear hK K
        try simp only [Act.put, List.getElem_toArray, List.getElem_cons_zero, List.getElem_cons_succ, List.setIfInBounds_toArray, List.set_cons_zero, List.set_cons_succ]
        clear hHeld
        have hHeld := hHeld2
        clear hHeld2
        refine wpAnyH_take (i := 22) (oi := _) (v := ?_) rfl (by kernel_rfl) (by kernel_rfl) (by kernel_rfl) (fun _ _ _ h => h) (Or.inl ⟨by rfl, ?_⟩) (by assumption) ?_
        rotate_left
        focus (intro wS hSw; (try dsimp only at hSw); go_simp; (try with_reducible rfl))
        try simp only [Act.put, List.getElem_toArray, List.getElem_cons_zero, List.getElem_cons_succ, List.setIfInBounds_toArray, List.set_cons_zero, List.set_cons_succ]
        refine wpAnyH_take (i := 23) (oi := _) (v := ?_) rfl (by kernel_rfl) (by kernel_rfl) (by kernel_rfl) (fun _ _ _ h => h) (Or.inl ⟨by rfl, ?_⟩) (by assumption) ?_
        rotate_left
        focus (intro wS hSw; (try dsimp only at hSw); go_simp; (try with_reducible rfl))
        try simp only [Act.put, List.getElem_toArray, List.getElem_cons_zero, List.getElem_cons_succ, List.setIfInBounds_toArray, List.set_cons_zero, List.set_cons_succ]
        refine wpAnyH_ready (rs := [24]) (by kernel_rfl) (by simp) (AllReadyH.cons (o := _) rfl (fun K hK => ?_) AllReadyH.nil)
        go_simp
        go_at_call 37
        refine (sane10 _).mono ?_
        rintro e w240 ⟨rfl, hb⟩
        have H241 := hid (H239.out.call hb)
        clear hb
        refine hK.out _ _ ?_ (fun hHeld2 => ?_)
        focus ((try dsimp only); (exact ⟨H241.out.cell 4 rfl 0 rfl, H241.out.cell 4 rfl 1 rfl, H241.out.cell 4 rfl 2 rfl, H241.out.cell 4 rfl 3 rfl, H241.out.cell 9 rfl 0 rfl, H241.out.cell 9 rfl 1 rfl, H241.out.cell 9 rfl 2 rfl, H241.out.cell 9 rfl 3 rfl, H241.out.cell 2 rfl 0 rfl, H241.out.cell 2 rfl 1 rfl, H241.out.cell 2 rfl 2 rfl, H241.out.cell 2 rfl 3 rfl⟩))
        clear hK K
        try simp only [Act.put, List.getElem_toArray, List.getElem_cons_zero, List.getElem_cons_succ, List.setIfInBounds_toArray, List.set_cons_zero, List.set_cons_succ]
        clear hHeld
        have hHeld := hHeld2
        clear hHeld2
        refine wpAnyH_take (i := 25) (oi := _) (v := ?_) rfl (by kernel_rfl) (by kernel_rfl) (by kernel_rfl) (fun _ _ _ h => h) (Or.inl ⟨by rfl, ?_⟩) (by assumption) ?_
        rotate_left
        focus (intro wS hSw; (try dsimp only at hSw); go_simp; (try with_reducible rfl))
        try simp only [Act.put, List.getElem_toArray, List.getElem_cons_zero, List.getElem_cons_succ, List.setIfInBounds_toArray, List.set_cons_zero, List.set_cons_succ]
        refine wpAnyH_take (i := 26) (oi := _) (v := ?_) rfl (by kernel_rfl) (by kernel_rfl) (by kernel_rfl) (fun _ _ _ h => h) (Or.inl ⟨by rfl, ?_⟩) (by assumption) ?_
        rotate_left
        focus (intro wS hSw; (try dsimp only at hSw); go_simp; (try with_reducible rfl))
        try simp only [Act.put, List.getElem_toArray, List.getElem_cons_zero, List.getElem_cons_succ, List.setIfInBounds_toArray, List.set_cons_zero, List.set_cons_succ]
        refine wpAnyH_done (by kernel_rfl) ?_ _
        try clear hHeld
        go_wp2_with fail
        go_ret
        exact ⟨rfl, by first | exact H241.out.below | exact H241.out.below'⟩
    · obtain ⟨D242, hD242⟩ : ∃ D, k181.heap.size = D := ⟨_, rfl⟩
      have H243 := hid (H180.out.alloc #[.int .i64 0, .int .i64 0, .int .i64 0, .slice none 0 0] 35 hD242)
      go_simp
      refine hK.out _ _ ?_ (fun hHeld2 => ?_)
      focus ((try dsimp only); (exact ⟨H243.out.cell 6 rfl 0 rfl, H243.out.cell 6 rfl 1 rfl, H243.out.cell 6 rfl 2 rfl, H243.out.cell 6 rfl 3 rfl, H243.out.cell 5 rfl 0 rfl, H243.out.cell 5 rfl 1 rfl⟩))
      clear hK K hHeld
      try simp only [Act.put, List.getElem_toArray, List.getElem_cons_zero, List.getElem_cons_succ, List.setIfInBounds_toArray, List.set_cons_zero, List.set_cons_succ]
      clear hD242
      generalize (k181.alloc (.cells #[.int .i64 0, .int .i64 0, .int .i64 0, .slice none 0 0] 35)) = k244 at *
      have hHeld := hHeld2
      clear hHeld2
      refine wpAnyH_ready (rs := [1]) (by kernel_rfl) (by simp) (AllReadyH.cons (o := _) rfl (fun K hK => ?_) AllReadyH.nil)
      go_simp
      go_at_call 40
      have hlx : ps4.length = nh * nw := by have := (pValid_iff.1 HVps4.out).2.1; rw [← Int.natCast_mul, Nat.mul_comm] at this; omega
      refine (turn_any nw nh pm4 _ _ _ ps4 _ (H243.out.slc 7 rfl) hlx (by omega) (by omega)).mono ?_
      rintro e w245 ⟨v246, tl248, rfl, htu, ho, hb⟩
      have HTUtl248 := hid htu
      have HVtl248 := hid (htu.valid rfl rfl HVps4.out)
      have HMtl248 := HMps4
      have H247 := hid (H243.out.grow hb ho)
      obtain ⟨v246a, v246c, rfl, _⟩ := ho.slc
      clear ho hb htu hlx
      refine hK.out _ _ ?_ (fun hHeld2 => ?_)
      focus ((try dsimp only); (exact ⟨H247.out.cell 7 rfl 0 rfl, H247.out.cell 7 rfl 1 rfl, H247.out.cell 7 rfl 2 rfl, H247.out.cell 7 rfl 3 rfl, H247.out.cell 6 rfl 0 rfl, H247.out.cell 6 rfl 1 rfl⟩))
      clear hK K
      try simp only [Act.put, List.getElem_toArray, List.getElem_cons_zero, List.getElem_cons_succ, List.setIfInBounds_toArray, List.set_cons_zero, List.set_cons_succ]
      clear hHeld
      have hHeld := hHeld2
      clear hHeld2
      refine wpAnyH_ready (rs := [11]) (by kernel_rfl) (by simp) (AllReadyH.cons (o := _) rfl (fun K hK => ?_) AllReadyH.nil)
      go_simp
      go_at_call 38
      have hp := pOk_iff.1 (pValid_iff.1 HVtl248.out).1
      have hmx := HMtl248.out
      have HCK252 := hid (show spCode pm4 vls wls 0 sh 255 = 0 from sp_ok (by have := HWLvls.out; omega) (by have := HWLwls.out; omega) (fun i hi => HWBvls.out i) (fun i hi => HWBwls.out i) (by omega) (by omega) (by omega) (by omega))
      have hct := spT_ok HVtl248.out (HEV.out) HCK252.out (r0 := 0) (r1 := 0) (r2 := nh) (r3 := nw) (by omega)
      refine (stile_any _ _ _ _ _ _ tl248 _ _ _ _ _ vls _ _ _ wls _ _ _ _ _ _ _ _ (H247.out.slc 0 rfl) (H247.out.slc 5 rfl) (H247.out.slc 4 rfl)).mono ?_
      rintro e w249 ⟨v250, rfl, ho, hb⟩
      rw [hct] at ho ⊢
      simp only [tI, tL, if_pos] at ho ⊢
      clear hct hp hmx
      obtain ⟨l253, hl253⟩ : ∃ xx', spL nh nw tl248 ep ef vls wls 0 sh 255 0 0 nh nw = xx' := ⟨_, rfl⟩
      rw [hl253] at ho
      have HNl253 := hid hl253
      clear hl253
      rw [Int.sub_zero, Int.sub_zero]
      have H251 := hid (H247.out.grow hb ho)
      obtain ⟨v250a, v250c, rfl, _⟩ := ho.slc
      clear ho hb
      have HVl253 := hid (show pValid nh nw 255 l253 = true from by rw [← HNl253.out]; exact rG_valid (by omega) (fun x y => clV_bd (by omega)) HVtl248.out)
      refine hK.out _ _ ?_ (fun hHeld2 => ?_)
      focus ((try dsimp only); (exact ⟨H251.out.cell 8 rfl 0 rfl, H251.out.cell 8 rfl 1 rfl, H251.out.cell 8 rfl 2 rfl, H251.out.cell 8 rfl 3 rfl, H251.out.cell 7 rfl 0 rfl, H251.out.cell 7 rfl 1 rfl⟩))
      clear hK K
      try simp only [Act.put, List.getElem_toArray, List.getElem_cons_zero, List.getElem_cons_succ, List.setIfInBounds_toArray, List.set_cons_zero, List.set_cons_succ]
      clear hHeld
      have hHeld := hHeld2
      clear hHeld2
      refine wpAnyH_take (i := 12) (oi := _) (v := ?_) rfl (by kernel_rfl) (by kernel_rfl) (by kernel_rfl) (fun _ _ _ h => h) (Or.inl ⟨by rfl, ?_⟩) (by assumption) ?_
      rotate_left
      focus (intro wS hSw; (try dsimp only at hSw); go_simp; (try with_reducible rfl))
      try simp only [Act.put, List.getElem_toArray, List.getElem_cons_zero, List.getElem_cons_succ, List.setIfInBounds_toArray, List.set_cons_zero, List.set_cons_succ]
      refine wpAnyH_take (i := 13) (oi := _) (v := ?_) rfl (by kernel_rfl) (by kernel_rfl) (by kernel_rfl) (fun _ _ _ h => h) (Or.inl ⟨by rfl, ?_⟩) (by assumption) ?_
      rotate_left
      focus (intro wS hSw; (try dsimp only at hSw); go_simp; (try with_reducible rfl))
      try simp only [Act.put, List.getElem_toArray, List.getElem_cons_zero, List.getElem_cons_succ, List.setIfInBounds_toArray, List.set_cons_zero, List.set_cons_succ]
      refine wpAnyH_take (i := 14) (oi := _) (v := ?_) rfl (by kernel_rfl) (by kernel_rfl) (by kernel_rfl) (fun _ _ _ h => h) (Or.inl ⟨by rfl, ?_⟩) (by assumption) ?_
      rotate_left
      focus (intro wS hSw; (try dsimp only at hSw); go_simp; (try with_reducible rfl))
      try simp only [Act.put, List.getElem_toArray, List.getElem_cons_zero, List.getElem_cons_succ, List.setIfInBounds_toArray, List.set_cons_zero, List.set_cons_succ]
      refine wpAnyH_ready (rs := [16]) (by kernel_rfl) (by simp) (AllReadyH.cons (o := _) rfl (fun K hK => ?_) AllReadyH.nil)
      have z254 := H251.out.cell 2 rfl 0 rfl
      have z255 := H251.out.free 2 rfl 0
      have z256 := H251.out.cell 2 rfl 1 rfl
      have z257 := H251.out.free 2 rfl 1
      have z258 := H251.out.cell 2 rfl 2 rfl
      have z259 := H251.out.free 2 rfl 2
      have z260 := H251.out.cell 2 rfl 3 rfl
      have z261 := H251.out.free 2 rfl 3
      have H262 := hid (show St B W [.own (.slice v250a l253.length v250c) l253, .own (.slice v246a tl248.length v246c) tl248, .cells D242 #[.int .i64 nh, .int .i64 nw, .int .i64 255, .slice v250a l253.length v250c] 35, .cells D177 #[.int .i64 nw, .int .i64 nh, .int .i64 255, .slice v173a l176.length v173c] 35, .own (.slice v173a l176.length v173c) l176, .own (.slice wla wls.length wlc) wls, .own (.slice vla vls.length vlc) vls, .cells RE #[.int .i64 ep, .int .i64 ef] 38, .cells D7 #[.int .i64 nw, .int .i64 nh, .int .i64 pm4, .slice pv4a ps4.length pv4c] 35, .own (.slice pv4a ps4.length pv4c) ps4, .tape K1] [] ((((w249.setCell ⟨D242, 0, none⟩ (.int .i64 nh)).setCell ⟨D242, 1, none⟩ (.int .i64 nw)).setCell ⟨D242, 2, none⟩ (.int .i64 255)).setCell ⟨D242, 3, none⟩ (.slice v250a l253.length v250c)) from (H251.out.set4 2 rfl (.int .i64 nh) (.int .i64 nw) (.int .i64 255) (.slice v250a l253.length v250c)))
      go_simp
      refine hK.out _ _ ?_ (fun hHeld2 => ?_)
      focus ((try dsimp only); (exact ⟨H262.out.cell 8 rfl 0 rfl, H262.out.cell 8 rfl 1 rfl, H262.out.cell 8 rfl 2 rfl, H262.out.cell 8 rfl 3 rfl, H262.out.cell 7 rfl 0 rfl, H262.out.cell 7 rfl 1 rfl⟩))
      clear hK K hHeld
      try simp only [Act.put, List.getElem_toArray, List.getElem_cons_zero, List.getElem_cons_succ, List.setIfInBounds_toArray, List.set_cons_zero, List.set_cons_succ]
      clear z254 z255 z256 z257 z258 z259 z260 z261
      generalize ((((w249.setCell ⟨D242, 0, none⟩ (.int .i64 nh)).setCell ⟨D242, 1, none⟩ (.int .i64 nw)).setCell ⟨D242, 2, none⟩ (.int .i64 255)).setCell ⟨D242, 3, none⟩ (.slice v250a l253.length v250c)) = k263 at *
      have hHeld := hHeld2
      clear hHeld2
      refine wpAnyH_take (i := 17) (oi := _) (v := ?_) rfl (by kernel_rfl) (by kernel_rfl) (by kernel_rfl) (fun _ _ _ h => h) (Or.inl ⟨by rfl, ?_⟩) (by assumption) ?_
      rotate_left
      focus (intro wS hSw; (try dsimp only at hSw); go_simp; (try with_reducible rfl))
      try simp only [Act.put, List.getElem_toArray, List.getElem_cons_zero, List.getElem_cons_succ, List.setIfInBounds_toArray, List.set_cons_zero, List.set_cons_succ]
      refine wpAnyH_done (by kernel_rfl) ?_ _
      try clear hHeld
      obtain ⟨NP, hNP⟩ : ∃ m : Nat, nw * nh = m := ⟨_, rfl⟩
      have hnp : (nw : Int) * (nh : Int) = (NP : Int) := by rw [← hNP]; simp
      have hl0 := (pValid_iff.1 HVl176.out).2.1
      rw [hnp] at hl0
      have hlx : ((l176.length : Int) == (NP : Int)) = true := by rw [hl0]; simp
      have hnm := Nat.mul_le_mul (show nw ≤ 128 by omega) (show nh ≤ 128 by omega)
      have wnp : IntKind.i64.wrap (NP : Int) = NP := IntWalk.i64_in _ (by omega)
      clear hl0 hNP hnm
      go_upto_region 6 with fail
      have H264 := hid H262.out.drew
      refine wp_region_held_drew (S := (fun w' => w'.cell? ⟨D177, 0, none⟩ = some (.int .i64 nw) ∧ w'.cell? ⟨D177, 1, none⟩ = some (.int .i64 nh) ∧ w'.cell? ⟨D177, 2, none⟩ = some (.int .i64 255) ∧ w'.cell? ⟨D177, 3, none⟩ = some (.slice v173a l176.length v173c) ∧ w'.cell? ⟨D7, 0, none⟩ = some (.int .i64 nw) ∧ w'.cell? ⟨D7, 1, none⟩ = some (.int .i64 nh) ∧ w'.cell? ⟨D7, 2, none⟩ = some (.int .i64 pm4) ∧ w'.cell? ⟨D7, 3, none⟩ = some (.slice pv4a ps4.length pv4c) ∧ w'.cell? ⟨D242, 0, none⟩ = some (.int .i64 nh) ∧ w'.cell? ⟨D242, 1, none⟩ = some (.int .i64 nw) ∧ w'.cell? ⟨D242, 2, none⟩ = some (.int .i64 255) ∧ w'.cell? ⟨D242, 3, none⟩ = some (.slice v250a l253.length v250c))) (by kernel_rfl) ⟨H264.out.cell 3 rfl 0 rfl, H264.out.cell 3 rfl 1 rfl, H264.out.cell 3 rfl 2 rfl, H264.out.cell 3 rfl 3 rfl, H264.out.cell 8 rfl 0 rfl, H264.out.cell 8 rfl 1 rfl, H264.out.cell 8 rfl 2 rfl, H264.out.cell 8 rfl 3 rfl, H264.out.cell 2 rfl 0 rfl, H264.out.cell 2 rfl 1 rfl, H264.out.cell 2 rfl 2 rfl, H264.out.cell 2 rfl 3 rfl⟩ (fun hHeld => ?_)
      generalize k263.drew = k265 at *
      refine wpAnyH_take (i := 0) (oi := _) (v := ?_) rfl (by kernel_rfl) (by kernel_rfl) (by kernel_rfl) (fun _ _ _ h => h) (Or.inl ⟨by rfl, ?_⟩) (by assumption) ?_
      rotate_left
      focus (intro wS hSw; (try dsimp only at hSw); go_simp; (try with_reducible rfl))
      try simp only [Act.put, List.getElem_toArray, List.getElem_cons_zero, List.getElem_cons_succ, List.setIfInBounds_toArray, List.set_cons_zero, List.set_cons_succ]
      refine wpAnyH_take (i := 1) (oi := _) (v := ?_) rfl (by kernel_rfl) (by kernel_rfl) (by kernel_rfl) (fun _ _ _ h => h) (Or.inl ⟨by rfl, ?_⟩) (by assumption) ?_
      rotate_left
      focus (intro wS hSw; (try dsimp only at hSw); go_simp; (try with_reducible rfl))
      try simp only [Act.put, List.getElem_toArray, List.getElem_cons_zero, List.getElem_cons_succ, List.setIfInBounds_toArray, List.set_cons_zero, List.set_cons_succ]
      refine wpAnyH_take (i := 2) (oi := _) (v := ?_) rfl (by kernel_rfl) (by kernel_rfl) (by kernel_rfl) (fun _ _ _ h => h) (Or.inl ⟨by rfl, ?_⟩) (by assumption) ?_
      rotate_left
      focus (intro wS hSw; (try dsimp only at hSw); go_simp; (try with_reducible rfl))
      try simp only [Act.put, List.getElem_toArray, List.getElem_cons_zero, List.getElem_cons_succ, List.setIfInBounds_toArray, List.set_cons_zero, List.set_cons_succ]
      refine wpAnyH_take (i := 3) (oi := _) (v := ?_) rfl (by kernel_rfl) (by kernel_rfl) (by kernel_rfl) (fun _ _ _ h => h) (Or.inl ⟨by rfl, ?_⟩) (by assumption) ?_
      rotate_left
      focus (intro wS hSw; (try dsimp only at hSw); go_simp; (try with_reducible rfl))
      try simp only [Act.put, List.getElem_toArray, List.getElem_cons_zero, List.getElem_cons_succ, List.setIfInBounds_toArray, List.set_cons_zero, List.set_cons_succ]
      refine wpAnyH_take (i := 4) (oi := _) (v := ?_) rfl (by kernel_rfl) (by kernel_rfl) (by kernel_rfl) (fun _ _ _ h => h) (Or.inl ⟨by rfl, ?_⟩) (by assumption) ?_
      rotate_left
      focus (intro wS hSw; (try dsimp only at hSw); go_simp; (try with_reducible rfl))
      try simp only [Act.put, List.getElem_toArray, List.getElem_cons_zero, List.getElem_cons_succ, List.setIfInBounds_toArray, List.set_cons_zero, List.set_cons_succ]
      refine wpAnyH_take (i := 5) (oi := _) (v := ?_) rfl (by kernel_rfl) (by kernel_rfl) (by kernel_rfl) (fun _ _ _ h => h) (Or.inl ⟨by rfl, ?_⟩) (by assumption) ?_
      rotate_left
      focus (intro wS hSw; (try dsimp only at hSw); go_simp; (try with_reducible rfl))
      try simp only [Act.put, List.getElem_toArray, List.getElem_cons_zero, List.getElem_cons_succ, List.setIfInBounds_toArray, List.set_cons_zero, List.set_cons_succ]
      refine wpAnyH_take (i := 6) (oi := _) (v := ?_) rfl (by kernel_rfl) (by kernel_rfl) (by kernel_rfl) (fun _ _ _ h => h) (Or.inl ⟨by rfl, ?_⟩) (by assumption) ?_
      rotate_left
      focus (intro wS hSw; (try dsimp only at hSw); go_simp; (try with_reducible rfl))
      try simp only [Act.put, List.getElem_toArray, List.getElem_cons_zero, List.getElem_cons_succ, List.setIfInBounds_toArray, List.set_cons_zero, List.set_cons_succ]
      refine wpAnyH_take (i := 7) (oi := _) (v := ?_) rfl (by kernel_rfl) (by kernel_rfl) (by kernel_rfl) (fun _ _ _ h => h) (Or.inl ⟨by rfl, ?_⟩) (by assumption) ?_
      rotate_left
      focus (intro wS hSw; (try dsimp only at hSw); go_simp; (try with_reducible rfl))
      try simp only [Act.put, List.getElem_toArray, List.getElem_cons_zero, List.getElem_cons_succ, List.setIfInBounds_toArray, List.set_cons_zero, List.set_cons_succ]
      refine wpAnyH_take (i := 8) (oi := _) (v := ?_) rfl (by kernel_rfl) (by kernel_rfl) (by kernel_rfl) (fun _ _ _ h => h) (Or.inl ⟨by rfl, ?_⟩) (by assumption) ?_
      rotate_left
      focus (intro wS hSw; (try dsimp only at hSw); go_simp; (try with_reducible rfl))
      try simp only [Act.put, List.getElem_toArray, List.getElem_cons_zero, List.getElem_cons_succ, List.setIfInBounds_toArray, List.set_cons_zero, List.set_cons_succ]
      refine wpAnyH_take (i := 9) (oi := _) (v := ?_) rfl (by kernel_rfl) (by kernel_rfl) (by kernel_rfl) (fun _ _ _ h => h) (Or.inl ⟨by rfl, ?_⟩) (by assumption) ?_
      rotate_left
      focus (intro wS hSw; (try dsimp only at hSw); go_simp; (try with_reducible rfl))
      try simp only [Act.put, List.getElem_toArray, List.getElem_cons_zero, List.getElem_cons_succ, List.setIfInBounds_toArray, List.set_cons_zero, List.set_cons_succ]
      refine wpAnyH_take (i := 10) (oi := _) (v := ?_) rfl (by kernel_rfl) (by kernel_rfl) (by kernel_rfl) (fun _ _ _ h => h) (Or.inl ⟨by rfl, ?_⟩) (by assumption) ?_
      rotate_left
      focus (intro wS hSw; (try dsimp only at hSw); go_simp; (try with_reducible rfl))
      try simp only [Act.put, List.getElem_toArray, List.getElem_cons_zero, List.getElem_cons_succ, List.setIfInBounds_toArray, List.set_cons_zero, List.set_cons_succ]
      refine wpAnyH_take (i := 11) (oi := _) (v := ?_) rfl (by kernel_rfl) (by kernel_rfl) (by kernel_rfl) (fun _ _ _ h => h) (Or.inl ⟨by rfl, ?_⟩) (by assumption) ?_
      rotate_left
      focus (intro wS hSw; (try dsimp only at hSw); go_simp; (try with_reducible rfl))
      try simp only [Act.put, List.getElem_toArray, List.getElem_cons_zero, List.getElem_cons_succ, List.setIfInBounds_toArray, List.set_cons_zero, List.set_cons_succ]
      refine wpAnyH_take (i := 12) (oi := _) (v := ?_) rfl (by kernel_rfl) (by kernel_rfl) (by kernel_rfl) (fun _ _ _ h => h) (Or.inl ⟨by rfl, ?_⟩) (by assumption) ?_
      rotate_left
      focus (intro wS hSw; (try dsimp only at hSw); go_simp; (try with_reducible rfl))
      try simp only [Act.put, List.getElem_toArray, List.getElem_cons_zero, List.getElem_cons_succ, List.setIfInBounds_toArray, List.set_cons_zero, List.set_cons_succ]
      refine wpAnyH_take (i := 13) (oi := _) (v := ?_) rfl (by kernel_rfl) (by kernel_rfl) (by kernel_rfl) (fun _ _ _ h => h) (Or.inl ⟨by rfl, ?_⟩) (by assumption) ?_
      rotate_left
      focus (intro wS hSw; (try dsimp only at hSw); go_simp; (try with_reducible rfl))
      try simp only [Act.put, List.getElem_toArray, List.getElem_cons_zero, List.getElem_cons_succ, List.setIfInBounds_toArray, List.set_cons_zero, List.set_cons_succ]
      refine wpAnyH_take (i := 14) (oi := _) (v := ?_) rfl (by kernel_rfl) (by kernel_rfl) (by kernel_rfl) (fun _ _ _ h => h) (Or.inl ⟨by rfl, ?_⟩) (by assumption) ?_
      rotate_left
      focus (intro wS hSw; (try dsimp only at hSw); go_simp; (try with_reducible rfl))
      try simp only [Act.put, List.getElem_toArray, List.getElem_cons_zero, List.getElem_cons_succ, List.setIfInBounds_toArray, List.set_cons_zero, List.set_cons_succ]
      refine wpAnyH_take (i := 15) (oi := _) (v := ?_) rfl (by kernel_rfl) (by kernel_rfl) (by kernel_rfl) (fun _ _ _ h => h) (Or.inl ⟨by rfl, ?_⟩) (by assumption) ?_
      rotate_left
      focus (intro wS hSw; (try dsimp only at hSw); go_simp; (try with_reducible rfl))
      try simp only [Act.put, List.getElem_toArray, List.getElem_cons_zero, List.getElem_cons_succ, List.setIfInBounds_toArray, List.set_cons_zero, List.set_cons_succ]
      refine wpAnyH_take (i := 16) (oi := _) (v := ?_) rfl (by kernel_rfl) (by kernel_rfl) (by kernel_rfl) (fun _ _ _ h => h) (Or.inl ⟨by rfl, ?_⟩) (by assumption) ?_
      rotate_left
      focus (intro wS hSw; (try dsimp only at hSw); go_simp; (try with_reducible rfl))
      try simp only [Act.put, List.getElem_toArray, List.getElem_cons_zero, List.getElem_cons_succ, List.setIfInBounds_toArray, List.set_cons_zero, List.set_cons_succ]
      refine wpAnyH_take (i := 17) (oi := _) (v := ?_) rfl (by kernel_rfl) (by kernel_rfl) (by kernel_rfl) (fun _ _ _ h => h) (Or.inl ⟨by rfl, ?_⟩) (by assumption) ?_
      rotate_left
      focus (intro wS hSw; (try dsimp only at hSw); go_simp; (try with_reducible rfl))
      try simp only [Act.put, List.getElem_toArray, List.getElem_cons_zero, List.getElem_cons_succ, List.setIfInBounds_toArray, List.set_cons_zero, List.set_cons_succ]
      refine wpAnyH_take (i := 18) (oi := _) (v := ?_) rfl (by kernel_rfl) (by kernel_rfl) (by kernel_rfl) (fun _ _ _ h => h) (Or.inl ⟨by rfl, ?_⟩) (by assumption) ?_
      rotate_left
      focus (intro wS hSw; (try dsimp only at hSw); go_simp; (try with_reducible rfl))
      try simp only [Act.put, List.getElem_toArray, List.getElem_cons_zero, List.getElem_cons_succ, List.setIfInBounds_toArray, List.set_cons_zero, List.set_cons_succ]
      refine wpAnyH_take (i := 20) (oi := _) (v := ?_) rfl (by kernel_rfl) (by kernel_rfl) (by kernel_rfl) (fun _ _ _ h => h) (Or.inl ⟨by rfl, ?_⟩) (by assumption) ?_
      rotate_left
      focus (intro wS hSw; (try dsimp only at hSw); go_simp; (try with_reducible rfl))
      try simp only [Act.put, List.getElem_toArray, List.getElem_cons_zero, List.getElem_cons_succ, List.setIfInBounds_toArray, List.set_cons_zero, List.set_cons_succ]
      refine wpAnyH_ready (rs := [19]) (by kernel_rfl) (by simp) (AllReadyH.cons (o := _) rfl (fun K hK => ?_) AllReadyH.nil)
      go_simp
      go_at_call 40
      have hlx : l176.length = nh * nw := by have := (pValid_iff.1 HVl176.out).2.1; rw [← Int.natCast_mul, Nat.mul_comm] at this; omega
      refine (turn_any nw nh 255 _ _ _ l176 _ (H264.out.slc 4 rfl) hlx (by omega) (by omega)).mono ?_
      rintro e w266 ⟨v267, tl269, rfl, htu, ho, hb⟩
      rw [show tl269 = l253 from Turned.unique hlx htu (by rw [← HNl176.out, ← HNl253.out]; exact turn_all rfl rfl HVps4.out HTUtl248.out HEV.out HMps4.out HWLwls.out HWBwls.out HWLvls.out HWBvls.out _ _)] at ho
      have H268 := hid (H264.out.grow hb ho)
      obtain ⟨v267a, v267c, rfl, _⟩ := ho.slc
      clear ho hb htu hlx
      refine hK.out _ _ ?_ (fun hHeld2 => ?_)
      focus ((try dsimp only); (exact ⟨H268.out.cell 4 rfl 0 rfl, H268.out.cell 4 rfl 1 rfl, H268.out.cell 4 rfl 2 rfl, H268.out.cell 4 rfl 3 rfl, H268.out.cell 9 rfl 0 rfl, H268.out.cell 9 rfl 1 rfl, H268.out.cell 9 rfl 2 rfl, H268.out.cell 9 rfl 3 rfl, H268.out.cell 3 rfl 0 rfl, H268.out.cell 3 rfl 1 rfl, H268.out.cell 3 rfl 2 rfl, H268.out.cell 3 rfl 3 rfl⟩))
      clear hK K
      try simp only [Act.put, List.getElem_toArray, List.getElem_cons_zero, List.getElem_cons_succ, List.setIfInBounds_toArray, List.set_cons_zero, List.set_cons_succ]
      clear hHeld
      have hHeld := hHeld2
      clear hHeld2
      refine wpAnyH_ready (rs := [21]) (by kernel_rfl) (by simp) (AllReadyH.cons (o := _) rfl (fun K hK => ?_) AllReadyH.nil)
      go_simp
      go_at_call 31
      refine (qequal_any _ _ _ _ _ _ l253 _ _ _ _ _ _ l253 _ (H268.out.slc 0 rfl) (H268.out.slc 1 rfl)).mono ?_
      rintro e w270 ⟨rfl, hb⟩
      have H271 := hid (H268.out.call hb)
      clear hb
      rw [show pEq nh nw 255 l253 nh nw 255 l253 = true from by simp [pEq]]
      refine hK.out _ _ ?_ (fun hHeld2 => ?_)
      focus ((try dsimp only); (exact ⟨H271.out.cell 4 rfl 0 rfl, H271.out.cell 4 rfl 1 rfl, H271.out.cell 4 rfl 2 rfl, H271.out.cell 4 rfl 3 rfl, H271.out.cell 9 rfl 0 rfl, H271.out.cell 9 rfl 1 rfl, H271.out.cell 9 rfl 2 rfl, H271.out.cell 9 rfl 3 rfl, H271.out.cell 3 rfl 0 rfl, H271.out.cell 3 rfl 1 rfl, H271.out.cell 3 rfl 2 rfl, H271.out.cell 3 rfl 3 rfl⟩))
      clear hK K
      try simp only [Act.put, List.getElem_toArray, List.getElem_cons_zero, List.getElem_cons_succ, List.setIfInBounds_toArray, List.set_cons_zero, List.set_cons_succ]
      clear hHeld
      have hHeld := hHeld2
      clear hHeld2
      refine wpAnyH_take (i := 22) (oi := _) (v := ?_) rfl (by kernel_rfl) (by kernel_rfl) (by kernel_rfl) (fun _ _ _ h => h) (Or.inl ⟨by rfl, ?_⟩) (by assumption) ?_
      rotate_left
      focus (intro wS hSw; (try dsimp only at hSw); go_simp; (try with_reducible rfl))
      try simp only [Act.put, List.getElem_toArray, List.getElem_cons_zero, List.getElem_cons_succ, List.setIfInBounds_toArray, List.set_cons_zero, List.set_cons_succ]
      refine wpAnyH_take (i := 23) (oi := _) (v := ?_) rfl (by kernel_rfl) (by kernel_rfl) (by kernel_rfl) (fun _ _ _ h => h) (Or.inl ⟨by rfl, ?_⟩) (by assumption) ?_
      rotate_left
      focus (intro wS hSw; (try dsimp only at hSw); go_simp; (try with_reducible rfl))
      try simp only [Act.put, List.getElem_toArray, List.getElem_cons_zero, List.getElem_cons_succ, List.setIfInBounds_toArray, List.set_cons_zero, List.set_cons_succ]
      refine wpAnyH_ready (rs := [24]) (by kernel_rfl) (by simp) (AllReadyH.cons (o := _) rfl (fun K hK => ?_) AllReadyH.nil)
      go_simp
      go_at_call 37
      refine (sane10 _).mono ?_
      rintro e w272 ⟨rfl, hb⟩
      have H273 := hid (H271.out.call hb)
      clear hb
      refine hK.out _ _ ?_ (fun hHeld2 => ?_)
      focus ((try dsimp only); (exact ⟨H273.out.cell 4 rfl 0 rfl, H273.out.cell 4 rfl 1 rfl, H273.out.cell 4 rfl 2 rfl, H273.out.cell 4 rfl 3 rfl, H273.out.cell 9 rfl 0 rfl, H273.out.cell 9 rfl 1 rfl, H273.out.cell 9 rfl 2 rfl, H273.out.cell 9 rfl 3 rfl, H273.out.cell 3 rfl 0 rfl, H273.out.cell 3 rfl 1 rfl, H273.out.cell 3 rfl 2 rfl, H273.out.cell 3 rfl 3 rfl⟩))
      clear hK K
      try simp only [Act.put, List.getElem_toArray, List.getElem_cons_zero, List.getElem_cons_succ, List.setIfInBounds_toArray, List.set_cons_zero, List.set_cons_succ]
      clear hHeld
      have hHeld := hHeld2
      clear hHeld2
      refine wpAnyH_take (i := 25) (oi := _) (v := ?_) rfl (by kernel_rfl) (by kernel_rfl) (by kernel_rfl) (fun _ _ _ h => h) (Or.inl ⟨by rfl, ?_⟩) (by assumption) ?_
      rotate_left
      focus (intro wS hSw; (try dsimp only at hSw); go_simp; (try with_reducible rfl))
      try simp only [Act.put, List.getElem_toArray, List.getElem_cons_zero, List.getElem_cons_succ, List.setIfInBounds_toArray, List.set_cons_zero, List.set_cons_succ]
      refine wpAnyH_take (i := 26) (oi := _) (v := ?_) rfl (by kernel_rfl) (by kernel_rfl) (by kernel_rfl) (fun _ _ _ h => h) (Or.inl ⟨by rfl, ?_⟩) (by assumption) ?_
      rotate_left
      focus (intro wS hSw; (try dsimp only at hSw); go_simp; (try with_reducible rfl))
      try simp only [Act.put, List.getElem_toArray, List.getElem_cons_zero, List.getElem_cons_succ, List.setIfInBounds_toArray, List.set_cons_zero, List.set_cons_succ]
      refine wpAnyH_done (by kernel_rfl) ?_ _
      try clear hHeld
      go_wp2_with fail
      go_ret
      exact ⟨rfl, by first | exact H273.out.below | exact H273.out.below'⟩
end Go.Proofs.Ytkpdahjddjdgcaa
