/-
  Contract: the tiles of convolutions, in the reference.
-/
import Derived.Test.YtkpdahjddjdgcaaCvTile
namespace Go.Proofs.Ytkpdahjddjdgcaa
open Go.RowKit
attribute [local go_sem ↓] Go.wp_at_zero Go.wp_at_succ
set_option linter.unusedVariables false
set_option linter.unusedSimpArgs false

set_option maxRecDepth 100000 in
set_option maxHeartbeats 12800000 in
theorem rctile_any (w h mx : Int) (a : Option Addr) (n c : Nat) (zs : List Int) (p f kw kh : Int) (wa : Option Addr) (wn wc : Nat) (ws : List Int) (shift out r0 r1 r2 r3 : Int) (W : World) (hs : Slc W a n c zs) (hw : Slc W wa wn wc ws) :
    Calls Try.prog 30 #[.agg #[.int .i64 w, .int .i64 h, .int .i64 mx, .slice a n c], .agg #[.int .i64 p, .int .i64 f], .int .i64 kw, .int .i64 kh, .slice wa wn wc, .int .i64 shift, .int .i64 out, .agg #[.int .i64 r0, .int .i64 r1, .int .i64 r2, .int .i64 r3]] W (TPost (cvTC w h mx zs p f kw kh ws shift out r0 r1 r2 r3) (r2 - r0) (r3 - r1) out (cvL w h zs p f kw kh ws shift out r0 r1 r2 r3) W) := by
  obtain ⟨B, hB⟩ : ∃ B, W.heap.size = B := ⟨_, rfl⟩
  have HI0 := hid (St.init hB)
  have HS := hid hs
  have HW := hid hw
  have HLW := hid hw.len
  have wnm : (wn : Int) ≤ 9223372036854775807 := by have := hw.nc; have := hw.cap; omega
  clear hs hw
  go_enter Try.func30, Try.ntmps30
  go_upto_region 1 with fail
  have H350 := hid (show St B W [.cells (B + 1 + 1 + 1) #[.int .i64 0, .int .i64 0, .int .i64 0, .slice none 0 0] 35, .cells (B + 1 + 1) #[.int .i64 r0, .int .i64 r1, .int .i64 r2, .int .i64 r3] 33, .cells (B + 1) #[.int .i64 p, .int .i64 f] 38, .cells B #[.int .i64 w, .int .i64 h, .int .i64 mx, .slice a n c] 35] [] ((((W.alloc (.cells #[.int .i64 w, .int .i64 h, .int .i64 mx, .slice a n c] 35)).alloc (.cells #[.int .i64 p, .int .i64 f] 38)).alloc (.cells #[.int .i64 r0, .int .i64 r1, .int .i64 r2, .int .i64 r3] 33)).alloc (.cells #[.int .i64 0, .int .i64 0, .int .i64 0, .slice none 0 0] 35)) from ((((HI0.out.alloc #[.int .i64 w, .int .i64 h, .int .i64 mx, .slice a n c] 35 hB).alloc #[.int .i64 p, .int .i64 f] 38 (by first | exact hB | simp [hB])).alloc #[.int .i64 r0, .int .i64 r1, .int .i64 r2, .int .i64 r3] 33 (by first | exact hB | simp [hB])).alloc #[.int .i64 0, .int .i64 0, .int .i64 0, .slice none 0 0] 35 (by first | exact hB | simp [hB])))
  first | refine gen_code H350.out ?_ | refine gen_list H350.out ?_ | refine gen_calls H350.out ?_
  intro w351 hG
  clear H350
  have H350 := hid hG
  clear hG
  have z352 := H350.out.cell 3 rfl 0 rfl
  have z353 := H350.out.cell 3 rfl 1 rfl
  have z354 := H350.out.cell 3 rfl 2 rfl
  have z355 := H350.out.cell 3 rfl 3 rfl
  go_wp2_with fail
  clear z352 z353 z354 z355
  refine (qpvalid_any _ _ _ _ _ _ _ _ (by have := HS.out.nc; have := HS.out.cap; omega) (H350.out.old HS.out).row).mono ?_
  rintro e w356 ⟨rfl, hb⟩
  have H357 := hid (H350.out.call hb)
  clear hb
  obtain ⟨b358, hb358⟩ : ∃ xx', pValid w h mx zs = xx' := ⟨_, rfl⟩
  rw [hb358]
  have HNb358 := hid hb358
  clear hb358
  cases b358 with
  | true =>
    have z359 := H357.out.cell 2 rfl 0 rfl
    have z360 := H357.out.cell 2 rfl 1 rfl
    have z361 := H357.out.cell 3 rfl 0 rfl
    have z362 := H357.out.cell 3 rfl 1 rfl
    have z363 := H357.out.cell 3 rfl 2 rfl
    have z364 := H357.out.cell 3 rfl 3 rfl
    go_wp2_with fail
    clear z359 z360 z361 z362 z363 z364
    refine (rbvalid_any _ _ _ _).mono ?_
    rintro e w365 ⟨rfl, hb⟩
    have H366 := hid (H357.out.call hb)
    clear hb
    obtain ⟨b367, hb367⟩ : ∃ xx', bValid p f mx = xx' := ⟨_, rfl⟩
    rw [hb367]
    have HNb367 := hid hb367
    clear hb367
    cases b367 with
    | true =>
      have z368 := H366.out.cell 3 rfl 0 rfl
      have z369 := H366.out.cell 3 rfl 1 rfl
      have z370 := H366.out.cell 3 rfl 2 rfl
      have z371 := H366.out.cell 3 rfl 3 rfl
      go_wp2_with fail
      clear z368 z369 z370 z371
      refine (rccheck_any _ _ _ _ _ _ _ _ _ _ (H366.out.old HW.out)).mono ?_
      rintro e w372 ⟨rfl, hb⟩
      have H373 := hid (H366.out.call hb)
      clear hb
      obtain ⟨k374, hk374⟩ : ∃ xx', cvCode mx kw kh ws shift out = xx' := ⟨_, rfl⟩
      rw [hk374]
      have HNk374 := hid hk374
      clear hk374
      by_cases c375 : (k374 : Int) = 0
      · obtain ⟨c375c, c375d⟩ : (k374 : Int) ≤ 0 ∧ (0 : Int) ≤ k374 := by omega
        have c375a : ((k374 : Int) == (0)) = true := by simpa using c375
        have c375b : ((k374 : Int) != (0)) = false := by simpa using c375
        have c375h := hid c375
        clear c375
        go_upto_region 6 with fail
        cases hfu : rFull r0 r1 r2 r3 with
        | false =>
          have HFU := hid hfu
          have HX := hid (fullInside' (b0 := 0) (b1 := 0) (b2 := w) (b3 := h) (.inl hfu))
          clear hfu
          go_upto_region 6 with fail
          have H376 := hid H373.out.drew
          refine wp_region_held_drew (S := (fun w' => w'.cell? ⟨B + 1 + 1, 0, none⟩ = some (.int .i64 r0) ∧ w'.cell? ⟨B + 1 + 1, 1, none⟩ = some (.int .i64 r1) ∧ w'.cell? ⟨B + 1 + 1, 2, none⟩ = some (.int .i64 r2) ∧ w'.cell? ⟨B + 1 + 1, 3, none⟩ = some (.int .i64 r3) ∧ w'.cell? ⟨B, 0, none⟩ = some (.int .i64 w) ∧ w'.cell? ⟨B, 1, none⟩ = some (.int .i64 h) ∧ w'.cell? ⟨B, 2, none⟩ = some (.int .i64 mx) ∧ w'.cell? ⟨B, 3, none⟩ = some (.slice a n c))) (by kernel_rfl) ⟨H376.out.cell 1 rfl 0 rfl, H376.out.cell 1 rfl 1 rfl, H376.out.cell 1 rfl 2 rfl, H376.out.cell 1 rfl 3 rfl, H376.out.cell 3 rfl 0 rfl, H376.out.cell 3 rfl 1 rfl, H376.out.cell 3 rfl 2 rfl, H376.out.cell 3 rfl 3 rfl⟩ (fun hHeld => ?_)
          generalize w372.drew = k377 at *
          refine wpAnyH_take (i := 0) (oi := _) (v := ?_) rfl (by kernel_rfl) (by kernel_rfl) (by kernel_rfl) (fun _ _ _ h => h) (Or.inl ⟨by rfl, ?_⟩) (by assumption) ?_
          rotate_left
          focus (intro wS hSw; (try dsimp only at hSw); go_simp; (try with_reducible rfl))
          try simp only [Act.put, List.getElem_toArray, List.getElem_cons_zero, List.getElem_cons_succ, List.setIfInBounds_toArray, List.set_cons_zero, List.set_cons_succ]
          refine wpAnyH_ready (rs := [1]) (by kernel_rfl) (by simp) (AllReadyH.cons (o := _) rfl (fun K hK => ?_) AllReadyH.nil)
          go_simp
          go_at_call 65
          refine (qfull_any _ _ _ _ _).mono ?_
          rintro e w378 ⟨rfl, hb⟩
          have H379 := hid (H376.out.call hb)
          clear hb
          rw [HFU.out]
          refine hK.out _ _ ?_ (fun hHeld2 => ?_)
          focus ((try dsimp only); (exact ⟨H379.out.cell 1 rfl 0 rfl, H379.out.cell 1 rfl 1 rfl, H379.out.cell 1 rfl 2 rfl, H379.out.cell 1 rfl 3 rfl, H379.out.cell 3 rfl 0 rfl, H379.out.cell 3 rfl 1 rfl, H379.out.cell 3 rfl 2 rfl, H379.out.cell 3 rfl 3 rfl⟩))
          clear hK K
          try simp only [Act.put, List.getElem_toArray, List.getElem_cons_zero, List.getElem_cons_succ, List.setIfInBounds_toArray, List.set_cons_zero, List.set_cons_succ]
          clear hHeld
          have hHeld := hHeld2
          clear hHeld2
          refine wpAnyH_take (i := 2) (oi := _) (v := ?_) rfl (by kernel_rfl) (by kernel_rfl) (by kernel_rfl) (fun _ _ _ h => h) (Or.inl ⟨by rfl, ?_⟩) (by assumption) ?_
          rotate_left
          focus (intro wS hSw; (try dsimp only at hSw); go_simp; (try with_reducible rfl))
          try simp only [Act.put, List.getElem_toArray, List.getElem_cons_zero, List.getElem_cons_succ, List.setIfInBounds_toArray, List.set_cons_zero, List.set_cons_succ]
          refine wpAnyH_take (i := 3) (oi := _) (v := ?_) rfl (by kernel_rfl) (by kernel_rfl) (by kernel_rfl) (fun _ _ _ h => h) (Or.inl ⟨by rfl, ?_⟩) (by assumption) ?_
          rotate_left
          focus (intro wS hSw; (try dsimp only at hSw); go_simp; (try with_reducible rfl))
          try simp only [Act.put, List.getElem_toArray, List.getElem_cons_zero, List.getElem_cons_succ, List.setIfInBounds_toArray, List.set_cons_zero, List.set_cons_succ]
          refine wpAnyH_take (i := 4) (oi := _) (v := _) rfl (by kernel_rfl) (by kernel_rfl) (by kernel_rfl) (fun _ _ _ h => h) (Or.inr ⟨by rfl, rfl⟩) (by assumption) ?_
          try simp only [Act.put, List.getElem_toArray, List.getElem_cons_zero, List.getElem_cons_succ, List.setIfInBounds_toArray, List.set_cons_zero, List.set_cons_succ]
          refine wpAnyH_take (i := 5) (oi := _) (v := _) rfl (by kernel_rfl) (by kernel_rfl) (by kernel_rfl) (fun _ _ _ h => h) (Or.inr ⟨by rfl, rfl⟩) (by assumption) ?_
          try simp only [Act.put, List.getElem_toArray, List.getElem_cons_zero, List.getElem_cons_succ, List.setIfInBounds_toArray, List.set_cons_zero, List.set_cons_succ]
          refine wpAnyH_take (i := 6) (oi := _) (v := _) rfl (by kernel_rfl) (by kernel_rfl) (by kernel_rfl) (fun _ _ _ h => h) (Or.inr ⟨by rfl, rfl⟩) (by assumption) ?_
          try simp only [Act.put, List.getElem_toArray, List.getElem_cons_zero, List.getElem_cons_succ, List.setIfInBounds_toArray, List.set_cons_zero, List.set_cons_succ]
          refine wpAnyH_take (i := 7) (oi := _) (v := _) rfl (by kernel_rfl) (by kernel_rfl) (by kernel_rfl) (fun _ _ _ h => h) (Or.inr ⟨by rfl, rfl⟩) (by assumption) ?_
          try simp only [Act.put, List.getElem_toArray, List.getElem_cons_zero, List.getElem_cons_succ, List.setIfInBounds_toArray, List.set_cons_zero, List.set_cons_succ]
          refine wpAnyH_take (i := 8) (oi := _) (v := _) rfl (by kernel_rfl) (by kernel_rfl) (by kernel_rfl) (fun _ _ _ h => h) (Or.inr ⟨by rfl, rfl⟩) (by assumption) ?_
          try simp only [Act.put, List.getElem_toArray, List.getElem_cons_zero, List.getElem_cons_succ, List.setIfInBounds_toArray, List.set_cons_zero, List.set_cons_succ]
          refine wpAnyH_take (i := 9) (oi := _) (v := ?_) rfl (by kernel_rfl) (by kernel_rfl) (by kernel_rfl) (fun _ _ _ h => h) (Or.inl ⟨by rfl, ?_⟩) (by assumption) ?_
          rotate_left
          focus (intro wS hSw; (try dsimp only at hSw); go_simp; (try with_reducible rfl))
          try simp only [Act.put, List.getElem_toArray, List.getElem_cons_zero, List.getElem_cons_succ, List.setIfInBounds_toArray, List.set_cons_zero, List.set_cons_succ]
          refine wpAnyH_done (by kernel_rfl) ?_ _
          try clear hHeld
          have z380 := H379.out.cell 0 rfl 0 rfl
          have z381 := H379.out.free 0 rfl 0
          have z382 := H379.out.cell 0 rfl 1 rfl
          have z383 := H379.out.free 0 rfl 1
          have z384 := H379.out.cell 0 rfl 2 rfl
          have z385 := H379.out.free 0 rfl 2
          have z386 := H379.out.cell 0 rfl 3 rfl
          have z387 := H379.out.free 0 rfl 3
          go_wp2_with fail
          clear z380 z381 z382 z383 z384 z385 z386 z387
          have H388 := hid (show St B W [.cells (B + 1 + 1 + 1) #[.int .i64 0, .int .i64 0, .int .i64 0, .slice none 0 0] 35, .cells (B + 1 + 1) #[.int .i64 r0, .int .i64 r1, .int .i64 r2, .int .i64 r3] 33, .cells (B + 1) #[.int .i64 p, .int .i64 f] 38, .cells B #[.int .i64 w, .int .i64 h, .int .i64 mx, .slice a n c] 35] [] ((((w378.setCell ⟨B + 1 + 1 + 1, 0, none⟩ (.int .i64 0)).setCell ⟨B + 1 + 1 + 1, 1, none⟩ (.int .i64 0)).setCell ⟨B + 1 + 1 + 1, 2, none⟩ (.int .i64 0)).setCell ⟨B + 1 + 1 + 1, 3, none⟩ (.slice none 0 0)) from (H379.out.set4 0 rfl (.int .i64 0) (.int .i64 0) (.int .i64 0) (.slice none 0 0)))
          have q389 := H388.out.cell 0 rfl 0 rfl
          have q390 := H388.out.cell 0 rfl 1 rfl
          have q391 := H388.out.cell 0 rfl 2 rfl
          have q392 := H388.out.cell 0 rfl 3 rfl
          refine bodyPost_ret (v := .tuple #[.agg #[.int .i64 0, .int .i64 0, .int .i64 0, .slice none 0 0], .int .i64 8]) ?_ rfl (TPost.no (by unfold cvTC; rw [if_neg (fun hc => hc ⟨HNb358.out, HNb367.out⟩), if_neg (by rw [HNk374.out]; have := c375h.out; omega), if_pos (by unfold rIs; exact HX.out)]) (by omega) (by first | exact H388.out.below | exact H388.out.below'))
          simp [results, Try.results30, go_sem, q389, q390, q391, q392]
        | true =>
          have HFU := hid hfu
          cases hin : rInside r0 r1 r2 r3 0 0 w h with
          | false =>
            have HIN0 := hid hin
            have HX := hid (fullInside' (r0 := r0) (r1 := r1) (r2 := r2) (r3 := r3) (.inr hin))
            clear hfu hin
            go_upto_region 6 with fail
            have H393 := hid H373.out.drew
            refine wp_region_held_drew (S := (fun w' => w'.cell? ⟨B + 1 + 1, 0, none⟩ = some (.int .i64 r0) ∧ w'.cell? ⟨B + 1 + 1, 1, none⟩ = some (.int .i64 r1) ∧ w'.cell? ⟨B + 1 + 1, 2, none⟩ = some (.int .i64 r2) ∧ w'.cell? ⟨B + 1 + 1, 3, none⟩ = some (.int .i64 r3) ∧ w'.cell? ⟨B, 0, none⟩ = some (.int .i64 w) ∧ w'.cell? ⟨B, 1, none⟩ = some (.int .i64 h) ∧ w'.cell? ⟨B, 2, none⟩ = some (.int .i64 mx) ∧ w'.cell? ⟨B, 3, none⟩ = some (.slice a n c))) (by kernel_rfl) ⟨H393.out.cell 1 rfl 0 rfl, H393.out.cell 1 rfl 1 rfl, H393.out.cell 1 rfl 2 rfl, H393.out.cell 1 rfl 3 rfl, H393.out.cell 3 rfl 0 rfl, H393.out.cell 3 rfl 1 rfl, H393.out.cell 3 rfl 2 rfl, H393.out.cell 3 rfl 3 rfl⟩ (fun hHeld => ?_)
            generalize w372.drew = k394 at *
            refine wpAnyH_take (i := 0) (oi := _) (v := ?_) rfl (by kernel_rfl) (by kernel_rfl) (by kernel_rfl) (fun _ _ _ h => h) (Or.inl ⟨by rfl, ?_⟩) (by assumption) ?_
            rotate_left
            focus (intro wS hSw; (try dsimp only at hSw); go_simp; (try with_reducible rfl))
            try simp only [Act.put, List.getElem_toArray, List.getElem_cons_zero, List.getElem_cons_succ, List.setIfInBounds_toArray, List.set_cons_zero, List.set_cons_succ]
            refine wpAnyH_ready (rs := [1]) (by kernel_rfl) (by simp) (AllReadyH.cons (o := _) rfl (fun K hK => ?_) AllReadyH.nil)
            go_simp
            go_at_call 65
            refine (qfull_any _ _ _ _ _).mono ?_
            rintro e w395 ⟨rfl, hb⟩
            have H396 := hid (H393.out.call hb)
            clear hb
            rw [HFU.out]
            refine hK.out _ _ ?_ (fun hHeld2 => ?_)
            focus ((try dsimp only); (exact ⟨H396.out.cell 1 rfl 0 rfl, H396.out.cell 1 rfl 1 rfl, H396.out.cell 1 rfl 2 rfl, H396.out.cell 1 rfl 3 rfl, H396.out.cell 3 rfl 0 rfl, H396.out.cell 3 rfl 1 rfl, H396.out.cell 3 rfl 2 rfl, H396.out.cell 3 rfl 3 rfl⟩))
            clear hK K
            try simp only [Act.put, List.getElem_toArray, List.getElem_cons_zero, List.getElem_cons_succ, List.setIfInBounds_toArray, List.set_cons_zero, List.set_cons_succ]
            clear hHeld
            have hHeld := hHeld2
            clear hHeld2
            refine wpAnyH_take (i := 2) (oi := _) (v := ?_) rfl (by kernel_rfl) (by kernel_rfl) (by kernel_rfl) (fun _ _ _ h => h) (Or.inl ⟨by rfl, ?_⟩) (by assumption) ?_
            rotate_left
            focus (intro wS hSw; (try dsimp only at hSw); go_simp; (try with_reducible rfl))
            try simp only [Act.put, List.getElem_toArray, List.getElem_cons_zero, List.getElem_cons_succ, List.setIfInBounds_toArray, List.set_cons_zero, List.set_cons_succ]
            refine wpAnyH_take (i := 3) (oi := _) (v := ?_) rfl (by kernel_rfl) (by kernel_rfl) (by kernel_rfl) (fun _ _ _ h => h) (Or.inl ⟨by rfl, ?_⟩) (by assumption) ?_
            rotate_left
            focus (intro wS hSw; (try dsimp only at hSw); go_simp; (try with_reducible rfl))
            try simp only [Act.put, List.getElem_toArray, List.getElem_cons_zero, List.getElem_cons_succ, List.setIfInBounds_toArray, List.set_cons_zero, List.set_cons_succ]
            refine wpAnyH_take (i := 4) (oi := _) (v := ?_) rfl (by kernel_rfl) (by kernel_rfl) (by kernel_rfl) (fun _ _ _ h => h) (Or.inl ⟨by rfl, ?_⟩) (by assumption) ?_
            rotate_left
            focus (intro wS hSw; (try dsimp only at hSw); go_simp; (try with_reducible rfl))
            try simp only [Act.put, List.getElem_toArray, List.getElem_cons_zero, List.getElem_cons_succ, List.setIfInBounds_toArray, List.set_cons_zero, List.set_cons_succ]
            refine wpAnyH_take (i := 5) (oi := _) (v := ?_) rfl (by kernel_rfl) (by kernel_rfl) (by kernel_rfl) (fun _ _ _ h => h) (Or.inl ⟨by rfl, ?_⟩) (by assumption) ?_
            rotate_left
            focus (intro wS hSw; (try dsimp only at hSw); go_simp; (try with_reducible rfl))
            try simp only [Act.put, List.getElem_toArray, List.getElem_cons_zero, List.getElem_cons_succ, List.setIfInBounds_toArray, List.set_cons_zero, List.set_cons_succ]
            refine wpAnyH_ready (rs := [6]) (by kernel_rfl) (by simp) (AllReadyH.cons (o := _) rfl (fun K hK => ?_) AllReadyH.nil)
            go_simp
            go_at_call 67
            refine (qcover_any _ _ _ _ _ _ _).mono ?_
            rintro e w397 ⟨rfl, hb⟩
            have H398 := hid (H396.out.call hb)
            clear hb
            refine hK.out _ _ ?_ (fun hHeld2 => ?_)
            focus ((try dsimp only); (exact ⟨H398.out.cell 1 rfl 0 rfl, H398.out.cell 1 rfl 1 rfl, H398.out.cell 1 rfl 2 rfl, H398.out.cell 1 rfl 3 rfl, H398.out.cell 3 rfl 0 rfl, H398.out.cell 3 rfl 1 rfl, H398.out.cell 3 rfl 2 rfl, H398.out.cell 3 rfl 3 rfl⟩))
            clear hK K
            try simp only [Act.put, List.getElem_toArray, List.getElem_cons_zero, List.getElem_cons_succ, List.setIfInBounds_toArray, List.set_cons_zero, List.set_cons_succ]
            clear hHeld
            have hHeld := hHeld2
            clear hHeld2
            refine wpAnyH_ready (rs := [7]) (by kernel_rfl) (by simp) (AllReadyH.cons (o := _) rfl (fun K hK => ?_) AllReadyH.nil)
            go_simp
            go_at_call 66
            refine (qinside_any _ _ _ _ _ _ _ _ _).mono ?_
            rintro e w399 ⟨rfl, hb⟩
            have H400 := hid (H398.out.call hb)
            clear hb
            rw [HIN0.out]
            refine hK.out _ _ ?_ (fun hHeld2 => ?_)
            focus ((try dsimp only); (exact ⟨H400.out.cell 1 rfl 0 rfl, H400.out.cell 1 rfl 1 rfl, H400.out.cell 1 rfl 2 rfl, H400.out.cell 1 rfl 3 rfl, H400.out.cell 3 rfl 0 rfl, H400.out.cell 3 rfl 1 rfl, H400.out.cell 3 rfl 2 rfl, H400.out.cell 3 rfl 3 rfl⟩))
            clear hK K
            try simp only [Act.put, List.getElem_toArray, List.getElem_cons_zero, List.getElem_cons_succ, List.setIfInBounds_toArray, List.set_cons_zero, List.set_cons_succ]
            clear hHeld
            have hHeld := hHeld2
            clear hHeld2
            refine wpAnyH_take (i := 8) (oi := _) (v := ?_) rfl (by kernel_rfl) (by kernel_rfl) (by kernel_rfl) (fun _ _ _ h => h) (Or.inl ⟨by rfl, ?_⟩) (by assumption) ?_
            rotate_left
            focus (intro wS hSw; (try dsimp only at hSw); go_simp; (try with_reducible rfl))
            try simp only [Act.put, List.getElem_toArray, List.getElem_cons_zero, List.getElem_cons_succ, List.setIfInBounds_toArray, List.set_cons_zero, List.set_cons_succ]
            refine wpAnyH_take (i := 9) (oi := _) (v := ?_) rfl (by kernel_rfl) (by kernel_rfl) (by kernel_rfl) (fun _ _ _ h => h) (Or.inl ⟨by rfl, ?_⟩) (by assumption) ?_
            rotate_left
            focus (intro wS hSw; (try dsimp only at hSw); go_simp; (try with_reducible rfl))
            try simp only [Act.put, List.getElem_toArray, List.getElem_cons_zero, List.getElem_cons_succ, List.setIfInBounds_toArray, List.set_cons_zero, List.set_cons_succ]
            refine wpAnyH_done (by kernel_rfl) ?_ _
            try clear hHeld
            have z401 := H400.out.cell 0 rfl 0 rfl
            have z402 := H400.out.free 0 rfl 0
            have z403 := H400.out.cell 0 rfl 1 rfl
            have z404 := H400.out.free 0 rfl 1
            have z405 := H400.out.cell 0 rfl 2 rfl
            have z406 := H400.out.free 0 rfl 2
            have z407 := H400.out.cell 0 rfl 3 rfl
            have z408 := H400.out.free 0 rfl 3
            go_wp2_with fail
            clear z401 z402 z403 z404 z405 z406 z407 z408
            have H409 := hid (show St B W [.cells (B + 1 + 1 + 1) #[.int .i64 0, .int .i64 0, .int .i64 0, .slice none 0 0] 35, .cells (B + 1 + 1) #[.int .i64 r0, .int .i64 r1, .int .i64 r2, .int .i64 r3] 33, .cells (B + 1) #[.int .i64 p, .int .i64 f] 38, .cells B #[.int .i64 w, .int .i64 h, .int .i64 mx, .slice a n c] 35] [] ((((w399.setCell ⟨B + 1 + 1 + 1, 0, none⟩ (.int .i64 0)).setCell ⟨B + 1 + 1 + 1, 1, none⟩ (.int .i64 0)).setCell ⟨B + 1 + 1 + 1, 2, none⟩ (.int .i64 0)).setCell ⟨B + 1 + 1 + 1, 3, none⟩ (.slice none 0 0)) from (H400.out.set4 0 rfl (.int .i64 0) (.int .i64 0) (.int .i64 0) (.slice none 0 0)))
            have q410 := H409.out.cell 0 rfl 0 rfl
            have q411 := H409.out.cell 0 rfl 1 rfl
            have q412 := H409.out.cell 0 rfl 2 rfl
            have q413 := H409.out.cell 0 rfl 3 rfl
            refine bodyPost_ret (v := .tuple #[.agg #[.int .i64 0, .int .i64 0, .int .i64 0, .slice none 0 0], .int .i64 8]) ?_ rfl (TPost.no (by unfold cvTC; rw [if_neg (fun hc => hc ⟨HNb358.out, HNb367.out⟩), if_neg (by rw [HNk374.out]; have := c375h.out; omega), if_pos (by unfold rIs; exact HX.out)]) (by omega) (by first | exact H409.out.below | exact H409.out.below'))
            simp [results, Try.results30, go_sem, q410, q411, q412, q413]
          | true =>
            have HIN0 := hid hin
            have HX := hid (show (!rEmpty r0 r1 r2 r3 && rInside r0 r1 r2 r3 0 0 w h) = true by rw [← fullInside, hfu, hin]; rfl)
            clear hfu hin
            go_upto_region 6 with fail
            have H414 := hid H373.out.drew
            refine wp_region_held_drew (S := (fun w' => w'.cell? ⟨B + 1 + 1, 0, none⟩ = some (.int .i64 r0) ∧ w'.cell? ⟨B + 1 + 1, 1, none⟩ = some (.int .i64 r1) ∧ w'.cell? ⟨B + 1 + 1, 2, none⟩ = some (.int .i64 r2) ∧ w'.cell? ⟨B + 1 + 1, 3, none⟩ = some (.int .i64 r3) ∧ w'.cell? ⟨B, 0, none⟩ = some (.int .i64 w) ∧ w'.cell? ⟨B, 1, none⟩ = some (.int .i64 h) ∧ w'.cell? ⟨B, 2, none⟩ = some (.int .i64 mx) ∧ w'.cell? ⟨B, 3, none⟩ = some (.slice a n c))) (by kernel_rfl) ⟨H414.out.cell 1 rfl 0 rfl, H414.out.cell 1 rfl 1 rfl, H414.out.cell 1 rfl 2 rfl, H414.out.cell 1 rfl 3 rfl, H414.out.cell 3 rfl 0 rfl, H414.out.cell 3 rfl 1 rfl, H414.out.cell 3 rfl 2 rfl, H414.out.cell 3 rfl 3 rfl⟩ (fun hHeld => ?_)
            generalize w372.drew = k415 at *
            refine wpAnyH_take (i := 0) (oi := _) (v := ?_) rfl (by kernel_rfl) (by kernel_rfl) (by kernel_rfl) (fun _ _ _ h => h) (Or.inl ⟨by rfl, ?_⟩) (by assumption) ?_
            rotate_left
            focus (intro wS hSw; (try dsimp only at hSw); go_simp; (try with_reducible rfl))
            try simp only [Act.put, List.getElem_toArray, List.getElem_cons_zero, List.getElem_cons_succ, List.setIfInBounds_toArray, List.set_cons_zero, List.set_cons_succ]
            refine wpAnyH_ready (rs := [1]) (by kernel_rfl) (by simp) (AllReadyH.cons (o := _) rfl (fun K hK => ?_) AllReadyH.nil)
            go_simp
            go_at_call 65
            refine (qfull_any _ _ _ _ _).mono ?_
            rintro e w416 ⟨rfl, hb⟩
            have H417 := hid (H414.out.call hb)
            clear hb
            rw [HFU.out]
            refine hK.out _ _ ?_ (fun hHeld2 => ?_)
            focus ((try dsimp only); (exact ⟨H417.out.cell 1 rfl 0 rfl, H417.out.cell 1 rfl 1 rfl, H417.out.cell 1 rfl 2 rfl, H417.out.cell 1 rfl 3 rfl, H417.out.cell 3 rfl 0 rfl, H417.out.cell 3 rfl 1 rfl, H417.out.cell 3 rfl 2 rfl, H417.out.cell 3 rfl 3 rfl⟩))
            clear hK K
            try simp only [Act.put, List.getElem_toArray, List.getElem_cons_zero, List.getElem_cons_succ, List.setIfInBounds_toArray, List.set_cons_zero, List.set_cons_succ]
            clear hHeld
            have hHeld := hHeld2
            clear hHeld2
            refine wpAnyH_take (i := 2) (oi := _) (v := ?_) rfl (by kernel_rfl) (by kernel_rfl) (by kernel_rfl) (fun _ _ _ h => h) (Or.inl ⟨by rfl, ?_⟩) (by assumption) ?_
            rotate_left
            focus (intro wS hSw; (try dsimp only at hSw); go_simp; (try with_reducible rfl))
            try simp only [Act.put, List.getElem_toArray, List.getElem_cons_zero, List.getElem_cons_succ, List.setIfInBounds_toArray, List.set_cons_zero, List.set_cons_succ]
            refine wpAnyH_take (i := 3) (oi := _) (v := ?_) rfl (by kernel_rfl) (by kernel_rfl) (by kernel_rfl) (fun _ _ _ h => h) (Or.inl ⟨by rfl, ?_⟩) (by assumption) ?_
            rotate_left
            focus (intro wS hSw; (try dsimp only at hSw); go_simp; (try with_reducible rfl))
            try simp only [Act.put, List.getElem_toArray, List.getElem_cons_zero, List.getElem_cons_succ, List.setIfInBounds_toArray, List.set_cons_zero, List.set_cons_succ]
            refine wpAnyH_take (i := 4) (oi := _) (v := ?_) rfl (by kernel_rfl) (by kernel_rfl) (by kernel_rfl) (fun _ _ _ h => h) (Or.inl ⟨by rfl, ?_⟩) (by assumption) ?_
            rotate_left
            focus (intro wS hSw; (try dsimp only at hSw); go_simp; (try with_reducible rfl))
            try simp only [Act.put, List.getElem_toArray, List.getElem_cons_zero, List.getElem_cons_succ, List.setIfInBounds_toArray, List.set_cons_zero, List.set_cons_succ]
            refine wpAnyH_take (i := 5) (oi := _) (v := ?_) rfl (by kernel_rfl) (by kernel_rfl) (by kernel_rfl) (fun _ _ _ h => h) (Or.inl ⟨by rfl, ?_⟩) (by assumption) ?_
            rotate_left
            focus (intro wS hSw; (try dsimp only at hSw); go_simp; (try with_reducible rfl))
            try simp only [Act.put, List.getElem_toArray, List.getElem_cons_zero, List.getElem_cons_succ, List.setIfInBounds_toArray, List.set_cons_zero, List.set_cons_succ]
            refine wpAnyH_ready (rs := [6]) (by kernel_rfl) (by simp) (AllReadyH.cons (o := _) rfl (fun K hK => ?_) AllReadyH.nil)
            go_simp
            go_at_call 67
            refine (qcover_any _ _ _ _ _ _ _).mono ?_
            rintro e w418 ⟨rfl, hb⟩
            have H419 := hid (H417.out.call hb)
            clear hb
            refine hK.out _ _ ?_ (fun hHeld2 => ?_)
            focus ((try dsimp only); (exact ⟨H419.out.cell 1 rfl 0 rfl, H419.out.cell 1 rfl 1 rfl, H419.out.cell 1 rfl 2 rfl, H419.out.cell 1 rfl 3 rfl, H419.out.cell 3 rfl 0 rfl, H419.out.cell 3 rfl 1 rfl, H419.out.cell 3 rfl 2 rfl, H419.out.cell 3 rfl 3 rfl⟩))
            clear hK K
            try simp only [Act.put, List.getElem_toArray, List.getElem_cons_zero, List.getElem_cons_succ, List.setIfInBounds_toArray, List.set_cons_zero, List.set_cons_succ]
            clear hHeld
            have hHeld := hHeld2
            clear hHeld2
            refine wpAnyH_ready (rs := [7]) (by kernel_rfl) (by simp) (AllReadyH.cons (o := _) rfl (fun K hK => ?_) AllReadyH.nil)
            go_simp
            go_at_call 66
            refine (qinside_any _ _ _ _ _ _ _ _ _).mono ?_
            rintro e w420 ⟨rfl, hb⟩
            have H421 := hid (H419.out.call hb)
            clear hb
            rw [HIN0.out]
            refine hK.out _ _ ?_ (fun hHeld2 => ?_)
            focus ((try dsimp only); (exact ⟨H421.out.cell 1 rfl 0 rfl, H421.out.cell 1 rfl 1 rfl, H421.out.cell 1 rfl 2 rfl, H421.out.cell 1 rfl 3 rfl, H421.out.cell 3 rfl 0 rfl, H421.out.cell 3 rfl 1 rfl, H421.out.cell 3 rfl 2 rfl, H421.out.cell 3 rfl 3 rfl⟩))
            clear hK K
            try simp only [Act.put, List.getElem_toArray, List.getElem_cons_zero, List.getElem_cons_succ, List.setIfInBounds_toArray, List.set_cons_zero, List.set_cons_succ]
            clear hHeld
            have hHeld := hHeld2
            clear hHeld2
            refine wpAnyH_take (i := 8) (oi := _) (v := ?_) rfl (by kernel_rfl) (by kernel_rfl) (by kernel_rfl) (fun _ _ _ h => h) (Or.inl ⟨by rfl, ?_⟩) (by assumption) ?_
            rotate_left
            focus (intro wS hSw; (try dsimp only at hSw); go_simp; (try with_reducible rfl))
            try simp only [Act.put, List.getElem_toArray, List.getElem_cons_zero, List.getElem_cons_succ, List.setIfInBounds_toArray, List.set_cons_zero, List.set_cons_succ]
            refine wpAnyH_take (i := 9) (oi := _) (v := ?_) rfl (by kernel_rfl) (by kernel_rfl) (by kernel_rfl) (fun _ _ _ h => h) (Or.inl ⟨by rfl, ?_⟩) (by assumption) ?_
            rotate_left
            focus (intro wS hSw; (try dsimp only at hSw); go_simp; (try with_reducible rfl))
            try simp only [Act.put, List.getElem_toArray, List.getElem_cons_zero, List.getElem_cons_succ, List.setIfInBounds_toArray, List.set_cons_zero, List.set_cons_succ]
            refine wpAnyH_done (by kernel_rfl) ?_ _
            try clear hHeld
            have HCK := hid (show cvCode mx kw kh ws shift out = 0 from by rw [HNk374.out]; omega)
            have HV := hid HNb358.out
            have HB := hid HNb367.out
            obtain ⟨p1, p2, p3, p4, p5, p6, p7⟩ := pOk_iff.1 (pValid_iff.1 HNb358.out).1
            have HIN := hid (show rIs r0 r1 r2 r3 w h = true from by unfold rIs; exact HX.out)
            obtain ⟨i1, i2, i3, i4, i5, i6⟩ := (rIs_iff p1 p2 p3 p4).1 HIN.out
            have HTC := hid (show cvTC w h mx zs p f kw kh ws shift out r0 r1 r2 r3 = 0 from by unfold cvTC; rw [if_neg (fun hc => hc ⟨HV.out, HB.out⟩), if_neg (by rw [HCK.out]; simp), if_neg (by rw [HIN.out]; simp)])
            obtain ⟨k1, k2, k3, k4, k5, k6, k7, k8, sh1, sh2, o1, o2, _⟩ := cv_len HCK.out
            have HWA := hid k8
            clear k8
            obtain ⟨KW, hKW⟩ : ∃ m : Nat, kw = m := ⟨kw.toNat, by omega⟩
            obtain ⟨KH, hKH⟩ : ∃ m : Nat, kh = m := ⟨kh.toNat, by omega⟩
            subst hKW
            subst hKH
            have HKL := hid (show ws.length = KH * KW from by have := k5; rw [← Int.natCast_mul, Nat.mul_comm] at this; omega)
            clear k5
            obtain ⟨kw2, hkw2⟩ : ∃ q, Int.tdiv (KW : Int) 2 = q := ⟨_, rfl⟩
            obtain ⟨kh2, hkh2⟩ : ∃ q, Int.tdiv (KH : Int) 2 = q := ⟨_, rfl⟩
            have HKW2 := hid (show (KW : Int) / 2 = kw2 from by rw [← hkw2, Int.tdiv_eq_ediv_of_nonneg (by omega)])
            have HKH2 := hid (show (KH : Int) / 2 = kh2 from by rw [← hkh2, Int.tdiv_eq_ediv_of_nonneg (by omega)])
            obtain ⟨kb1, kb2, kb3, kb4⟩ : 0 ≤ kw2 ∧ kw2 ≤ 4 ∧ 0 ≤ kh2 ∧ kh2 ≤ 4 := by have h1 := HKW2.out; have h2 := HKH2.out; omega
            obtain ⟨wd, hwd⟩ : ∃ m : Nat, r2 - r0 = m := ⟨(r2 - r0).toNat, by omega⟩
            obtain ⟨ht, hht⟩ : ∃ m : Nat, r3 - r1 = m := ⟨(r3 - r1).toNat, by omega⟩
            have HWD := hid hwd
            have HHT := hid hht
            obtain ⟨wd1, wd2, ht1, ht2⟩ : (wd : Int) ≤ r2 - r0 ∧ r2 - r0 ≤ wd ∧ (ht : Int) ≤ r3 - r1 ∧ r3 - r1 ≤ ht := by omega
            have pq0 := Int.mul_nonneg (a := r2 - r0) (b := r3 - r1) (by omega) (by omega)
            have pq1 := Int.mul_le_mul (a := r2 - r0) (c := w) (b := r3 - r1) (d := h) (by omega) (by omega) (by omega) (by omega)
            obtain ⟨NN, hNN⟩ : ∃ N : Nat, (r2 - r0) * (r3 - r1) = N := ⟨((r2 - r0) * (r3 - r1)).toNat, by omega⟩
            rw [hNN] at pq0 pq1
            have HNN := hid (show ht * wd = NN from by have := hNN; rw [hwd, hht, ← Int.natCast_mul, Nat.mul_comm] at this; omega)
            clear hwd hht
            obtain ⟨F, hF⟩ : ∃ F : Nat → Nat → Int, (fun (k j : Nat) => cvP w h zs p f KW KH ws shift out (r0 + (j : Int)) (r1 + (k : Int))) = F := ⟨_, rfl⟩
            have HFV := hid (show ∀ k j : Nat, cvP w h zs p f KW KH ws shift out (r0 + (j : Int)) (r1 + (k : Int)) = F k j from fun k j => by rw [← hF])
            have HFF := hid hF
            clear hF
            have hnn2 : IntKind.i64.wrap (NN : Int) = NN := IntWalk.i64_in _ (by omega)
            have hNP : pOk (r2 - r0) (r3 - r1) out = true := pOk_iff.2 ⟨by omega, by omega, by omega, by omega, by rw [hNN]; omega, o1, o2⟩
            have HNP := hid hNP
            have HNI := hid (show ∀ x, nIf (r2 - r0) (r3 - r1) out x = x from fun x => by unfold nIf; rw [if_pos hNP])
            have HNL := hid (show nList (r2 - r0) (r3 - r1) out = List.replicate NN 0 from by unfold nList; rw [if_pos hNP, hNN]; rfl)
            clear hNP hNN hnn2
            have z422 := H421.out.cell 1 rfl 0 rfl
            have z423 := H421.out.cell 1 rfl 1 rfl
            have z424 := H421.out.cell 1 rfl 2 rfl
            have z425 := H421.out.cell 1 rfl 3 rfl
            go_wp2_with fail
            clear z422 z423 z424 z425
            refine (qnew_any _ _ _ _).mono ?_
            rintro e w426 ⟨v427, rfl, ho, hb⟩
            have H428 := hid (H421.out.grow hb ho)
            obtain ⟨v427a, v427c, rfl, _⟩ := ho.slc
            clear ho hb
            have hnl := HNL.out
            rw [hnl] at H428 ⊢
            simp only [List.length_replicate] at H428 ⊢
            rw [HNI.out, HNI.out, HNI.out, HNP.out]
            clear hnl
            obtain ⟨g0, g1, hg0⟩ := (H428.out.own 0 rfl).pos (by rw [List.length_replicate]; have h1 := HNN.out; have h2 := Nat.mul_le_mul (show 1 ≤ ht by omega) (show 1 ≤ wd by omega); omega)
            simp only [List.length_replicate] at hg0
            injection hg0 with e1 e2 e3
            subst e1
            clear e2 e3
            obtain ⟨D429, hD429⟩ : ∃ D, w426.heap.size = D := ⟨_, rfl⟩
            go_upto_region 9 with fail
            have H430 := hid (show St B W [.cells D429 #[.int .i64 (r2 - r0), .int .i64 (r3 - r1), .int .i64 out, .slice (some ⟨g0, 0, none⟩) NN v427c] 35, .own (.slice (some ⟨g0, 0, none⟩) NN v427c) (List.replicate NN 0), .cells (B + 1 + 1 + 1) #[.int .i64 0, .int .i64 0, .int .i64 0, .slice none 0 0] 35, .cells (B + 1 + 1) #[.int .i64 r0, .int .i64 r1, .int .i64 r2, .int .i64 r3] 33, .cells (B + 1) #[.int .i64 p, .int .i64 f] 38, .cells B #[.int .i64 w, .int .i64 h, .int .i64 mx, .slice a n c] 35] [] (w426.alloc (.cells #[.int .i64 (r2 - r0), .int .i64 (r3 - r1), .int .i64 out, .slice (some ⟨g0, 0, none⟩) NN v427c] 35)) from (H428.out.alloc #[.int .i64 (r2 - r0), .int .i64 (r3 - r1), .int .i64 out, .slice (some ⟨g0, 0, none⟩) NN v427c] 35 hD429))
            first | refine gen_code H430.out ?_ | refine gen_list H430.out ?_ | refine gen_calls H430.out ?_
            intro w431 hG
            clear H430
            have H430 := hid hG
            clear hG
            clear hD429
            have z432 := H430.out.cell 3 rfl 0 rfl
            have z433 := H430.out.cell 3 rfl 1 rfl
            have z434 := H430.out.cell 3 rfl 2 rfl
            have z435 := H430.out.cell 3 rfl 3 rfl
            go_wp2_with fail
            clear z432 z433 z434 z435
            obtain ⟨wb, wo, hwa⟩ := row_at HW.out.row (by have := HLW.out; omega)
            subst hwa
            go_loopw [21] (fun i wr => ∃ (y : Int) (k : Nat), k ≤ ht ∧ y ≤ r1 + k ∧ r1 + k ≤ y ∧ i = .int .i64 y ∧ St B W [.own (.slice (some ⟨g0, 0, none⟩) NN v427c) (fillL F wd k 0 NN), .cells D429 #[.int .i64 (r2 - r0), .int .i64 (r3 - r1), .int .i64 out, .slice (some ⟨g0, 0, none⟩) NN v427c] 35, .cells (B + 1 + 1 + 1) #[.int .i64 0, .int .i64 0, .int .i64 0, .slice none 0 0] 35, .cells (B + 1 + 1) #[.int .i64 r0, .int .i64 r1, .int .i64 r2, .int .i64 r3] 33, .cells (B + 1) #[.int .i64 p, .int .i64 f] 38, .cells B #[.int .i64 w, .int .i64 h, .int .i64 mx, .slice a n c] 35] [] wr) (fun i _ => (r3 - intOf i).toNat)
            case atStart => exact ⟨r1, 0, by omega, by omega, by omega, rfl, by rw [fillL_zero]; exact H430.out.pick [1, 0, 2, 3, 4, 5] rfl (by decide)⟩
            case round =>
              obtain ⟨y, k, hk, hy1, hy2, rfl, hst⟩ := hrel
              obtain ⟨u436, rfl⟩ : ∃ u436 : World, u436 = wr := ⟨_, rfl⟩
              have H437 := hid hst
              clear hst
              by_cases hkn : k < ht
              · skip
                have hkn' : (y : Int) < r3 := by omega
                have z438 := H437.out.cell 3 rfl 0 rfl
                have z439 := H437.out.cell 3 rfl 1 rfl
                have z440 := H437.out.cell 3 rfl 2 rfl
                have z441 := H437.out.cell 3 rfl 3 rfl
                go_wp2_with fail
                clear z438 z439 z440 z441
                go_loopw [22] (fun i wr => ∃ (x : Int) (j : Nat), j ≤ wd ∧ x ≤ r0 + j ∧ r0 + j ≤ x ∧ i = .int .i64 x ∧ St B W [.own (.slice (some ⟨g0, 0, none⟩) NN v427c) (fillL F wd k j NN), .cells D429 #[.int .i64 (r2 - r0), .int .i64 (r3 - r1), .int .i64 out, .slice (some ⟨g0, 0, none⟩) NN v427c] 35, .cells (B + 1 + 1 + 1) #[.int .i64 0, .int .i64 0, .int .i64 0, .slice none 0 0] 35, .cells (B + 1 + 1) #[.int .i64 r0, .int .i64 r1, .int .i64 r2, .int .i64 r3] 33, .cells (B + 1) #[.int .i64 p, .int .i64 f] 38, .cells B #[.int .i64 w, .int .i64 h, .int .i64 mx, .slice a n c] 35] [] wr) (fun i _ => (r2 - intOf i).toNat)
                case atStart => exact ⟨r0, 0, by omega, by omega, by omega, rfl, H437.out⟩
                case round =>
                  obtain ⟨x, j, hj, hx1, hx2, rfl, hst⟩ := hrel
                  obtain ⟨u442, rfl⟩ : ∃ u442 : World, u442 = wr := ⟨_, rfl⟩
                  have H443 := hid hst
                  clear hst
                  by_cases hjn : j < wd
                  · skip
                    have hjn' : (x : Int) < r2 := by omega
                    have z444 := H443.out.cell 3 rfl 0 rfl
                    have z445 := H443.out.cell 3 rfl 1 rfl
                    have z446 := H443.out.cell 3 rfl 2 rfl
                    have z447 := H443.out.cell 3 rfl 3 rfl
                    go_wp2_with fail
                    clear z444 z445 z446 z447
                    go_loopw [24, 23] (fun i s wr => ∃ m : Nat, m ≤ wn ∧ i = .int .i64 m ∧ s = .int .i64 (cvS w h zs p f KW KH ws x y m) ∧ St B W [.own (.slice (some ⟨g0, 0, none⟩) NN v427c) (fillL F wd k j NN), .cells D429 #[.int .i64 (r2 - r0), .int .i64 (r3 - r1), .int .i64 out, .slice (some ⟨g0, 0, none⟩) NN v427c] 35, .cells (B + 1 + 1 + 1) #[.int .i64 0, .int .i64 0, .int .i64 0, .slice none 0 0] 35, .cells (B + 1 + 1) #[.int .i64 r0, .int .i64 r1, .int .i64 r2, .int .i64 r3] 33, .cells (B + 1) #[.int .i64 p, .int .i64 f] 38, .cells B #[.int .i64 w, .int .i64 h, .int .i64 mx, .slice a n c] 35] [] wr) (fun i _ _ => wn - (intOf i).toNat)
                    case atStart => exact ⟨0, by omega, rfl, rfl, H443.out⟩
                    case round =>
                      obtain ⟨m, hm, rfl, rfl, hst⟩ := hrel
                      obtain ⟨u448, rfl⟩ : ∃ u448 : World, u448 = wr := ⟨_, rfl⟩
                      have H449 := hid hst
                      clear hst
                      have hwn81 : wn ≤ 81 := by have := HLW.out; omega
                      obtain ⟨S2a, S2b⟩ := cvS_bd HV.out HB.out HWA.out KW KH x y (n := m) (by have := HLW.out; omega) k6
                      obtain ⟨S2, hS2⟩ : ∃ xx', cvS w h zs p f KW KH ws x y (m) = xx' := ⟨_, rfl⟩
                      rw [hS2] at S2a S2b ⊢
                      have HS2 := hid hS2
                      clear hS2
                      by_cases hmn : m < wn
                      · skip
                        have hmn' : (m : Int) < wn := by omega
                        go_upto_region 19 with fail
                        obtain ⟨wz, hwz⟩ : ∃ xx', ws.getD m 0 = xx' := ⟨_, rfl⟩
                        have hzw := hid (show -32767 ≤ wz ∧ wz ≤ 32767 from by rw [← hwz]; exact wAll_iff.1 HWA.out _ (by have := HLW.out; omega))
                        have HWZ := hid hwz
                        clear hwz
                        obtain ⟨mr, hmr⟩ : ∃ xx' : Nat, m % KW = xx' := ⟨_, rfl⟩
                        obtain ⟨mq, hmq⟩ : ∃ xx' : Nat, m / KW = xx' := ⟨_, rfl⟩
                        have hmt : mq * KW + mr = m := by rw [← hmr, ← hmq, Nat.mul_comm]; exact Nat.div_add_mod m KW
                        have mr1 : mr < KW := by rw [← hmr]; exact Nat.mod_lt _ (by omega)
                        have mq1 : mq ≤ m := by rw [← hmq]; exact Nat.div_le_self _ _
                        have tr : Int.tmod (m : Int) (KW : Int) = mr := by rw [← hmr, Int.tmod_eq_emod_of_nonneg (by omega)]; simp
                        have tq : Int.tdiv (m : Int) (KW : Int) = mq := by rw [← hmq, Int.tdiv_eq_ediv_of_nonneg (by omega)]; simp
                        have HMT := hid hmt
                        clear hmr hmq hmt
                        have kn0 : ¬ ((KW : Int) = 0) := by omega
                        have kn1 : ¬ (KW = 0) := by omega
                        have wr1 : IntKind.i64.wrap (mr : Int) = mr := IntWalk.i64_in _ (by omega)
                        have wr2 : IntKind.i64.wrap (mq : Int) = mq := IntWalk.i64_in _ (by omega)
                        have wa1 : IntKind.i64.wrap kw2 = kw2 := IntWalk.i64_in _ (by omega)
                        have wa2 : IntKind.i64.wrap kh2 = kh2 := IntWalk.i64_in _ (by omega)
                        have wa3 : IntKind.i64.wrap (x + (mr : Int)) = x + (mr : Int) := IntWalk.i64_in _ (by omega)
                        have wa4 : IntKind.i64.wrap (x + (mr : Int) - kw2) = x + (mr : Int) - kw2 := IntWalk.i64_in _ (by omega)
                        have wa5 : IntKind.i64.wrap (y + (mq : Int)) = y + (mq : Int) := IntWalk.i64_in _ (by omega)
                        have wa6 : IntKind.i64.wrap (y + (mq : Int) - kh2) = y + (mq : Int) - kh2 := IntWalk.i64_in _ (by omega)
                        have H450 := hid H449.out.drew
                        refine wp_region_held_drew (S := (fun w' => w'.cell? ⟨B, 0, none⟩ = some (.int .i64 w) ∧ w'.cell? ⟨B, 1, none⟩ = some (.int .i64 h) ∧ w'.cell? ⟨B, 2, none⟩ = some (.int .i64 mx) ∧ w'.cell? ⟨B, 3, none⟩ = some (.slice a n c) ∧ w'.cell? ⟨B + 1, 0, none⟩ = some (.int .i64 p) ∧ w'.cell? ⟨B + 1, 1, none⟩ = some (.int .i64 f) ∧ w'.cell? ⟨wb, wo + m, none⟩ = some (.int .i64 wz))) (by kernel_rfl) ⟨H450.out.cell 5 rfl 0 rfl, H450.out.cell 5 rfl 1 rfl, H450.out.cell 5 rfl 2 rfl, H450.out.cell 5 rfl 3 rfl, H450.out.cell 4 rfl 0 rfl, H450.out.cell 4 rfl 1 rfl, (by have := row_cell (H450.out.old HW.out).row (j := m) hmn; rw [HWZ.out] at this; exact this)⟩ (fun hHeld => ?_)
                        generalize u448.drew = k451 at *
                        refine wpAnyH_take (i := 0) (oi := _) (v := ?_) rfl (by kernel_rfl) (by kernel_rfl) (by kernel_rfl) (fun _ _ _ h => h) (Or.inl ⟨by rfl, ?_⟩) (by assumption) ?_
                        rotate_left
                        focus (intro wS hSw; (try dsimp only at hSw); go_simp; (try with_reducible rfl))
                        try simp only [Act.put, List.getElem_toArray, List.getElem_cons_zero, List.getElem_cons_succ, List.setIfInBounds_toArray, List.set_cons_zero, List.set_cons_succ]
                        refine wpAnyH_take (i := 1) (oi := _) (v := ?_) rfl (by kernel_rfl) (by kernel_rfl) (by kernel_rfl) (fun _ _ _ h => h) (Or.inl ⟨by rfl, ?_⟩) (by assumption) ?_
                        rotate_left
                        focus (intro wS hSw; (try dsimp only at hSw); go_simp; (try with_reducible rfl))
                        try simp only [Act.put, List.getElem_toArray, List.getElem_cons_zero, List.getElem_cons_succ, List.setIfInBounds_toArray, List.set_cons_zero, List.set_cons_succ]
                        refine wpAnyH_take (i := 2) (oi := _) (v := ?_) rfl (by kernel_rfl) (by kernel_rfl) (by kernel_rfl) (fun _ _ _ h => h) (Or.inl ⟨by rfl, ?_⟩) (by assumption) ?_
                        rotate_left
                        focus (intro wS hSw; (try dsimp only at hSw); go_simp; (try with_reducible rfl))
                        try simp only [Act.put, List.getElem_toArray, List.getElem_cons_zero, List.getElem_cons_succ, List.setIfInBounds_toArray, List.set_cons_zero, List.set_cons_succ]
                        refine wpAnyH_take (i := 3) (oi := _) (v := ?_) rfl (by kernel_rfl) (by kernel_rfl) (by kernel_rfl) (fun _ _ _ h => h) (Or.inl ⟨by rfl, ?_⟩) (by assumption) ?_
                        rotate_left
                        focus (intro wS hSw; (try dsimp only at hSw); go_simp; (try with_reducible rfl))
                        try simp only [Act.put, List.getElem_toArray, List.getElem_cons_zero, List.getElem_cons_succ, List.setIfInBounds_toArray, List.set_cons_zero, List.set_cons_succ]
                        refine wpAnyH_take (i := 4) (oi := _) (v := ?_) rfl (by kernel_rfl) (by kernel_rfl) (by kernel_rfl) (fun _ _ _ h => h) (Or.inl ⟨by rfl, ?_⟩) (by assumption) ?_
                        rotate_left
                        focus (intro wS hSw; (try dsimp only at hSw); go_simp; (try with_reducible rfl))
                        try simp only [Act.put, List.getElem_toArray, List.getElem_cons_zero, List.getElem_cons_succ, List.setIfInBounds_toArray, List.set_cons_zero, List.set_cons_succ]
                        refine wpAnyH_take (i := 5) (oi := _) (v := ?_) rfl (by kernel_rfl) (by kernel_rfl) (by kernel_rfl) (fun _ _ _ h => h) (Or.inl ⟨by rfl, ?_⟩) (by assumption) ?_
                        rotate_left
                        focus (intro wS hSw; (try dsimp only at hSw); go_simp; (try with_reducible rfl))
                        try simp only [Act.put, List.getElem_toArray, List.getElem_cons_zero, List.getElem_cons_succ, List.setIfInBounds_toArray, List.set_cons_zero, List.set_cons_succ]
                        refine wpAnyH_take (i := 6) (oi := _) (v := ?_) rfl (by kernel_rfl) (by kernel_rfl) (by kernel_rfl) (fun _ _ _ h => h) (Or.inl ⟨by rfl, ?_⟩) (by assumption) ?_
                        rotate_left
                        focus (intro wS hSw; (try dsimp only at hSw); go_simp; (try with_reducible rfl))
                        try simp only [Act.put, List.getElem_toArray, List.getElem_cons_zero, List.getElem_cons_succ, List.setIfInBounds_toArray, List.set_cons_zero, List.set_cons_succ]
                        refine wpAnyH_take (i := 7) (oi := _) (v := ?_) rfl (by kernel_rfl) (by kernel_rfl) (by kernel_rfl) (fun _ _ _ h => h) (Or.inl ⟨by rfl, ?_⟩) (by assumption) ?_
                        rotate_left
                        focus (intro wS hSw; (try dsimp only at hSw); go_simp; (try with_reducible rfl))
                        try simp only [Act.put, List.getElem_toArray, List.getElem_cons_zero, List.getElem_cons_succ, List.setIfInBounds_toArray, List.set_cons_zero, List.set_cons_succ]
                        refine wpAnyH_take (i := 8) (oi := _) (v := ?_) rfl (by kernel_rfl) (by kernel_rfl) (by kernel_rfl) (fun _ _ _ h => h) (Or.inl ⟨by rfl, ?_⟩) (by assumption) ?_
                        rotate_left
                        focus (intro wS hSw; (try dsimp only at hSw); go_simp; (try with_reducible rfl))
                        try simp only [Act.put, List.getElem_toArray, List.getElem_cons_zero, List.getElem_cons_succ, List.setIfInBounds_toArray, List.set_cons_zero, List.set_cons_succ]
                        refine wpAnyH_take (i := 9) (oi := _) (v := ?_) rfl (by kernel_rfl) (by kernel_rfl) (by kernel_rfl) (fun _ _ _ h => h) (Or.inl ⟨by rfl, ?_⟩) (by assumption) ?_
                        rotate_left
                        focus (intro wS hSw; (try dsimp only at hSw); go_simp; (try with_reducible rfl))
                        try simp only [Act.put, List.getElem_toArray, List.getElem_cons_zero, List.getElem_cons_succ, List.setIfInBounds_toArray, List.set_cons_zero, List.set_cons_succ]
                        refine wpAnyH_take (i := 10) (oi := _) (v := ?_) rfl (by kernel_rfl) (by kernel_rfl) (by kernel_rfl) (fun _ _ _ h => h) (Or.inl ⟨by rfl, ?_⟩) (by assumption) ?_
                        rotate_left
                        focus (intro wS hSw; (try dsimp only at hSw); go_simp; (try with_reducible rfl))
                        try simp only [Act.put, List.getElem_toArray, List.getElem_cons_zero, List.getElem_cons_succ, List.setIfInBounds_toArray, List.set_cons_zero, List.set_cons_succ]
                        refine wpAnyH_take (i := 11) (oi := _) (v := ?_) rfl (by kernel_rfl) (by kernel_rfl) (by kernel_rfl) (fun _ _ _ h => h) (Or.inl ⟨by rfl, ?_⟩) (by assumption) ?_
                        rotate_left
                        focus (intro wS hSw; (try dsimp only at hSw); go_simp; (try with_reducible rfl))
                        try simp only [Act.put, List.getElem_toArray, List.getElem_cons_zero, List.getElem_cons_succ, List.setIfInBounds_toArray, List.set_cons_zero, List.set_cons_succ]
                        refine wpAnyH_take (i := 12) (oi := _) (v := ?_) rfl (by kernel_rfl) (by kernel_rfl) (by kernel_rfl) (fun _ _ _ h => h) (Or.inl ⟨by rfl, ?_⟩) (by assumption) ?_
                        rotate_left
                        focus (intro wS hSw; (try dsimp only at hSw); go_simp; (try with_reducible rfl))
                        try simp only [Act.put, List.getElem_toArray, List.getElem_cons_zero, List.getElem_cons_succ, List.setIfInBounds_toArray, List.set_cons_zero, List.set_cons_succ]
                        refine wpAnyH_take (i := 13) (oi := _) (v := ?_) rfl (by kernel_rfl) (by kernel_rfl) (by kernel_rfl) (fun _ _ _ h => h) (Or.inl ⟨by rfl, ?_⟩) (by assumption) ?_
                        rotate_left
                        focus (intro wS hSw; (try dsimp only at hSw); go_simp; (try with_reducible rfl))
                        try simp only [Act.put, List.getElem_toArray, List.getElem_cons_zero, List.getElem_cons_succ, List.setIfInBounds_toArray, List.set_cons_zero, List.set_cons_succ]
                        refine wpAnyH_take (i := 14) (oi := _) (v := ?_) rfl (by kernel_rfl) (by kernel_rfl) (by kernel_rfl) (fun _ _ _ h => h) (Or.inl ⟨by rfl, ?_⟩) (by assumption) ?_
                        rotate_left
                        focus (intro wS hSw; (try dsimp only at hSw); go_simp; (try with_reducible rfl))
                        try simp only [Act.put, List.getElem_toArray, List.getElem_cons_zero, List.getElem_cons_succ, List.setIfInBounds_toArray, List.set_cons_zero, List.set_cons_succ]
                        refine wpAnyH_take (i := 15) (oi := _) (v := ?_) rfl (by kernel_rfl) (by kernel_rfl) (by kernel_rfl) (fun _ _ _ h => h) (Or.inl ⟨by rfl, ?_⟩) (by assumption) ?_
                        rotate_left
                        focus (intro wS hSw; (try dsimp only at hSw); go_simp; (try with_reducible rfl))
                        try simp only [Act.put, List.getElem_toArray, List.getElem_cons_zero, List.getElem_cons_succ, List.setIfInBounds_toArray, List.set_cons_zero, List.set_cons_succ]
                        refine wpAnyH_take (i := 16) (oi := _) (v := ?_) rfl (by kernel_rfl) (by kernel_rfl) (by kernel_rfl) (fun _ _ _ h => h) (Or.inl ⟨by rfl, ?_⟩) (by assumption) ?_
                        rotate_left
                        focus (intro wS hSw; (try dsimp only at hSw); go_simp; (try with_reducible rfl))
                        try simp only [Act.put, List.getElem_toArray, List.getElem_cons_zero, List.getElem_cons_succ, List.setIfInBounds_toArray, List.set_cons_zero, List.set_cons_succ]
                        refine wpAnyH_take (i := 17) (oi := _) (v := ?_) rfl (by kernel_rfl) (by kernel_rfl) (by kernel_rfl) (fun _ _ _ h => h) (Or.inl ⟨by rfl, ?_⟩) (by assumption) ?_
                        rotate_left
                        focus (intro wS hSw; (try dsimp only at hSw); go_simp; (try with_reducible rfl))
                        try simp only [Act.put, List.getElem_toArray, List.getElem_cons_zero, List.getElem_cons_succ, List.setIfInBounds_toArray, List.set_cons_zero, List.set_cons_succ]
                        refine wpAnyH_take (i := 18) (oi := _) (v := ?_) rfl (by kernel_rfl) (by kernel_rfl) (by kernel_rfl) (fun _ _ _ h => h) (Or.inl ⟨by rfl, ?_⟩) (by assumption) ?_
                        rotate_left
                        focus (intro wS hSw; (try dsimp only at hSw); go_simp; (try with_reducible rfl))
                        try simp only [Act.put, List.getElem_toArray, List.getElem_cons_zero, List.getElem_cons_succ, List.setIfInBounds_toArray, List.set_cons_zero, List.set_cons_succ]
                        refine wpAnyH_take (i := 19) (oi := _) (v := ?_) rfl (by kernel_rfl) (by kernel_rfl) (by kernel_rfl) (fun _ _ _ h => h) (Or.inl ⟨by rfl, ?_⟩) (by assumption) ?_
                        rotate_left
                        focus (intro wS hSw; (try dsimp only at hSw); go_simp; (try with_reducible rfl))
                        try simp only [Act.put, List.getElem_toArray, List.getElem_cons_zero, List.getElem_cons_succ, List.setIfInBounds_toArray, List.set_cons_zero, List.set_cons_succ]
                        refine wpAnyH_take (i := 20) (oi := _) (v := ?_) rfl (by kernel_rfl) (by kernel_rfl) (by kernel_rfl) (fun _ _ _ h => h) (Or.inl ⟨by rfl, ?_⟩) (by assumption) ?_
                        rotate_left
                        focus (intro wS hSw; (try dsimp only at hSw); go_simp; (try with_reducible rfl))
                        try simp only [Act.put, List.getElem_toArray, List.getElem_cons_zero, List.getElem_cons_succ, List.setIfInBounds_toArray, List.set_cons_zero, List.set_cons_succ]
                        refine wpAnyH_take (i := 21) (oi := _) (v := ?_) rfl (by kernel_rfl) (by kernel_rfl) (by kernel_rfl) (fun _ _ _ h => h) (Or.inl ⟨by rfl, ?_⟩) (by assumption) ?_
                        rotate_left
                        focus (intro wS hSw; (try dsimp only at hSw); go_simp; (try with_reducible rfl))
                        try simp only [Act.put, List.getElem_toArray, List.getElem_cons_zero, List.getElem_cons_succ, List.setIfInBounds_toArray, List.set_cons_zero, List.set_cons_succ]
                        refine wpAnyH_take (i := 22) (oi := _) (v := ?_) rfl (by kernel_rfl) (by kernel_rfl) (by kernel_rfl) (fun _ _ _ h => h) (Or.inl ⟨by rfl, ?_⟩) (by assumption) ?_
                        rotate_left
                        focus (intro wS hSw; (try dsimp only at hSw); go_simp; (try with_reducible rfl))
                        try simp only [Act.put, List.getElem_toArray, List.getElem_cons_zero, List.getElem_cons_succ, List.setIfInBounds_toArray, List.set_cons_zero, List.set_cons_succ]
                        refine wpAnyH_ready (rs := [23]) (by kernel_rfl) (by simp) (AllReadyH.cons (o := _) rfl (fun K hK => ?_) AllReadyH.nil)
                        go_simp
                        go_at_call 69
                        refine (qpixel_any _ _ _ _ _ _ _ _ _ _ _ _ (H450.out.old HS.out) HV.out).mono ?_
                        rintro e w452 ⟨rfl, hb⟩
                        have H453 := hid (H450.out.call hb)
                        clear hb
                        obtain ⟨pv454, hpv454⟩ : ∃ xx', pPix w h zs p f (x + mr - kw2) (y + mq - kh2) = xx' := ⟨_, rfl⟩
                        rw [hpv454]
                        have HNpv454 := hid hpv454
                        clear hpv454
                        obtain ⟨pv1, pv2⟩ : 0 ≤ pv454 ∧ pv454 ≤ mx := by rw [← HNpv454.out]; exact pPix_bd HV.out HB.out _ _
                        obtain ⟨pr1, pr2⟩ := wm2 hzw.out ⟨pv1, show pv454 ≤ 4294967296 by omega⟩
                        have HSN0 := hid (show cvS w h zs p f KW KH ws x y (m + 1) = S2 + wz * pv454 from by rw [← HS2.out]; show cvS _ _ _ _ _ _ _ _ _ _ m + cvF _ _ _ _ _ _ _ _ _ _ m = _; rw [show cvF w h zs p f KW KH ws x y m = wz * pv454 from by have e := cvF_at rfl mr1 w h zs p f (kh := KH) ws x y (jj := mq); rw [HMT.out, HWZ.out, HKW2.out, HKH2.out, HNpv454.out] at e; exact e])
                        obtain ⟨PR, hPR⟩ : ∃ xx', wz * pv454 = xx' := ⟨_, rfl⟩
                        rw [hPR] at pr1 pr2 HSN0
                        have w8 : IntKind.i64.wrap PR = PR := IntWalk.i64_in _ (by omega)
                        have w9 : IntKind.i64.wrap (S2 + PR) = S2 + PR := IntWalk.i64_in _ (by omega)
                        refine hK.out _ _ ?_ (fun hHeld2 => ?_)
                        focus ((try dsimp only); (exact ⟨H453.out.cell 5 rfl 0 rfl, H453.out.cell 5 rfl 1 rfl, H453.out.cell 5 rfl 2 rfl, H453.out.cell 5 rfl 3 rfl, H453.out.cell 4 rfl 0 rfl, H453.out.cell 4 rfl 1 rfl, (by have := row_cell (H453.out.old HW.out).row (j := m) hmn; rw [HWZ.out] at this; exact this)⟩))
                        clear hK K
                        try simp only [Act.put, List.getElem_toArray, List.getElem_cons_zero, List.getElem_cons_succ, List.setIfInBounds_toArray, List.set_cons_zero, List.set_cons_succ]
                        clear hHeld
                        have hHeld := hHeld2
                        clear hHeld2
                        refine wpAnyH_take (i := 24) (oi := _) (v := ?_) rfl (by kernel_rfl) (by kernel_rfl) (by kernel_rfl) (fun _ _ _ h => h) (Or.inl ⟨by rfl, ?_⟩) (by assumption) ?_
                        rotate_left
                        focus (intro wS hSw; (try dsimp only at hSw); go_simp; (try with_reducible rfl))
                        try simp only [Act.put, List.getElem_toArray, List.getElem_cons_zero, List.getElem_cons_succ, List.setIfInBounds_toArray, List.set_cons_zero, List.set_cons_succ]
                        refine wpAnyH_take (i := 25) (oi := _) (v := ?_) rfl (by kernel_rfl) (by kernel_rfl) (by kernel_rfl) (fun _ _ _ h => h) (Or.inl ⟨by rfl, ?_⟩) (by assumption) ?_
                        rotate_left
                        focus (intro wS hSw; (try dsimp only at hSw); go_simp; (try with_reducible rfl))
                        try simp only [Act.put, List.getElem_toArray, List.getElem_cons_zero, List.getElem_cons_succ, List.setIfInBounds_toArray, List.set_cons_zero, List.set_cons_succ]
                        refine wpAnyH_take (i := 26) (oi := _) (v := ?_) rfl (by kernel_rfl) (by kernel_rfl) (by kernel_rfl) (fun _ _ _ h => h) (Or.inl ⟨by rfl, ?_⟩) (by assumption) ?_
                        rotate_left
                        focus (intro wS hSw; (try dsimp only at hSw); go_simp; (try with_reducible rfl))
                        try simp only [Act.put, List.getElem_toArray, List.getElem_cons_zero, List.getElem_cons_succ, List.setIfInBounds_toArray, List.set_cons_zero, List.set_cons_succ]
                        refine wpAnyH_done (by kernel_rfl) ?_ _
                        try clear hHeld
                        clear w8 w9 wa1 wa2 wa3 wa4 wa5 wa6 wr1 wr2
                        go_wp2_with fail
                        go_roundw
                        case rel => exact ⟨m + 1, by omega, by go_num, by rw [HSN0.out], H453.out⟩
                        case measure => first | (simp [intOf]; omega) | (simp [intOf]; done)
                      · skip
                        have hmn' : ¬ ((m : Int) < wn) := by omega
                        have Hhmn := hid (show m = wn by omega)
                        go_upto_region 20 with fail
                        have HSF := hid (show cvS w h zs p f KW KH ws x y ws.length = S2 from by rw [show ws.length = m by rw [HLW.out, Hhmn.out]]; exact HS2.out)
                        have HFX := hid (show clV (shV S2 shift) out = F k j from by rw [← HFV.out]; unfold cvP; rw [show r0 + (j : Int) = x by omega, show r1 + (k : Int) = y by omega, HSF.out])
                        obtain ⟨fv, hfv⟩ : ∃ z, F k j = z := ⟨_, rfl⟩
                        rw [hfv] at HFX
                        obtain ⟨KN, hKN⟩ : ∃ K : Nat, k * wd = K := ⟨_, rfl⟩
                        have kn1 : KN + wd ≤ NN := by
                          have e1 := Nat.mul_le_mul_right wd (show k + 1 ≤ ht by omega)
                          rw [HNN.out, Nat.add_mul, Nat.one_mul, hKN] at e1
                          exact e1
                        obtain ⟨JX, hJX⟩ : ∃ K : Nat, KN + j = K := ⟨_, rfl⟩
                        have HNX := hid (show (fillL F wd k j NN).set JX fv = fillL F wd k (j + 1) NN from by rw [← hfv, ← hJX, ← hKN]; exact fillL_next (by omega))
                        have hyk : y - r1 = (k : Int) := by omega
                        have hkm : (k : Int) * (r2 - r0) = (KN : Int) := by rw [HWD.out, ← hKN]; simp
                        have hxj : (KN : Int) + x - r0 = (JX : Int) := by omega
                        have jx1 : JX < NN := by omega
                        have HFL := hid (show (fillL F wd k j NN).length = NN from fillL_len (by omega))
                        have wk1 : IntKind.i64.wrap (k : Int) = k := IntWalk.i64_in _ (by omega)
                        have wk2 : IntKind.i64.wrap (KN : Int) = KN := IntWalk.i64_in _ (by omega)
                        have wk3 : IntKind.i64.wrap ((KN : Int) + x) = (KN : Int) + x := IntWalk.i64_in _ (by omega)
                        have wk4 : IntKind.i64.wrap (JX : Int) = JX := IntWalk.i64_in _ (by omega)
                        have jx2 : (JX : Int) < NN := by omega
                        clear hfv hKN hJX
                        have H455 := hid H449.out.drew
                        refine wp_region_held_drew (S := (fun w' => w'.cell? ⟨D429, 0, none⟩ = some (.int .i64 (r2 - r0)) ∧ w'.cell? ⟨D429, 1, none⟩ = some (.int .i64 (r3 - r1)) ∧ w'.cell? ⟨D429, 2, none⟩ = some (.int .i64 out) ∧ w'.cell? ⟨D429, 3, none⟩ = some (.slice (some ⟨g0, 0, none⟩) NN v427c) ∧ w'.cell? ⟨B + 1 + 1, 0, none⟩ = some (.int .i64 r0) ∧ w'.cell? ⟨B + 1 + 1, 1, none⟩ = some (.int .i64 r1) ∧ w'.cell? ⟨B + 1 + 1, 2, none⟩ = some (.int .i64 r2) ∧ w'.cell? ⟨B + 1 + 1, 3, none⟩ = some (.int .i64 r3))) (by kernel_rfl) ⟨H455.out.cell 1 rfl 0 rfl, H455.out.cell 1 rfl 1 rfl, H455.out.cell 1 rfl 2 rfl, H455.out.cell 1 rfl 3 rfl, H455.out.cell 3 rfl 0 rfl, H455.out.cell 3 rfl 1 rfl, H455.out.cell 3 rfl 2 rfl, H455.out.cell 3 rfl 3 rfl⟩ (fun hHeld => ?_)
                        generalize u448.drew = k456 at *
                        refine wpAnyH_take (i := 0) (oi := _) (v := ?_) rfl (by kernel_rfl) (by kernel_rfl) (by kernel_rfl) (fun _ _ _ h => h) (Or.inl ⟨by rfl, ?_⟩) (by assumption) ?_
                        rotate_left
                        focus (intro wS hSw; (try dsimp only at hSw); go_simp; (try with_reducible rfl))
                        try simp only [Act.put, List.getElem_toArray, List.getElem_cons_zero, List.getElem_cons_succ, List.setIfInBounds_toArray, List.set_cons_zero, List.set_cons_succ]
                        refine wpAnyH_take (i := 1) (oi := _) (v := ?_) rfl (by kernel_rfl) (by kernel_rfl) (by kernel_rfl) (fun _ _ _ h => h) (Or.inl ⟨by rfl, ?_⟩) (by assumption) ?_
                        rotate_left
                        focus (intro wS hSw; (try dsimp only at hSw); go_simp; (try with_reducible rfl))
                        try simp only [Act.put, List.getElem_toArray, List.getElem_cons_zero, List.getElem_cons_succ, List.setIfInBounds_toArray, List.set_cons_zero, List.set_cons_succ]
                        refine wpAnyH_take (i := 2) (oi := _) (v := ?_) rfl (by kernel_rfl) (by kernel_rfl) (by kernel_rfl) (fun _ _ _ h => h) (Or.inl ⟨by rfl, ?_⟩) (by assumption) ?_
                        rotate_left
                        focus (intro wS hSw; (try dsimp only at hSw); go_simp; (try with_reducible rfl))
                        try simp only [Act.put, List.getElem_toArray, List.getElem_cons_zero, List.getElem_cons_succ, List.setIfInBounds_toArray, List.set_cons_zero, List.set_cons_succ]
                        refine wpAnyH_take (i := 3) (oi := _) (v := ?_) rfl (by kernel_rfl) (by kernel_rfl) (by kernel_rfl) (fun _ _ _ h => h) (Or.inl ⟨by rfl, ?_⟩) (by assumption) ?_
                        rotate_left
                        focus (intro wS hSw; (try dsimp only at hSw); go_simp; (try with_reducible rfl))
                        try simp only [Act.put, List.getElem_toArray, List.getElem_cons_zero, List.getElem_cons_succ, List.setIfInBounds_toArray, List.set_cons_zero, List.set_cons_succ]
                        refine wpAnyH_take (i := 4) (oi := _) (v := ?_) rfl (by kernel_rfl) (by kernel_rfl) (by kernel_rfl) (fun _ _ _ h => h) (Or.inl ⟨by rfl, ?_⟩) (by assumption) ?_
                        rotate_left
                        focus (intro wS hSw; (try dsimp only at hSw); go_simp; (try with_reducible rfl))
                        try simp only [Act.put, List.getElem_toArray, List.getElem_cons_zero, List.getElem_cons_succ, List.setIfInBounds_toArray, List.set_cons_zero, List.set_cons_succ]
                        refine wpAnyH_take (i := 5) (oi := _) (v := ?_) rfl (by kernel_rfl) (by kernel_rfl) (by kernel_rfl) (fun _ _ _ h => h) (Or.inl ⟨by rfl, ?_⟩) (by assumption) ?_
                        rotate_left
                        focus (intro wS hSw; (try dsimp only at hSw); go_simp; (try with_reducible rfl))
                        try simp only [Act.put, List.getElem_toArray, List.getElem_cons_zero, List.getElem_cons_succ, List.setIfInBounds_toArray, List.set_cons_zero, List.set_cons_succ]
                        refine wpAnyH_take (i := 6) (oi := _) (v := ?_) rfl (by kernel_rfl) (by kernel_rfl) (by kernel_rfl) (fun _ _ _ h => h) (Or.inl ⟨by rfl, ?_⟩) (by assumption) ?_
                        rotate_left
                        focus (intro wS hSw; (try dsimp only at hSw); go_simp; (try with_reducible rfl))
                        try simp only [Act.put, List.getElem_toArray, List.getElem_cons_zero, List.getElem_cons_succ, List.setIfInBounds_toArray, List.set_cons_zero, List.set_cons_succ]
                        refine wpAnyH_take (i := 7) (oi := _) (v := ?_) rfl (by kernel_rfl) (by kernel_rfl) (by kernel_rfl) (fun _ _ _ h => h) (Or.inl ⟨by rfl, ?_⟩) (by assumption) ?_
                        rotate_left
                        focus (intro wS hSw; (try dsimp only at hSw); go_simp; (try with_reducible rfl))
                        try simp only [Act.put, List.getElem_toArray, List.getElem_cons_zero, List.getElem_cons_succ, List.setIfInBounds_toArray, List.set_cons_zero, List.set_cons_succ]
                        refine wpAnyH_take (i := 8) (oi := _) (v := ?_) rfl (by kernel_rfl) (by kernel_rfl) (by kernel_rfl) (fun _ _ _ h => h) (Or.inl ⟨by rfl, ?_⟩) (by assumption) ?_
                        rotate_left
                        focus (intro wS hSw; (try dsimp only at hSw); go_simp; (try with_reducible rfl))
                        try simp only [Act.put, List.getElem_toArray, List.getElem_cons_zero, List.getElem_cons_succ, List.setIfInBounds_toArray, List.set_cons_zero, List.set_cons_succ]
                        refine wpAnyH_take (i := 9) (oi := _) (v := ?_) rfl (by kernel_rfl) (by kernel_rfl) (by kernel_rfl) (fun _ _ _ h => h) (Or.inl ⟨by rfl, ?_⟩) (by assumption) ?_
                        rotate_left
                        focus (intro wS hSw; (try dsimp only at hSw); go_simp; (try with_reducible rfl))
                        try simp only [Act.put, List.getElem_toArray, List.getElem_cons_zero, List.getElem_cons_succ, List.setIfInBounds_toArray, List.set_cons_zero, List.set_cons_succ]
                        refine wpAnyH_take (i := 10) (oi := _) (v := ?_) rfl (by kernel_rfl) (by kernel_rfl) (by kernel_rfl) (fun _ _ _ h => h) (Or.inl ⟨by rfl, ?_⟩) (by assumption) ?_
                        rotate_left
                        focus (intro wS hSw; (try dsimp only at hSw); go_simp; (try with_reducible rfl))
                        try simp only [Act.put, List.getElem_toArray, List.getElem_cons_zero, List.getElem_cons_succ, List.setIfInBounds_toArray, List.set_cons_zero, List.set_cons_succ]
                        refine wpAnyH_take (i := 11) (oi := _) (v := ?_) rfl (by kernel_rfl) (by kernel_rfl) (by kernel_rfl) (fun _ _ _ h => h) (Or.inl ⟨by rfl, ?_⟩) (by assumption) ?_
                        rotate_left
                        focus (intro wS hSw; (try dsimp only at hSw); go_simp; (try with_reducible rfl))
                        try simp only [Act.put, List.getElem_toArray, List.getElem_cons_zero, List.getElem_cons_succ, List.setIfInBounds_toArray, List.set_cons_zero, List.set_cons_succ]
                        refine wpAnyH_take (i := 12) (oi := _) (v := ?_) rfl (by kernel_rfl) (by kernel_rfl) (by kernel_rfl) (fun _ _ _ h => h) (Or.inl ⟨by rfl, ?_⟩) (by assumption) ?_
                        rotate_left
                        focus (intro wS hSw; (try dsimp only at hSw); go_simp; (try with_reducible rfl))
                        try simp only [Act.put, List.getElem_toArray, List.getElem_cons_zero, List.getElem_cons_succ, List.setIfInBounds_toArray, List.set_cons_zero, List.set_cons_succ]
                        refine wpAnyH_take (i := 13) (oi := _) (v := ?_) rfl (by kernel_rfl) (by kernel_rfl) (by kernel_rfl) (fun _ _ _ h => h) (Or.inl ⟨by rfl, ?_⟩) (by assumption) ?_
                        rotate_left
                        focus (intro wS hSw; (try dsimp only at hSw); go_simp; (try with_reducible rfl))
                        try simp only [Act.put, List.getElem_toArray, List.getElem_cons_zero, List.getElem_cons_succ, List.setIfInBounds_toArray, List.set_cons_zero, List.set_cons_succ]
                        refine wpAnyH_take (i := 14) (oi := _) (v := ?_) rfl (by kernel_rfl) (by kernel_rfl) (by kernel_rfl) (fun _ _ _ h => h) (Or.inl ⟨by rfl, ?_⟩) (by assumption) ?_
                        rotate_left
                        focus (intro wS hSw; (try dsimp only at hSw); go_simp; (try with_reducible rfl))
                        try simp only [Act.put, List.getElem_toArray, List.getElem_cons_zero, List.getElem_cons_succ, List.setIfInBounds_toArray, List.set_cons_zero, List.set_cons_succ]
                        refine wpAnyH_take (i := 15) (oi := _) (v := ?_) rfl (by kernel_rfl) (by kernel_rfl) (by kernel_rfl) (fun _ _ _ h => h) (Or.inl ⟨by rfl, ?_⟩) (by assumption) ?_
                        rotate_left
                        focus (intro wS hSw; (try dsimp only at hSw); go_simp; (try with_reducible rfl))
                        try simp only [Act.put, List.getElem_toArray, List.getElem_cons_zero, List.getElem_cons_succ, List.setIfInBounds_toArray, List.set_cons_zero, List.set_cons_succ]
                        refine wpAnyH_take (i := 17) (oi := _) (v := ?_) rfl (by kernel_rfl) (by kernel_rfl) (by kernel_rfl) (fun _ _ _ h => h) (Or.inl ⟨by rfl, ?_⟩) (by assumption) ?_
                        rotate_left
                        focus (intro wS hSw; (try dsimp only at hSw); go_simp; (try with_reducible rfl))
                        try simp only [Act.put, List.getElem_toArray, List.getElem_cons_zero, List.getElem_cons_succ, List.setIfInBounds_toArray, List.set_cons_zero, List.set_cons_succ]
                        refine wpAnyH_ready (rs := [16]) (by kernel_rfl) (by simp) (AllReadyH.cons (o := _) rfl (fun K hK => ?_) AllReadyH.nil)
                        go_simp
                        go_at_call 71
                        refine (rshift_any _ _ _).mono ?_
                        rintro e w457 ⟨rfl, hsw⟩
                        have hsw2 : k456 = w457 := by first | exact hsw | exact hsw.symm
                        clear hsw
                        subst hsw2
                        obtain ⟨sv458, hsv458⟩ : ∃ xx', shV S2 shift = xx' := ⟨_, rfl⟩
                        rw [hsv458]
                        have HNsv458 := hid hsv458
                        clear hsv458
                        refine hK.out _ _ ?_ (fun hHeld2 => ?_)
                        focus ((try dsimp only); (exact ⟨H455.out.cell 1 rfl 0 rfl, H455.out.cell 1 rfl 1 rfl, H455.out.cell 1 rfl 2 rfl, H455.out.cell 1 rfl 3 rfl, H455.out.cell 3 rfl 0 rfl, H455.out.cell 3 rfl 1 rfl, H455.out.cell 3 rfl 2 rfl, H455.out.cell 3 rfl 3 rfl⟩))
                        clear hK K
                        try simp only [Act.put, List.getElem_toArray, List.getElem_cons_zero, List.getElem_cons_succ, List.setIfInBounds_toArray, List.set_cons_zero, List.set_cons_succ]
                        clear hHeld
                        have hHeld := hHeld2
                        clear hHeld2
                        refine wpAnyH_ready (rs := [18]) (by kernel_rfl) (by simp) (AllReadyH.cons (o := _) rfl (fun K hK => ?_) AllReadyH.nil)
                        go_simp
                        go_at_call 70
                        refine (rclamp_any _ _ _).mono ?_
                        rintro e w459 ⟨rfl, hsw⟩
                        have hsw2 : k456 = w459 := by first | exact hsw | exact hsw.symm
                        clear hsw
                        subst hsw2
                        rw [show clV sv458 out = fv from by rw [← HNsv458.out]; exact HFX.out]
                        refine hK.out _ _ ?_ (fun hHeld2 => ?_)
                        focus ((try dsimp only); (exact ⟨H455.out.cell 1 rfl 0 rfl, H455.out.cell 1 rfl 1 rfl, H455.out.cell 1 rfl 2 rfl, H455.out.cell 1 rfl 3 rfl, H455.out.cell 3 rfl 0 rfl, H455.out.cell 3 rfl 1 rfl, H455.out.cell 3 rfl 2 rfl, H455.out.cell 3 rfl 3 rfl⟩))
                        clear hK K
                        try simp only [Act.put, List.getElem_toArray, List.getElem_cons_zero, List.getElem_cons_succ, List.setIfInBounds_toArray, List.set_cons_zero, List.set_cons_succ]
                        clear hHeld
                        have hHeld := hHeld2
                        clear hHeld2
                        refine wpAnyH_take (i := 19) (oi := _) (v := ?_) rfl (by kernel_rfl) (by kernel_rfl) (by kernel_rfl) (fun _ _ _ h => h) (Or.inl ⟨by rfl, ?_⟩) (by assumption) ?_
                        rotate_left
                        focus (intro wS hSw; (try dsimp only at hSw); go_simp; (try with_reducible rfl))
                        try simp only [Act.put, List.getElem_toArray, List.getElem_cons_zero, List.getElem_cons_succ, List.setIfInBounds_toArray, List.set_cons_zero, List.set_cons_succ]
                        refine wpAnyH_ready (rs := [20]) (by kernel_rfl) (by simp) (AllReadyH.cons (o := _) rfl (fun K hK => ?_) AllReadyH.nil)
                        obtain ⟨s460, s461⟩ := H455.out.get 0 rfl (j := JX) (by rw [HFL.out]; exact jx1)
                        have H462 := hid (show St B W [.own (.slice (some ⟨g0, 0, none⟩) NN v427c) ((fillL F wd k j NN).set JX fv), .cells D429 #[.int .i64 (r2 - r0), .int .i64 (r3 - r1), .int .i64 out, .slice (some ⟨g0, 0, none⟩) NN v427c] 35, .cells (B + 1 + 1 + 1) #[.int .i64 0, .int .i64 0, .int .i64 0, .slice none 0 0] 35, .cells (B + 1 + 1) #[.int .i64 r0, .int .i64 r1, .int .i64 r2, .int .i64 r3] 33, .cells (B + 1) #[.int .i64 p, .int .i64 f] 38, .cells B #[.int .i64 w, .int .i64 h, .int .i64 mx, .slice a n c] 35] [] (k456.setCell ⟨g0, JX, none⟩ (.int .i64 fv)) from (H455.out.store 0 rfl JX fv))
                        go_simp
                        refine hK.out _ _ ?_ (fun hHeld2 => ?_)
                        focus ((try dsimp only); (exact ⟨H462.out.cell 1 rfl 0 rfl, H462.out.cell 1 rfl 1 rfl, H462.out.cell 1 rfl 2 rfl, H462.out.cell 1 rfl 3 rfl, H462.out.cell 3 rfl 0 rfl, H462.out.cell 3 rfl 1 rfl, H462.out.cell 3 rfl 2 rfl, H462.out.cell 3 rfl 3 rfl⟩))
                        clear hK K hHeld
                        try simp only [Act.put, List.getElem_toArray, List.getElem_cons_zero, List.getElem_cons_succ, List.setIfInBounds_toArray, List.set_cons_zero, List.set_cons_succ]
                        clear s460 s461
                        generalize (k456.setCell ⟨g0, JX, none⟩ (.int .i64 fv)) = k463 at *
                        have hHeld := hHeld2
                        clear hHeld2
                        refine wpAnyH_done (by kernel_rfl) ?_ _
                        try clear hHeld
                        clear hyk hkm hxj wk1 wk2 wk3 wk4
                        go_wp2_with fail
                        go_roundw
                        case rel => exact ⟨x + 1, j + 1, by omega, by omega, by omega, by go_num, by rw [← HNX.out]; exact H462.out⟩
                        case measure => first | (simp [intOf]; omega) | (simp [intOf]; done)
                  · skip
                    have hjn' : ¬ ((x : Int) < r2) := by omega
                    have Hhjn := hid (show j = wd by omega)
                    have z464 := H443.out.cell 3 rfl 0 rfl
                    have z465 := H443.out.cell 3 rfl 1 rfl
                    have z466 := H443.out.cell 3 rfl 2 rfl
                    have z467 := H443.out.cell 3 rfl 3 rfl
                    go_wp2_with fail
                    clear z464 z465 z466 z467
                    go_roundw
                    case rel => exact ⟨y + 1, k + 1, by omega, by omega, by omega, by go_num, by rw [show fillL F wd (k + 1) 0 NN = fillL F wd k j NN by rw [← fillL_row, Hhjn.out]]; exact H443.out⟩
                    case measure => first | (simp [intOf]; omega) | (simp [intOf]; done)
              · skip
                have hkn' : ¬ ((y : Int) < r3) := by omega
                have Hhkn := hid (show k = ht by omega)
                have HKE := hid (show k = ht by omega)
                have z468 := H437.out.cell 3 rfl 0 rfl
                have z469 := H437.out.cell 3 rfl 1 rfl
                have z470 := H437.out.cell 3 rfl 2 rfl
                have z471 := H437.out.cell 3 rfl 3 rfl
                have z472 := H437.out.cell 1 rfl 0 rfl
                have z473 := H437.out.cell 1 rfl 1 rfl
                have z474 := H437.out.cell 1 rfl 2 rfl
                have z475 := H437.out.cell 1 rfl 3 rfl
                have z476 := H437.out.cell 2 rfl 0 rfl
                have z477 := H437.out.free 2 rfl 0
                have z478 := H437.out.cell 2 rfl 1 rfl
                have z479 := H437.out.free 2 rfl 1
                have z480 := H437.out.cell 2 rfl 2 rfl
                have z481 := H437.out.free 2 rfl 2
                have z482 := H437.out.cell 2 rfl 3 rfl
                have z483 := H437.out.free 2 rfl 3
                go_wp2_with fail
                clear z468 z469 z470 z471 z472 z473 z474 z475 z476 z477 z478 z479 z480 z481 z482 z483
                have H484 := hid (show St B W [.own (.slice (some ⟨g0, 0, none⟩) NN v427c) (fillL F wd k 0 NN), .cells D429 #[.int .i64 (r2 - r0), .int .i64 (r3 - r1), .int .i64 out, .slice (some ⟨g0, 0, none⟩) NN v427c] 35, .cells (B + 1 + 1 + 1) #[.int .i64 (r2 - r0), .int .i64 (r3 - r1), .int .i64 out, .slice (some ⟨g0, 0, none⟩) NN v427c] 35, .cells (B + 1 + 1) #[.int .i64 r0, .int .i64 r1, .int .i64 r2, .int .i64 r3] 33, .cells (B + 1) #[.int .i64 p, .int .i64 f] 38, .cells B #[.int .i64 w, .int .i64 h, .int .i64 mx, .slice a n c] 35] [] ((((u436.setCell ⟨B + 1 + 1 + 1, 0, none⟩ (.int .i64 (r2 - r0))).setCell ⟨B + 1 + 1 + 1, 1, none⟩ (.int .i64 (r3 - r1))).setCell ⟨B + 1 + 1 + 1, 2, none⟩ (.int .i64 out)).setCell ⟨B + 1 + 1 + 1, 3, none⟩ (.slice (some ⟨g0, 0, none⟩) NN v427c)) from (H437.out.set4 2 rfl (.int .i64 (r2 - r0)) (.int .i64 (r3 - r1)) (.int .i64 out) (.slice (some ⟨g0, 0, none⟩) NN v427c)))
                have HFLL := hid (show fillL F wd k 0 NN = gridL F wd k 0 from by rw [← HNN.out, ← HKE.out]; exact fillL_all F wd k)
                have HRES := hid (show cvL w h zs p f KW KH ws shift out r0 r1 r2 r3 = fillL F wd k 0 NN from by rw [HFLL.out]; unfold cvL rG; rw [HFF.out, HWD.out, HHT.out, Int.toNat_natCast, Int.toNat_natCast, ← HKE.out])
                have q485 := H484.out.cell 2 rfl 0 rfl
                have q486 := H484.out.cell 2 rfl 1 rfl
                have q487 := H484.out.cell 2 rfl 2 rfl
                have q488 := H484.out.cell 2 rfl 3 rfl
                refine bodyPost_ret (v := .tuple #[.agg #[.int .i64 (r2 - r0), .int .i64 (r3 - r1), .int .i64 out, .slice (some ⟨g0, 0, none⟩) NN v427c], .int .i64 0]) ?_ rfl (TPost.yes HTC.out (by rw [hB, HRES.out]; exact H484.out.own 0 rfl) (by first | exact H484.out.below | exact H484.out.below'))
                simp [results, Try.results30, go_sem, q485, q486, q487, q488]
      · have c375a : ((k374 : Int) == (0)) = false := by simpa using c375
        have c375b : ((k374 : Int) != (0)) = true := by simpa using c375
        have c375h := hid c375
        clear c375
        have z489 := H373.out.cell 0 rfl 0 rfl
        have z490 := H373.out.free 0 rfl 0
        have z491 := H373.out.cell 0 rfl 1 rfl
        have z492 := H373.out.free 0 rfl 1
        have z493 := H373.out.cell 0 rfl 2 rfl
        have z494 := H373.out.free 0 rfl 2
        have z495 := H373.out.cell 0 rfl 3 rfl
        have z496 := H373.out.free 0 rfl 3
        go_wp2_with fail
        clear z489 z490 z491 z492 z493 z494 z495 z496
        have H497 := hid (show St B W [.cells (B + 1 + 1 + 1) #[.int .i64 0, .int .i64 0, .int .i64 0, .slice none 0 0] 35, .cells (B + 1 + 1) #[.int .i64 r0, .int .i64 r1, .int .i64 r2, .int .i64 r3] 33, .cells (B + 1) #[.int .i64 p, .int .i64 f] 38, .cells B #[.int .i64 w, .int .i64 h, .int .i64 mx, .slice a n c] 35] [] ((((w372.setCell ⟨B + 1 + 1 + 1, 0, none⟩ (.int .i64 0)).setCell ⟨B + 1 + 1 + 1, 1, none⟩ (.int .i64 0)).setCell ⟨B + 1 + 1 + 1, 2, none⟩ (.int .i64 0)).setCell ⟨B + 1 + 1 + 1, 3, none⟩ (.slice none 0 0)) from (H373.out.set4 0 rfl (.int .i64 0) (.int .i64 0) (.int .i64 0) (.slice none 0 0)))
        have q498 := H497.out.cell 0 rfl 0 rfl
        have q499 := H497.out.cell 0 rfl 1 rfl
        have q500 := H497.out.cell 0 rfl 2 rfl
        have q501 := H497.out.cell 0 rfl 3 rfl
        refine bodyPost_ret (v := .tuple #[.agg #[.int .i64 0, .int .i64 0, .int .i64 0, .slice none 0 0], .int .i64 k374]) ?_ rfl (TPost.no (by unfold cvTC; rw [if_neg (fun hc => hc ⟨HNb358.out, HNb367.out⟩), if_pos (by rw [HNk374.out]; exact c375h.out), HNk374.out]) c375h.out (by first | exact H497.out.below | exact H497.out.below'))
        simp [results, Try.results30, go_sem, q498, q499, q500, q501]
    | false =>
      have z502 := H366.out.cell 0 rfl 0 rfl
      have z503 := H366.out.free 0 rfl 0
      have z504 := H366.out.cell 0 rfl 1 rfl
      have z505 := H366.out.free 0 rfl 1
      have z506 := H366.out.cell 0 rfl 2 rfl
      have z507 := H366.out.free 0 rfl 2
      have z508 := H366.out.cell 0 rfl 3 rfl
      have z509 := H366.out.free 0 rfl 3
      go_wp2_with fail
      clear z502 z503 z504 z505 z506 z507 z508 z509
      have H510 := hid (show St B W [.cells (B + 1 + 1 + 1) #[.int .i64 0, .int .i64 0, .int .i64 0, .slice none 0 0] 35, .cells (B + 1 + 1) #[.int .i64 r0, .int .i64 r1, .int .i64 r2, .int .i64 r3] 33, .cells (B + 1) #[.int .i64 p, .int .i64 f] 38, .cells B #[.int .i64 w, .int .i64 h, .int .i64 mx, .slice a n c] 35] [] ((((w365.setCell ⟨B + 1 + 1 + 1, 0, none⟩ (.int .i64 0)).setCell ⟨B + 1 + 1 + 1, 1, none⟩ (.int .i64 0)).setCell ⟨B + 1 + 1 + 1, 2, none⟩ (.int .i64 0)).setCell ⟨B + 1 + 1 + 1, 3, none⟩ (.slice none 0 0)) from (H366.out.set4 0 rfl (.int .i64 0) (.int .i64 0) (.int .i64 0) (.slice none 0 0)))
      have q511 := H510.out.cell 0 rfl 0 rfl
      have q512 := H510.out.cell 0 rfl 1 rfl
      have q513 := H510.out.cell 0 rfl 2 rfl
      have q514 := H510.out.cell 0 rfl 3 rfl
      refine bodyPost_ret (v := .tuple #[.agg #[.int .i64 0, .int .i64 0, .int .i64 0, .slice none 0 0], .int .i64 1]) ?_ rfl (TPost.no (by unfold cvTC; rw [if_pos (by intro hc; rw [HNb367.out] at hc; simp at hc)]) (by omega) (by first | exact H510.out.below | exact H510.out.below'))
      simp [results, Try.results30, go_sem, q511, q512, q513, q514]
  | false =>
    have z515 := H357.out.cell 0 rfl 0 rfl
    have z516 := H357.out.free 0 rfl 0
    have z517 := H357.out.cell 0 rfl 1 rfl
    have z518 := H357.out.free 0 rfl 1
    have z519 := H357.out.cell 0 rfl 2 rfl
    have z520 := H357.out.free 0 rfl 2
    have z521 := H357.out.cell 0 rfl 3 rfl
    have z522 := H357.out.free 0 rfl 3
    go_wp2_with fail
    clear z515 z516 z517 z518 z519 z520 z521 z522
    have H523 := hid (show St B W [.cells (B + 1 + 1 + 1) #[.int .i64 0, .int .i64 0, .int .i64 0, .slice none 0 0] 35, .cells (B + 1 + 1) #[.int .i64 r0, .int .i64 r1, .int .i64 r2, .int .i64 r3] 33, .cells (B + 1) #[.int .i64 p, .int .i64 f] 38, .cells B #[.int .i64 w, .int .i64 h, .int .i64 mx, .slice a n c] 35] [] ((((w356.setCell ⟨B + 1 + 1 + 1, 0, none⟩ (.int .i64 0)).setCell ⟨B + 1 + 1 + 1, 1, none⟩ (.int .i64 0)).setCell ⟨B + 1 + 1 + 1, 2, none⟩ (.int .i64 0)).setCell ⟨B + 1 + 1 + 1, 3, none⟩ (.slice none 0 0)) from (H357.out.set4 0 rfl (.int .i64 0) (.int .i64 0) (.int .i64 0) (.slice none 0 0)))
    have q524 := H523.out.cell 0 rfl 0 rfl
    have q525 := H523.out.cell 0 rfl 1 rfl
    have q526 := H523.out.cell 0 rfl 2 rfl
    have q527 := H523.out.cell 0 rfl 3 rfl
    refine bodyPost_ret (v := .tuple #[.agg #[.int .i64 0, .int .i64 0, .int .i64 0, .slice none 0 0], .int .i64 1]) ?_ rfl (TPost.no (by unfold cvTC; rw [if_pos (by intro hc; rw [HNb358.out] at hc; simp at hc)]) (by omega) (by first | exact H523.out.below | exact H523.out.below'))
    simp [results, Try.results30, go_sem, q524, q525, q526, q527]
end Go.Proofs.Ytkpdahjddjdgcaa
