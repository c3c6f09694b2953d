/-
  Contract: the tiles of convolutions by rows and columns, in the reference.
-/
import Derived.Test.YtfdkgjphnlijiaaSpTile
namespace Go.Proofs.Ytfdkgjphnlijiaa
open Go.RowKit
attribute [local go_sem ↓] Go.wp_at_zero Go.wp_at_succ
set_option linter.unusedVariables false
set_option linter.unusedSimpArgs false

set_option maxRecDepth 100000 in
set_option maxHeartbeats 12800000 in
theorem rstile_any (w h mx : Int) (a : Option Addr) (n c : Nat) (zs : List Int) (p f : Int) (ra : Option Addr) (rn rc : Nat) (row : List Int) (ca : Option Addr) (cn cc : Nat) (col : List Int) (shift shift2 out r0 r1 r2 r3 : Int) (W : World) (hs : Slc W a n c zs) (hr : Slc W ra rn rc row) (hc : Slc W ca cn cc col) :
    Calls Try.prog 21 #[.agg #[.int .i64 w, .int .i64 h, .int .i64 mx, .slice a n c], .agg #[.int .i64 p, .int .i64 f], .slice ra rn rc, .slice ca cn cc, .int .i64 shift, .int .i64 shift2, .int .i64 out, .agg #[.int .i64 r0, .int .i64 r1, .int .i64 r2, .int .i64 r3]] W (TPost (spTC w h mx zs p f row col shift shift2 out r0 r1 r2 r3) (r2 - r0) (r3 - r1) out (spL w h zs p f row col shift shift2 out r0 r1 r2 r3) W) := by
  obtain ⟨B, hB⟩ : ∃ B, W.heap.size = B := ⟨_, rfl⟩
  have HI0 := hid (St.init hB)
  have HS := hid hs
  have HR := hid hr
  have HC := hid hc
  have HLR := hid hr.len
  have HLC := hid hc.len
  have rnm : (rn : Int) ≤ 9223372036854775807 := by have := hr.nc; have := hr.cap; omega
  have cnm : (cn : Int) ≤ 9223372036854775807 := by have := hc.nc; have := hc.cap; omega
  clear hs hr hc
  go_enter Try.func21, Try.ntmps21
  go_upto_region 1 with fail
  have H45 := hid (show St B W [.cells (B + 1 + 1 + 1) #[.int .i64 0, .int .i64 0, .int .i64 0, .slice none 0 0] 35, .cells (B + 1 + 1) #[.int .i64 r0, .int .i64 r1, .int .i64 r2, .int .i64 r3] 33, .cells (B + 1) #[.int .i64 p, .int .i64 f] 38, .cells B #[.int .i64 w, .int .i64 h, .int .i64 mx, .slice a n c] 35] [] ((((W.alloc (.cells #[.int .i64 w, .int .i64 h, .int .i64 mx, .slice a n c] 35)).alloc (.cells #[.int .i64 p, .int .i64 f] 38)).alloc (.cells #[.int .i64 r0, .int .i64 r1, .int .i64 r2, .int .i64 r3] 33)).alloc (.cells #[.int .i64 0, .int .i64 0, .int .i64 0, .slice none 0 0] 35)) from ((((HI0.out.alloc #[.int .i64 w, .int .i64 h, .int .i64 mx, .slice a n c] 35 hB).alloc #[.int .i64 p, .int .i64 f] 38 (by first | exact hB | simp [hB])).alloc #[.int .i64 r0, .int .i64 r1, .int .i64 r2, .int .i64 r3] 33 (by first | exact hB | simp [hB])).alloc #[.int .i64 0, .int .i64 0, .int .i64 0, .slice none 0 0] 35 (by first | exact hB | simp [hB])))
  first | refine gen_code H45.out ?_ | refine gen_list H45.out ?_ | refine gen_calls H45.out ?_
  intro w46 hG
  clear H45
  have H45 := hid hG
  clear hG
  have z47 := H45.out.cell 3 rfl 0 rfl
  have z48 := H45.out.cell 3 rfl 1 rfl
  have z49 := H45.out.cell 3 rfl 2 rfl
  have z50 := H45.out.cell 3 rfl 3 rfl
  go_wp2_with fail
  clear z47 z48 z49 z50
  refine (qpvalid_any _ _ _ _ _ _ _ _ (by have := HS.out.nc; have := HS.out.cap; omega) (H45.out.old HS.out).row).mono ?_
  rintro e w51 ⟨rfl, hb⟩
  have H52 := hid (H45.out.call hb)
  clear hb
  obtain ⟨b53, hb53⟩ : ∃ xx', pValid w h mx zs = xx' := ⟨_, rfl⟩
  rw [hb53]
  have HNb53 := hid hb53
  clear hb53
  cases b53 with
  | true =>
    have z54 := H52.out.cell 2 rfl 0 rfl
    have z55 := H52.out.cell 2 rfl 1 rfl
    have z56 := H52.out.cell 3 rfl 0 rfl
    have z57 := H52.out.cell 3 rfl 1 rfl
    have z58 := H52.out.cell 3 rfl 2 rfl
    have z59 := H52.out.cell 3 rfl 3 rfl
    go_wp2_with fail
    clear z54 z55 z56 z57 z58 z59
    refine (rbvalid_any _ _ _ _).mono ?_
    rintro e w60 ⟨rfl, hb⟩
    have H61 := hid (H52.out.call hb)
    clear hb
    obtain ⟨b62, hb62⟩ : ∃ xx', bValid p f mx = xx' := ⟨_, rfl⟩
    rw [hb62]
    have HNb62 := hid hb62
    clear hb62
    cases b62 with
    | true =>
      have z63 := H61.out.cell 3 rfl 0 rfl
      have z64 := H61.out.cell 3 rfl 1 rfl
      have z65 := H61.out.cell 3 rfl 2 rfl
      have z66 := H61.out.cell 3 rfl 3 rfl
      go_wp2_with fail
      clear z63 z64 z65 z66
      refine (rscheck_any _ _ _ _ _ _ _ _ _ _ _ _ _ (H61.out.old HR.out) (H61.out.old HC.out)).mono ?_
      rintro e w67 ⟨rfl, hb⟩
      have H68 := hid (H61.out.call hb)
      clear hb
      obtain ⟨k69, hk69⟩ : ∃ xx', spCode mx row col shift shift2 out = xx' := ⟨_, rfl⟩
      rw [hk69]
      have HNk69 := hid hk69
      clear hk69
      by_cases c70 : (k69 : Int) = 0
      · obtain ⟨c70c, c70d⟩ : (k69 : Int) ≤ 0 ∧ (0 : Int) ≤ k69 := by omega
        have c70a : ((k69 : Int) == (0)) = true := by simpa using c70
        have c70b : ((k69 : Int) != (0)) = false := by simpa using c70
        have c70h := hid c70
        clear c70
        go_upto_region 6 with fail
        cases hfu : rFull r0 r1 r2 r3 with
        | false =>
          have HFU := hid hfu
          have HX := hid (fullInside' (b0 := 0) (b1 := 0) (b2 := w) (b3 := h) (.inl hfu))
          clear hfu
          go_upto_region 6 with fail
          have H71 := hid H68.out.drew
          refine wp_region_held_drew (S := (fun w' => w'.cell? ⟨B + 1 + 1, 0, none⟩ = some (.int .i64 r0) ∧ w'.cell? ⟨B + 1 + 1, 1, none⟩ = some (.int .i64 r1) ∧ w'.cell? ⟨B + 1 + 1, 2, none⟩ = some (.int .i64 r2) ∧ w'.cell? ⟨B + 1 + 1, 3, none⟩ = some (.int .i64 r3) ∧ w'.cell? ⟨B, 0, none⟩ = some (.int .i64 w) ∧ w'.cell? ⟨B, 1, none⟩ = some (.int .i64 h) ∧ w'.cell? ⟨B, 2, none⟩ = some (.int .i64 mx) ∧ w'.cell? ⟨B, 3, none⟩ = some (.slice a n c))) (by kernel_rfl) ⟨H71.out.cell 1 rfl 0 rfl, H71.out.cell 1 rfl 1 rfl, H71.out.cell 1 rfl 2 rfl, H71.out.cell 1 rfl 3 rfl, H71.out.cell 3 rfl 0 rfl, H71.out.cell 3 rfl 1 rfl, H71.out.cell 3 rfl 2 rfl, H71.out.cell 3 rfl 3 rfl⟩ (fun hHeld => ?_)
          generalize w67.drew = k72 at *
          refine wpAnyH_take (i := 0) (oi := _) (v := ?_) rfl (by kernel_rfl) (by kernel_rfl) (by kernel_rfl) (fun _ _ _ h => h) (Or.inl ⟨by rfl, ?_⟩) (by assumption) ?_
          rotate_left
          focus (intro wS hSw; (try dsimp only at hSw); go_simp; (try with_reducible rfl))
          try simp only [Act.put, List.getElem_toArray, List.getElem_cons_zero, List.getElem_cons_succ, List.setIfInBounds_toArray, List.set_cons_zero, List.set_cons_succ]
          refine wpAnyH_ready (rs := [1]) (by kernel_rfl) (by simp) (AllReadyH.cons (o := _) rfl (fun K hK => ?_) AllReadyH.nil)
          go_simp
          go_at_call 46
          refine (qfull_any _ _ _ _ _).mono ?_
          rintro e w73 ⟨rfl, hb⟩
          have H74 := hid (H71.out.call hb)
          clear hb
          rw [HFU.out]
          refine hK.out _ _ ?_ (fun hHeld2 => ?_)
          focus ((try dsimp only); (exact ⟨H74.out.cell 1 rfl 0 rfl, H74.out.cell 1 rfl 1 rfl, H74.out.cell 1 rfl 2 rfl, H74.out.cell 1 rfl 3 rfl, H74.out.cell 3 rfl 0 rfl, H74.out.cell 3 rfl 1 rfl, H74.out.cell 3 rfl 2 rfl, H74.out.cell 3 rfl 3 rfl⟩))
          clear hK K
          try simp only [Act.put, List.getElem_toArray, List.getElem_cons_zero, List.getElem_cons_succ, List.setIfInBounds_toArray, List.set_cons_zero, List.set_cons_succ]
          clear hHeld
          have hHeld := hHeld2
          clear hHeld2
          refine wpAnyH_take (i := 2) (oi := _) (v := ?_) rfl (by kernel_rfl) (by kernel_rfl) (by kernel_rfl) (fun _ _ _ h => h) (Or.inl ⟨by rfl, ?_⟩) (by assumption) ?_
          rotate_left
          focus (intro wS hSw; (try dsimp only at hSw); go_simp; (try with_reducible rfl))
          try simp only [Act.put, List.getElem_toArray, List.getElem_cons_zero, List.getElem_cons_succ, List.setIfInBounds_toArray, List.set_cons_zero, List.set_cons_succ]
          refine wpAnyH_take (i := 3) (oi := _) (v := ?_) rfl (by kernel_rfl) (by kernel_rfl) (by kernel_rfl) (fun _ _ _ h => h) (Or.inl ⟨by rfl, ?_⟩) (by assumption) ?_
          rotate_left
          focus (intro wS hSw; (try dsimp only at hSw); go_simp; (try with_reducible rfl))
          try simp only [Act.put, List.getElem_toArray, List.getElem_cons_zero, List.getElem_cons_succ, List.setIfInBounds_toArray, List.set_cons_zero, List.set_cons_succ]
          refine wpAnyH_take (i := 4) (oi := _) (v := _) rfl (by kernel_rfl) (by kernel_rfl) (by kernel_rfl) (fun _ _ _ h => h) (Or.inr ⟨by rfl, rfl⟩) (by assumption) ?_
          try simp only [Act.put, List.getElem_toArray, List.getElem_cons_zero, List.getElem_cons_succ, List.setIfInBounds_toArray, List.set_cons_zero, List.set_cons_succ]
          refine wpAnyH_take (i := 5) (oi := _) (v := _) rfl (by kernel_rfl) (by kernel_rfl) (by kernel_rfl) (fun _ _ _ h => h) (Or.inr ⟨by rfl, rfl⟩) (by assumption) ?_
          try simp only [Act.put, List.getElem_toArray, List.getElem_cons_zero, List.getElem_cons_succ, List.setIfInBounds_toArray, List.set_cons_zero, List.set_cons_succ]
          refine wpAnyH_take (i := 6) (oi := _) (v := _) rfl (by kernel_rfl) (by kernel_rfl) (by kernel_rfl) (fun _ _ _ h => h) (Or.inr ⟨by rfl, rfl⟩) (by assumption) ?_
          try simp only [Act.put, List.getElem_toArray, List.getElem_cons_zero, List.getElem_cons_succ, List.setIfInBounds_toArray, List.set_cons_zero, List.set_cons_succ]
          refine wpAnyH_take (i := 7) (oi := _) (v := _) rfl (by kernel_rfl) (by kernel_rfl) (by kernel_rfl) (fun _ _ _ h => h) (Or.inr ⟨by rfl, rfl⟩) (by assumption) ?_
          try simp only [Act.put, List.getElem_toArray, List.getElem_cons_zero, List.getElem_cons_succ, List.setIfInBounds_toArray, List.set_cons_zero, List.set_cons_succ]
          refine wpAnyH_take (i := 8) (oi := _) (v := _) rfl (by kernel_rfl) (by kernel_rfl) (by kernel_rfl) (fun _ _ _ h => h) (Or.inr ⟨by rfl, rfl⟩) (by assumption) ?_
          try simp only [Act.put, List.getElem_toArray, List.getElem_cons_zero, List.getElem_cons_succ, List.setIfInBounds_toArray, List.set_cons_zero, List.set_cons_succ]
          refine wpAnyH_take (i := 9) (oi := _) (v := ?_) rfl (by kernel_rfl) (by kernel_rfl) (by kernel_rfl) (fun _ _ _ h => h) (Or.inl ⟨by rfl, ?_⟩) (by assumption) ?_
          rotate_left
          focus (intro wS hSw; (try dsimp only at hSw); go_simp; (try with_reducible rfl))
          try simp only [Act.put, List.getElem_toArray, List.getElem_cons_zero, List.getElem_cons_succ, List.setIfInBounds_toArray, List.set_cons_zero, List.set_cons_succ]
          refine wpAnyH_done (by kernel_rfl) ?_ _
          try clear hHeld
          have z75 := H74.out.cell 0 rfl 0 rfl
          have z76 := H74.out.free 0 rfl 0
          have z77 := H74.out.cell 0 rfl 1 rfl
          have z78 := H74.out.free 0 rfl 1
          have z79 := H74.out.cell 0 rfl 2 rfl
          have z80 := H74.out.free 0 rfl 2
          have z81 := H74.out.cell 0 rfl 3 rfl
          have z82 := H74.out.free 0 rfl 3
          go_wp2_with fail
          clear z75 z76 z77 z78 z79 z80 z81 z82
          have H83 := hid (show St B W [.cells (B + 1 + 1 + 1) #[.int .i64 0, .int .i64 0, .int .i64 0, .slice none 0 0] 35, .cells (B + 1 + 1) #[.int .i64 r0, .int .i64 r1, .int .i64 r2, .int .i64 r3] 33, .cells (B + 1) #[.int .i64 p, .int .i64 f] 38, .cells B #[.int .i64 w, .int .i64 h, .int .i64 mx, .slice a n c] 35] [] ((((w73.setCell ⟨B + 1 + 1 + 1, 0, none⟩ (.int .i64 0)).setCell ⟨B + 1 + 1 + 1, 1, none⟩ (.int .i64 0)).setCell ⟨B + 1 + 1 + 1, 2, none⟩ (.int .i64 0)).setCell ⟨B + 1 + 1 + 1, 3, none⟩ (.slice none 0 0)) from (H74.out.set4 0 rfl (.int .i64 0) (.int .i64 0) (.int .i64 0) (.slice none 0 0)))
          have q84 := H83.out.cell 0 rfl 0 rfl
          have q85 := H83.out.cell 0 rfl 1 rfl
          have q86 := H83.out.cell 0 rfl 2 rfl
          have q87 := H83.out.cell 0 rfl 3 rfl
          refine bodyPost_ret (v := .tuple #[.agg #[.int .i64 0, .int .i64 0, .int .i64 0, .slice none 0 0], .int .i64 8]) ?_ rfl (TPost.no (by unfold spTC; rw [if_neg (fun hc => hc ⟨HNb53.out, HNb62.out⟩), if_neg (by rw [HNk69.out]; have := c70h.out; omega), if_pos (by unfold rIs; exact HX.out)]) (by omega) (by first | exact H83.out.below | exact H83.out.below'))
          simp [results, Try.results21, go_sem, q84, q85, q86, q87]
        | true =>
          have HFU := hid hfu
          cases hin : rInside r0 r1 r2 r3 0 0 w h with
          | false =>
            have HIN0 := hid hin
            have HX := hid (fullInside' (r0 := r0) (r1 := r1) (r2 := r2) (r3 := r3) (.inr hin))
            clear hfu hin
            go_upto_region 6 with fail
            have H88 := hid H68.out.drew
            refine wp_region_held_drew (S := (fun w' => w'.cell? ⟨B + 1 + 1, 0, none⟩ = some (.int .i64 r0) ∧ w'.cell? ⟨B + 1 + 1, 1, none⟩ = some (.int .i64 r1) ∧ w'.cell? ⟨B + 1 + 1, 2, none⟩ = some (.int .i64 r2) ∧ w'.cell? ⟨B + 1 + 1, 3, none⟩ = some (.int .i64 r3) ∧ w'.cell? ⟨B, 0, none⟩ = some (.int .i64 w) ∧ w'.cell? ⟨B, 1, none⟩ = some (.int .i64 h) ∧ w'.cell? ⟨B, 2, none⟩ = some (.int .i64 mx) ∧ w'.cell? ⟨B, 3, none⟩ = some (.slice a n c))) (by kernel_rfl) ⟨H88.out.cell 1 rfl 0 rfl, H88.out.cell 1 rfl 1 rfl, H88.out.cell 1 rfl 2 rfl, H88.out.cell 1 rfl 3 rfl, H88.out.cell 3 rfl 0 rfl, H88.out.cell 3 rfl 1 rfl, H88.out.cell 3 rfl 2 rfl, H88.out.cell 3 rfl 3 rfl⟩ (fun hHeld => ?_)
            generalize w67.drew = k89 at *
            refine wpAnyH_take (i := 0) (oi := _) (v := ?_) rfl (by kernel_rfl) (by kernel_rfl) (by kernel_rfl) (fun _ _ _ h => h) (Or.inl ⟨by rfl, ?_⟩) (by assumption) ?_
            rotate_left
            focus (intro wS hSw; (try dsimp only at hSw); go_simp; (try with_reducible rfl))
            try simp only [Act.put, List.getElem_toArray, List.getElem_cons_zero, List.getElem_cons_succ, List.setIfInBounds_toArray, List.set_cons_zero, List.set_cons_succ]
            refine wpAnyH_ready (rs := [1]) (by kernel_rfl) (by simp) (AllReadyH.cons (o := _) rfl (fun K hK => ?_) AllReadyH.nil)
            go_simp
            go_at_call 46
            refine (qfull_any _ _ _ _ _).mono ?_
            rintro e w90 ⟨rfl, hb⟩
            have H91 := hid (H88.out.call hb)
            clear hb
            rw [HFU.out]
            refine hK.out _ _ ?_ (fun hHeld2 => ?_)
            focus ((try dsimp only); (exact ⟨H91.out.cell 1 rfl 0 rfl, H91.out.cell 1 rfl 1 rfl, H91.out.cell 1 rfl 2 rfl, H91.out.cell 1 rfl 3 rfl, H91.out.cell 3 rfl 0 rfl, H91.out.cell 3 rfl 1 rfl, H91.out.cell 3 rfl 2 rfl, H91.out.cell 3 rfl 3 rfl⟩))
            clear hK K
            try simp only [Act.put, List.getElem_toArray, List.getElem_cons_zero, List.getElem_cons_succ, List.setIfInBounds_toArray, List.set_cons_zero, List.set_cons_succ]
            clear hHeld
            have hHeld := hHeld2
            clear hHeld2
            refine wpAnyH_take (i := 2) (oi := _) (v := ?_) rfl (by kernel_rfl) (by kernel_rfl) (by kernel_rfl) (fun _ _ _ h => h) (Or.inl ⟨by rfl, ?_⟩) (by assumption) ?_
            rotate_left
            focus (intro wS hSw; (try dsimp only at hSw); go_simp; (try with_reducible rfl))
            try simp only [Act.put, List.getElem_toArray, List.getElem_cons_zero, List.getElem_cons_succ, List.setIfInBounds_toArray, List.set_cons_zero, List.set_cons_succ]
            refine wpAnyH_take (i := 3) (oi := _) (v := ?_) rfl (by kernel_rfl) (by kernel_rfl) (by kernel_rfl) (fun _ _ _ h => h) (Or.inl ⟨by rfl, ?_⟩) (by assumption) ?_
            rotate_left
            focus (intro wS hSw; (try dsimp only at hSw); go_simp; (try with_reducible rfl))
            try simp only [Act.put, List.getElem_toArray, List.getElem_cons_zero, List.getElem_cons_succ, List.setIfInBounds_toArray, List.set_cons_zero, List.set_cons_succ]
            refine wpAnyH_take (i := 4) (oi := _) (v := ?_) rfl (by kernel_rfl) (by kernel_rfl) (by kernel_rfl) (fun _ _ _ h => h) (Or.inl ⟨by rfl, ?_⟩) (by assumption) ?_
            rotate_left
            focus (intro wS hSw; (try dsimp only at hSw); go_simp; (try with_reducible rfl))
            try simp only [Act.put, List.getElem_toArray, List.getElem_cons_zero, List.getElem_cons_succ, List.setIfInBounds_toArray, List.set_cons_zero, List.set_cons_succ]
            refine wpAnyH_take (i := 5) (oi := _) (v := ?_) rfl (by kernel_rfl) (by kernel_rfl) (by kernel_rfl) (fun _ _ _ h => h) (Or.inl ⟨by rfl, ?_⟩) (by assumption) ?_
            rotate_left
            focus (intro wS hSw; (try dsimp only at hSw); go_simp; (try with_reducible rfl))
            try simp only [Act.put, List.getElem_toArray, List.getElem_cons_zero, List.getElem_cons_succ, List.setIfInBounds_toArray, List.set_cons_zero, List.set_cons_succ]
            refine wpAnyH_ready (rs := [6]) (by kernel_rfl) (by simp) (AllReadyH.cons (o := _) rfl (fun K hK => ?_) AllReadyH.nil)
            go_simp
            go_at_call 48
            refine (qcover_any _ _ _ _ _ _ _).mono ?_
            rintro e w92 ⟨rfl, hb⟩
            have H93 := hid (H91.out.call hb)
            clear hb
            refine hK.out _ _ ?_ (fun hHeld2 => ?_)
            focus ((try dsimp only); (exact ⟨H93.out.cell 1 rfl 0 rfl, H93.out.cell 1 rfl 1 rfl, H93.out.cell 1 rfl 2 rfl, H93.out.cell 1 rfl 3 rfl, H93.out.cell 3 rfl 0 rfl, H93.out.cell 3 rfl 1 rfl, H93.out.cell 3 rfl 2 rfl, H93.out.cell 3 rfl 3 rfl⟩))
            clear hK K
            try simp only [Act.put, List.getElem_toArray, List.getElem_cons_zero, List.getElem_cons_succ, List.setIfInBounds_toArray, List.set_cons_zero, List.set_cons_succ]
            clear hHeld
            have hHeld := hHeld2
            clear hHeld2
            refine wpAnyH_ready (rs := [7]) (by kernel_rfl) (by simp) (AllReadyH.cons (o := _) rfl (fun K hK => ?_) AllReadyH.nil)
            go_simp
            go_at_call 47
            refine (qinside_any _ _ _ _ _ _ _ _ _).mono ?_
            rintro e w94 ⟨rfl, hb⟩
            have H95 := hid (H93.out.call hb)
            clear hb
            rw [HIN0.out]
            refine hK.out _ _ ?_ (fun hHeld2 => ?_)
            focus ((try dsimp only); (exact ⟨H95.out.cell 1 rfl 0 rfl, H95.out.cell 1 rfl 1 rfl, H95.out.cell 1 rfl 2 rfl, H95.out.cell 1 rfl 3 rfl, H95.out.cell 3 rfl 0 rfl, H95.out.cell 3 rfl 1 rfl, H95.out.cell 3 rfl 2 rfl, H95.out.cell 3 rfl 3 rfl⟩))
            clear hK K
            try simp only [Act.put, List.getElem_toArray, List.getElem_cons_zero, List.getElem_cons_succ, List.setIfInBounds_toArray, List.set_cons_zero, List.set_cons_succ]
            clear hHeld
            have hHeld := hHeld2
            clear hHeld2
            refine wpAnyH_take (i := 8) (oi := _) (v := ?_) rfl (by kernel_rfl) (by kernel_rfl) (by kernel_rfl) (fun _ _ _ h => h) (Or.inl ⟨by rfl, ?_⟩) (by assumption) ?_
            rotate_left
            focus (intro wS hSw; (try dsimp only at hSw); go_simp; (try with_reducible rfl))
            try simp only [Act.put, List.getElem_toArray, List.getElem_cons_zero, List.getElem_cons_succ, List.setIfInBounds_toArray, List.set_cons_zero, List.set_cons_succ]
            refine wpAnyH_take (i := 9) (oi := _) (v := ?_) rfl (by kernel_rfl) (by kernel_rfl) (by kernel_rfl) (fun _ _ _ h => h) (Or.inl ⟨by rfl, ?_⟩) (by assumption) ?_
            rotate_left
            focus (intro wS hSw; (try dsimp only at hSw); go_simp; (try with_reducible rfl))
            try simp only [Act.put, List.getElem_toArray, List.getElem_cons_zero, List.getElem_cons_succ, List.setIfInBounds_toArray, List.set_cons_zero, List.set_cons_succ]
            refine wpAnyH_done (by kernel_rfl) ?_ _
            try clear hHeld
            have z96 := H95.out.cell 0 rfl 0 rfl
            have z97 := H95.out.free 0 rfl 0
            have z98 := H95.out.cell 0 rfl 1 rfl
            have z99 := H95.out.free 0 rfl 1
            have z100 := H95.out.cell 0 rfl 2 rfl
            have z101 := H95.out.free 0 rfl 2
            have z102 := H95.out.cell 0 rfl 3 rfl
            have z103 := H95.out.free 0 rfl 3
            go_wp2_with fail
            clear z96 z97 z98 z99 z100 z101 z102 z103
            have H104 := hid (show St B W [.cells (B + 1 + 1 + 1) #[.int .i64 0, .int .i64 0, .int .i64 0, .slice none 0 0] 35, .cells (B + 1 + 1) #[.int .i64 r0, .int .i64 r1, .int .i64 r2, .int .i64 r3] 33, .cells (B + 1) #[.int .i64 p, .int .i64 f] 38, .cells B #[.int .i64 w, .int .i64 h, .int .i64 mx, .slice a n c] 35] [] ((((w94.setCell ⟨B + 1 + 1 + 1, 0, none⟩ (.int .i64 0)).setCell ⟨B + 1 + 1 + 1, 1, none⟩ (.int .i64 0)).setCell ⟨B + 1 + 1 + 1, 2, none⟩ (.int .i64 0)).setCell ⟨B + 1 + 1 + 1, 3, none⟩ (.slice none 0 0)) from (H95.out.set4 0 rfl (.int .i64 0) (.int .i64 0) (.int .i64 0) (.slice none 0 0)))
            have q105 := H104.out.cell 0 rfl 0 rfl
            have q106 := H104.out.cell 0 rfl 1 rfl
            have q107 := H104.out.cell 0 rfl 2 rfl
            have q108 := H104.out.cell 0 rfl 3 rfl
            refine bodyPost_ret (v := .tuple #[.agg #[.int .i64 0, .int .i64 0, .int .i64 0, .slice none 0 0], .int .i64 8]) ?_ rfl (TPost.no (by unfold spTC; rw [if_neg (fun hc => hc ⟨HNb53.out, HNb62.out⟩), if_neg (by rw [HNk69.out]; have := c70h.out; omega), if_pos (by unfold rIs; exact HX.out)]) (by omega) (by first | exact H104.out.below | exact H104.out.below'))
            simp [results, Try.results21, go_sem, q105, q106, q107, q108]
          | true =>
            have HIN0 := hid hin
            have HX := hid (show (!rEmpty r0 r1 r2 r3 && rInside r0 r1 r2 r3 0 0 w h) = true by rw [← fullInside, hfu, hin]; rfl)
            clear hfu hin
            go_upto_region 6 with fail
            have H109 := hid H68.out.drew
            refine wp_region_held_drew (S := (fun w' => w'.cell? ⟨B + 1 + 1, 0, none⟩ = some (.int .i64 r0) ∧ w'.cell? ⟨B + 1 + 1, 1, none⟩ = some (.int .i64 r1) ∧ w'.cell? ⟨B + 1 + 1, 2, none⟩ = some (.int .i64 r2) ∧ w'.cell? ⟨B + 1 + 1, 3, none⟩ = some (.int .i64 r3) ∧ w'.cell? ⟨B, 0, none⟩ = some (.int .i64 w) ∧ w'.cell? ⟨B, 1, none⟩ = some (.int .i64 h) ∧ w'.cell? ⟨B, 2, none⟩ = some (.int .i64 mx) ∧ w'.cell? ⟨B, 3, none⟩ = some (.slice a n c))) (by kernel_rfl) ⟨H109.out.cell 1 rfl 0 rfl, H109.out.cell 1 rfl 1 rfl, H109.out.cell 1 rfl 2 rfl, H109.out.cell 1 rfl 3 rfl, H109.out.cell 3 rfl 0 rfl, H109.out.cell 3 rfl 1 rfl, H109.out.cell 3 rfl 2 rfl, H109.out.cell 3 rfl 3 rfl⟩ (fun hHeld => ?_)
            generalize w67.drew = k110 at *
            refine wpAnyH_take (i := 0) (oi := _) (v := ?_) rfl (by kernel_rfl) (by kernel_rfl) (by kernel_rfl) (fun _ _ _ h => h) (Or.inl ⟨by rfl, ?_⟩) (by assumption) ?_
            rotate_left
            focus (intro wS hSw; (try dsimp only at hSw); go_simp; (try with_reducible rfl))
            try simp only [Act.put, List.getElem_toArray, List.getElem_cons_zero, List.getElem_cons_succ, List.setIfInBounds_toArray, List.set_cons_zero, List.set_cons_succ]
            refine wpAnyH_ready (rs := [1]) (by kernel_rfl) (by simp) (AllReadyH.cons (o := _) rfl (fun K hK => ?_) AllReadyH.nil)
            go_simp
            go_at_call 46
            refine (qfull_any _ _ _ _ _).mono ?_
            rintro e w111 ⟨rfl, hb⟩
            have H112 := hid (H109.out.call hb)
            clear hb
            rw [HFU.out]
            refine hK.out _ _ ?_ (fun hHeld2 => ?_)
            focus ((try dsimp only); (exact ⟨H112.out.cell 1 rfl 0 rfl, H112.out.cell 1 rfl 1 rfl, H112.out.cell 1 rfl 2 rfl, H112.out.cell 1 rfl 3 rfl, H112.out.cell 3 rfl 0 rfl, H112.out.cell 3 rfl 1 rfl, H112.out.cell 3 rfl 2 rfl, H112.out.cell 3 rfl 3 rfl⟩))
            clear hK K
            try simp only [Act.put, List.getElem_toArray, List.getElem_cons_zero, List.getElem_cons_succ, List.setIfInBounds_toArray, List.set_cons_zero, List.set_cons_succ]
            clear hHeld
            have hHeld := hHeld2
            clear hHeld2
            refine wpAnyH_take (i := 2) (oi := _) (v := ?_) rfl (by kernel_rfl) (by kernel_rfl) (by kernel_rfl) (fun _ _ _ h => h) (Or.inl ⟨by rfl, ?_⟩) (by assumption) ?_
            rotate_left
            focus (intro wS hSw; (try dsimp only at hSw); go_simp; (try with_reducible rfl))
            try simp only [Act.put, List.getElem_toArray, List.getElem_cons_zero, List.getElem_cons_succ, List.setIfInBounds_toArray, List.set_cons_zero, List.set_cons_succ]
            refine wpAnyH_take (i := 3) (oi := _) (v := ?_) rfl (by kernel_rfl) (by kernel_rfl) (by kernel_rfl) (fun _ _ _ h => h) (Or.inl ⟨by rfl, ?_⟩) (by assumption) ?_
            rotate_left
            focus (intro wS hSw; (try dsimp only at hSw); go_simp; (try with_reducible rfl))
            try simp only [Act.put, List.getElem_toArray, List.getElem_cons_zero, List.getElem_cons_succ, List.setIfInBounds_toArray, List.set_cons_zero, List.set_cons_succ]
            refine wpAnyH_take (i := 4) (oi := _) (v := ?_) rfl (by kernel_rfl) (by kernel_rfl) (by kernel_rfl) (fun _ _ _ h => h) (Or.inl ⟨by rfl, ?_⟩) (by assumption) ?_
            rotate_left
            focus (intro wS hSw; (try dsimp only at hSw); go_simp; (try with_reducible rfl))
            try simp only [Act.put, List.getElem_toArray, List.getElem_cons_zero, List.getElem_cons_succ, List.setIfInBounds_toArray, List.set_cons_zero, List.set_cons_succ]
            refine wpAnyH_take (i := 5) (oi := _) (v := ?_) rfl (by kernel_rfl) (by kernel_rfl) (by kernel_rfl) (fun _ _ _ h => h) (Or.inl ⟨by rfl, ?_⟩) (by assumption) ?_
            rotate_left
            focus (intro wS hSw; (try dsimp only at hSw); go_simp; (try with_reducible rfl))
            try simp only [Act.put, List.getElem_toArray, List.getElem_cons_zero, List.getElem_cons_succ, List.setIfInBounds_toArray, List.set_cons_zero, List.set_cons_succ]
            refine wpAnyH_ready (rs := [6]) (by kernel_rfl) (by simp) (AllReadyH.cons (o := _) rfl (fun K hK => ?_) AllReadyH.nil)
            go_simp
            go_at_call 48
            refine (qcover_any _ _ _ _ _ _ _).mono ?_
            rintro e w113 ⟨rfl, hb⟩
            have H114 := hid (H112.out.call hb)
            clear hb
            refine hK.out _ _ ?_ (fun hHeld2 => ?_)
            focus ((try dsimp only); (exact ⟨H114.out.cell 1 rfl 0 rfl, H114.out.cell 1 rfl 1 rfl, H114.out.cell 1 rfl 2 rfl, H114.out.cell 1 rfl 3 rfl, H114.out.cell 3 rfl 0 rfl, H114.out.cell 3 rfl 1 rfl, H114.out.cell 3 rfl 2 rfl, H114.out.cell 3 rfl 3 rfl⟩))
            clear hK K
            try simp only [Act.put, List.getElem_toArray, List.getElem_cons_zero, List.getElem_cons_succ, List.setIfInBounds_toArray, List.set_cons_zero, List.set_cons_succ]
            clear hHeld
            have hHeld := hHeld2
            clear hHeld2
            refine wpAnyH_ready (rs := [7]) (by kernel_rfl) (by simp) (AllReadyH.cons (o := _) rfl (fun K hK => ?_) AllReadyH.nil)
            go_simp
            go_at_call 47
            refine (qinside_any _ _ _ _ _ _ _ _ _).mono ?_
            rintro e w115 ⟨rfl, hb⟩
            have H116 := hid (H114.out.call hb)
            clear hb
            rw [HIN0.out]
            refine hK.out _ _ ?_ (fun hHeld2 => ?_)
            focus ((try dsimp only); (exact ⟨H116.out.cell 1 rfl 0 rfl, H116.out.cell 1 rfl 1 rfl, H116.out.cell 1 rfl 2 rfl, H116.out.cell 1 rfl 3 rfl, H116.out.cell 3 rfl 0 rfl, H116.out.cell 3 rfl 1 rfl, H116.out.cell 3 rfl 2 rfl, H116.out.cell 3 rfl 3 rfl⟩))
            clear hK K
            try simp only [Act.put, List.getElem_toArray, List.getElem_cons_zero, List.getElem_cons_succ, List.setIfInBounds_toArray, List.set_cons_zero, List.set_cons_succ]
            clear hHeld
            have hHeld := hHeld2
            clear hHeld2
            refine wpAnyH_take (i := 8) (oi := _) (v := ?_) rfl (by kernel_rfl) (by kernel_rfl) (by kernel_rfl) (fun _ _ _ h => h) (Or.inl ⟨by rfl, ?_⟩) (by assumption) ?_
            rotate_left
            focus (intro wS hSw; (try dsimp only at hSw); go_simp; (try with_reducible rfl))
            try simp only [Act.put, List.getElem_toArray, List.getElem_cons_zero, List.getElem_cons_succ, List.setIfInBounds_toArray, List.set_cons_zero, List.set_cons_succ]
            refine wpAnyH_take (i := 9) (oi := _) (v := ?_) rfl (by kernel_rfl) (by kernel_rfl) (by kernel_rfl) (fun _ _ _ h => h) (Or.inl ⟨by rfl, ?_⟩) (by assumption) ?_
            rotate_left
            focus (intro wS hSw; (try dsimp only at hSw); go_simp; (try with_reducible rfl))
            try simp only [Act.put, List.getElem_toArray, List.getElem_cons_zero, List.getElem_cons_succ, List.setIfInBounds_toArray, List.set_cons_zero, List.set_cons_succ]
            refine wpAnyH_done (by kernel_rfl) ?_ _
            try clear hHeld
            have HCK := hid (show spCode mx row col shift shift2 out = 0 from by rw [HNk69.out]; omega)
            have HV := hid HNb53.out
            have HB := hid HNb62.out
            obtain ⟨p1, p2, p3, p4, p5, p6, p7⟩ := pOk_iff.1 (pValid_iff.1 HNb53.out).1
            have HIN := hid (show rIs r0 r1 r2 r3 w h = true from by unfold rIs; exact HX.out)
            obtain ⟨i1, i2, i3, i4, i5, i6⟩ := (rIs_iff p1 p2 p3 p4).1 HIN.out
            have HTC := hid (show spTC w h mx zs p f row col shift shift2 out r0 r1 r2 r3 = 0 from by unfold spTC; rw [if_neg (fun hc => hc ⟨HV.out, HB.out⟩), if_neg (by rw [HCK.out]; simp), if_neg (by rw [HIN.out]; simp)])
            obtain ⟨k1, k2, k3, k4, hwr, hwc, sh1, sh2, sh3, sh4, o1, o2, _⟩ := sp_len HCK.out
            rw [HLR.out] at k1 k2
            rw [HLC.out] at k3 k4
            have HWR := hid hwr
            have HWC := hid hwc
            clear hwr hwc
            obtain ⟨rn2, hrn2⟩ : ∃ q, Int.tdiv (rn : Int) 2 = q := ⟨_, rfl⟩
            obtain ⟨cn2, hcn2⟩ : ∃ q, Int.tdiv (cn : Int) 2 = q := ⟨_, rfl⟩
            have HRN2 := hid (show (rn : Int) / 2 = rn2 from by rw [← hrn2, Int.tdiv_eq_ediv_of_nonneg (by omega)])
            have HCN2 := hid (show (cn : Int) / 2 = cn2 from by rw [← hcn2, Int.tdiv_eq_ediv_of_nonneg (by omega)])
            obtain ⟨nb1, nb2, nb3, nb4⟩ : 0 ≤ rn2 ∧ rn2 ≤ 4 ∧ 0 ≤ cn2 ∧ cn2 ≤ 4 := by have h1 := HRN2.out; have h2 := HCN2.out; omega
            obtain ⟨wd, hwd⟩ : ∃ m : Nat, r2 - r0 = m := ⟨(r2 - r0).toNat, by omega⟩
            obtain ⟨ht, hht⟩ : ∃ m : Nat, r3 - r1 = m := ⟨(r3 - r1).toNat, by omega⟩
            have HWD := hid hwd
            have HHT := hid hht
            obtain ⟨wd1, wd2, ht1, ht2⟩ : (wd : Int) ≤ r2 - r0 ∧ r2 - r0 ≤ wd ∧ (ht : Int) ≤ r3 - r1 ∧ r3 - r1 ≤ ht := by omega
            have pq0 := Int.mul_nonneg (a := r2 - r0) (b := r3 - r1) (by omega) (by omega)
            have pq1 := Int.mul_le_mul (a := r2 - r0) (c := w) (b := r3 - r1) (d := h) (by omega) (by omega) (by omega) (by omega)
            obtain ⟨NN, hNN⟩ : ∃ N : Nat, (r2 - r0) * (r3 - r1) = N := ⟨((r2 - r0) * (r3 - r1)).toNat, by omega⟩
            rw [hNN] at pq0 pq1
            have HNN := hid (show ht * wd = NN from by have := hNN; rw [hwd, hht, ← Int.natCast_mul, Nat.mul_comm] at this; omega)
            clear hwd hht
            obtain ⟨F, hF⟩ : ∃ F : Nat → Nat → Int, (fun (k j : Nat) => spP w h zs p f row col shift shift2 out (r0 + (j : Int)) (r1 + (k : Int))) = F := ⟨_, rfl⟩
            have HFV := hid (show ∀ k j : Nat, spP w h zs p f row col shift shift2 out (r0 + (j : Int)) (r1 + (k : Int)) = F k j from fun k j => by rw [← hF])
            have HFF := hid hF
            clear hF
            have hnn2 : IntKind.i64.wrap (NN : Int) = NN := IntWalk.i64_in _ (by omega)
            have hNP : pOk (r2 - r0) (r3 - r1) out = true := pOk_iff.2 ⟨by omega, by omega, by omega, by omega, by rw [hNN]; omega, o1, o2⟩
            have HNP := hid hNP
            have HNI := hid (show ∀ x, nIf (r2 - r0) (r3 - r1) out x = x from fun x => by unfold nIf; rw [if_pos hNP])
            have HNL := hid (show nList (r2 - r0) (r3 - r1) out = List.replicate NN 0 from by unfold nList; rw [if_pos hNP, hNN]; rfl)
            clear hNP hNN hnn2
            have z117 := H116.out.cell 1 rfl 0 rfl
            have z118 := H116.out.cell 1 rfl 1 rfl
            have z119 := H116.out.cell 1 rfl 2 rfl
            have z120 := H116.out.cell 1 rfl 3 rfl
            go_wp2_with fail
            clear z117 z118 z119 z120
            refine (qnew_any _ _ _ _).mono ?_
            rintro e w121 ⟨v122, rfl, ho, hb⟩
            have H123 := hid (H116.out.grow hb ho)
            obtain ⟨v122a, v122c, rfl, _⟩ := ho.slc
            clear ho hb
            have hnl := HNL.out
            rw [hnl] at H123 ⊢
            simp only [List.length_replicate] at H123 ⊢
            rw [HNI.out, HNI.out, HNI.out, HNP.out]
            clear hnl
            obtain ⟨g0, g1, hg0⟩ := (H123.out.own 0 rfl).pos (by rw [List.length_replicate]; have h1 := HNN.out; have h2 := Nat.mul_le_mul (show 1 ≤ ht by omega) (show 1 ≤ wd by omega); omega)
            simp only [List.length_replicate] at hg0
            injection hg0 with e1 e2 e3
            subst e1
            clear e2 e3
            obtain ⟨D124, hD124⟩ : ∃ D, w121.heap.size = D := ⟨_, rfl⟩
            go_upto_region 9 with fail
            have H125 := hid (show St B W [.cells D124 #[.int .i64 (r2 - r0), .int .i64 (r3 - r1), .int .i64 out, .slice (some ⟨g0, 0, none⟩) NN v122c] 35, .own (.slice (some ⟨g0, 0, none⟩) NN v122c) (List.replicate NN 0), .cells (B + 1 + 1 + 1) #[.int .i64 0, .int .i64 0, .int .i64 0, .slice none 0 0] 35, .cells (B + 1 + 1) #[.int .i64 r0, .int .i64 r1, .int .i64 r2, .int .i64 r3] 33, .cells (B + 1) #[.int .i64 p, .int .i64 f] 38, .cells B #[.int .i64 w, .int .i64 h, .int .i64 mx, .slice a n c] 35] [] (w121.alloc (.cells #[.int .i64 (r2 - r0), .int .i64 (r3 - r1), .int .i64 out, .slice (some ⟨g0, 0, none⟩) NN v122c] 35)) from (H123.out.alloc #[.int .i64 (r2 - r0), .int .i64 (r3 - r1), .int .i64 out, .slice (some ⟨g0, 0, none⟩) NN v122c] 35 hD124))
            first | refine gen_code H125.out ?_ | refine gen_list H125.out ?_ | refine gen_calls H125.out ?_
            intro w126 hG
            clear H125
            have H125 := hid hG
            clear hG
            clear hD124
            have z127 := H125.out.cell 3 rfl 0 rfl
            have z128 := H125.out.cell 3 rfl 1 rfl
            have z129 := H125.out.cell 3 rfl 2 rfl
            have z130 := H125.out.cell 3 rfl 3 rfl
            go_wp2_with fail
            clear z127 z128 z129 z130
            go_loopw [21] (fun i wr => ∃ (y : Int) (k : Nat), k ≤ ht ∧ y ≤ r1 + k ∧ r1 + k ≤ y ∧ i = .int .i64 y ∧ St B W [.own (.slice (some ⟨g0, 0, none⟩) NN v122c) (fillL F wd k 0 NN), .cells D124 #[.int .i64 (r2 - r0), .int .i64 (r3 - r1), .int .i64 out, .slice (some ⟨g0, 0, none⟩) NN v122c] 35, .cells (B + 1 + 1 + 1) #[.int .i64 0, .int .i64 0, .int .i64 0, .slice none 0 0] 35, .cells (B + 1 + 1) #[.int .i64 r0, .int .i64 r1, .int .i64 r2, .int .i64 r3] 33, .cells (B + 1) #[.int .i64 p, .int .i64 f] 38, .cells B #[.int .i64 w, .int .i64 h, .int .i64 mx, .slice a n c] 35] [] wr) (fun i _ => (r3 - intOf i).toNat)
            case atStart => exact ⟨r1, 0, by omega, by omega, by omega, rfl, by rw [fillL_zero]; exact H125.out.pick [1, 0, 2, 3, 4, 5] rfl (by decide)⟩
            case round =>
              obtain ⟨y, k, hk, hy1, hy2, rfl, hst⟩ := hrel
              obtain ⟨u131, rfl⟩ : ∃ u131 : World, u131 = wr := ⟨_, rfl⟩
              have H132 := hid hst
              clear hst
              by_cases hkn : k < ht
              · skip
                have hkn' : (y : Int) < r3 := by omega
                have z133 := H132.out.cell 3 rfl 0 rfl
                have z134 := H132.out.cell 3 rfl 1 rfl
                have z135 := H132.out.cell 3 rfl 2 rfl
                have z136 := H132.out.cell 3 rfl 3 rfl
                go_wp2_with fail
                clear z133 z134 z135 z136
                go_loopw [22] (fun i wr => ∃ (x : Int) (j : Nat), j ≤ wd ∧ x ≤ r0 + j ∧ r0 + j ≤ x ∧ i = .int .i64 x ∧ St B W [.own (.slice (some ⟨g0, 0, none⟩) NN v122c) (fillL F wd k j NN), .cells D124 #[.int .i64 (r2 - r0), .int .i64 (r3 - r1), .int .i64 out, .slice (some ⟨g0, 0, none⟩) NN v122c] 35, .cells (B + 1 + 1 + 1) #[.int .i64 0, .int .i64 0, .int .i64 0, .slice none 0 0] 35, .cells (B + 1 + 1) #[.int .i64 r0, .int .i64 r1, .int .i64 r2, .int .i64 r3] 33, .cells (B + 1) #[.int .i64 p, .int .i64 f] 38, .cells B #[.int .i64 w, .int .i64 h, .int .i64 mx, .slice a n c] 35] [] wr) (fun i _ => (r2 - intOf i).toNat)
                case atStart => exact ⟨r0, 0, by omega, by omega, by omega, rfl, H132.out⟩
                case round =>
                  obtain ⟨x, j, hj, hx1, hx2, rfl, hst⟩ := hrel
                  obtain ⟨u137, rfl⟩ : ∃ u137 : World, u137 = wr := ⟨_, rfl⟩
                  have H138 := hid hst
                  clear hst
                  by_cases hjn : j < wd
                  · skip
                    have hjn' : (x : Int) < r2 := by omega
                    have z139 := H138.out.cell 3 rfl 0 rfl
                    have z140 := H138.out.cell 3 rfl 1 rfl
                    have z141 := H138.out.cell 3 rfl 2 rfl
                    have z142 := H138.out.cell 3 rfl 3 rfl
                    go_wp2_with fail
                    clear z139 z140 z141 z142
                    go_loopw [24, 23] (fun i s wr => ∃ m : Nat, m ≤ cn ∧ i = .int .i64 m ∧ s = .int .i64 (spS w h zs p f row col shift x y m) ∧ St B W [.own (.slice (some ⟨g0, 0, none⟩) NN v122c) (fillL F wd k j NN), .cells D124 #[.int .i64 (r2 - r0), .int .i64 (r3 - r1), .int .i64 out, .slice (some ⟨g0, 0, none⟩) NN v122c] 35, .cells (B + 1 + 1 + 1) #[.int .i64 0, .int .i64 0, .int .i64 0, .slice none 0 0] 35, .cells (B + 1 + 1) #[.int .i64 r0, .int .i64 r1, .int .i64 r2, .int .i64 r3] 33, .cells (B + 1) #[.int .i64 p, .int .i64 f] 38, .cells B #[.int .i64 w, .int .i64 h, .int .i64 mx, .slice a n c] 35] [] wr) (fun i _ _ => cn - (intOf i).toNat)
                    case atStart => exact ⟨0, by omega, rfl, rfl, H138.out⟩
                    case round =>
                      obtain ⟨m, hm, rfl, rfl, hst⟩ := hrel
                      obtain ⟨u143, rfl⟩ : ∃ u143 : World, u143 = wr := ⟨_, rfl⟩
                      have H144 := hid hst
                      clear hst
                      obtain ⟨S2a, S2b⟩ := spS_bd w h zs p f row HWC.out shift x y (n := m) (by rw [HLC.out]; exact hm) (by rw [HLC.out]; exact k4)
                      have hsn := spS_bd w h zs p f row HWC.out shift x y (n := m + 1)
                      obtain ⟨S2, hS2⟩ : ∃ xx', spS w h zs p f row col shift x y m = xx' := ⟨_, rfl⟩
                      rw [hS2] at S2a S2b ⊢
                      have HS2 := hid hS2
                      have HSB := hid hsn
                      clear hS2 hsn
                      by_cases hmn : m < cn
                      · skip
                        have hmn' : (m : Int) < cn := by omega
                        go_upto_region 19 with fail
                        obtain ⟨wb, wo, hwa⟩ := row_at HC.out.row (by omega)
                        obtain ⟨wz, hwz⟩ : ∃ xx', col.getD m 0 = xx' := ⟨_, rfl⟩
                        have hzw := hid (show -32767 ≤ wz ∧ wz ≤ 32767 from by rw [← hwz]; exact wAll_iff.1 HWC.out _ (by have := HLC.out; omega))
                        have HWZ := hid hwz
                        clear hwz
                        subst hwa
                        have wa1 : IntKind.i64.wrap cn2 = cn2 := IntWalk.i64_in _ (by omega)
                        have wa3 : IntKind.i64.wrap (y + (m : Int)) = y + m := IntWalk.i64_in _ (by omega)
                        have wa4 : IntKind.i64.wrap (y + (m : Int) - cn2) = y + m - cn2 := IntWalk.i64_in _ (by omega)
                        go_upto_region 19 with fail
                        have H145 := hid H144.out.drew
                        refine wp_region_held_drew (S := (fun w' => w'.cell? ⟨B, 0, none⟩ = some (.int .i64 w) ∧ w'.cell? ⟨B, 1, none⟩ = some (.int .i64 h) ∧ w'.cell? ⟨B, 2, none⟩ = some (.int .i64 mx) ∧ w'.cell? ⟨B, 3, none⟩ = some (.slice a n c) ∧ w'.cell? ⟨B + 1, 0, none⟩ = some (.int .i64 p) ∧ w'.cell? ⟨B + 1, 1, none⟩ = some (.int .i64 f) ∧ w'.cell? ⟨wb, wo + m, none⟩ = some (.int .i64 wz))) (by kernel_rfl) ⟨H145.out.cell 5 rfl 0 rfl, H145.out.cell 5 rfl 1 rfl, H145.out.cell 5 rfl 2 rfl, H145.out.cell 5 rfl 3 rfl, H145.out.cell 4 rfl 0 rfl, H145.out.cell 4 rfl 1 rfl, (by have := row_cell (H145.out.old HC.out).row (j := m) hmn; rw [HWZ.out] at this; exact this)⟩ (fun hHeld => ?_)
                        generalize u143.drew = k146 at *
                        refine wpAnyH_take (i := 0) (oi := _) (v := ?_) rfl (by kernel_rfl) (by kernel_rfl) (by kernel_rfl) (fun _ _ _ h => h) (Or.inl ⟨by rfl, ?_⟩) (by assumption) ?_
                        rotate_left
                        focus (intro wS hSw; (try dsimp only at hSw); go_simp; (try with_reducible rfl))
                        try simp only [Act.put, List.getElem_toArray, List.getElem_cons_zero, List.getElem_cons_succ, List.setIfInBounds_toArray, List.set_cons_zero, List.set_cons_succ]
                        refine wpAnyH_take (i := 1) (oi := _) (v := ?_) rfl (by kernel_rfl) (by kernel_rfl) (by kernel_rfl) (fun _ _ _ h => h) (Or.inl ⟨by rfl, ?_⟩) (by assumption) ?_
                        rotate_left
                        focus (intro wS hSw; (try dsimp only at hSw); go_simp; (try with_reducible rfl))
                        try simp only [Act.put, List.getElem_toArray, List.getElem_cons_zero, List.getElem_cons_succ, List.setIfInBounds_toArray, List.set_cons_zero, List.set_cons_succ]
                        refine wpAnyH_take (i := 2) (oi := _) (v := ?_) rfl (by kernel_rfl) (by kernel_rfl) (by kernel_rfl) (fun _ _ _ h => h) (Or.inl ⟨by rfl, ?_⟩) (by assumption) ?_
                        rotate_left
                        focus (intro wS hSw; (try dsimp only at hSw); go_simp; (try with_reducible rfl))
                        try simp only [Act.put, List.getElem_toArray, List.getElem_cons_zero, List.getElem_cons_succ, List.setIfInBounds_toArray, List.set_cons_zero, List.set_cons_succ]
                        refine wpAnyH_take (i := 3) (oi := _) (v := ?_) rfl (by kernel_rfl) (by kernel_rfl) (by kernel_rfl) (fun _ _ _ h => h) (Or.inl ⟨by rfl, ?_⟩) (by assumption) ?_
                        rotate_left
                        focus (intro wS hSw; (try dsimp only at hSw); go_simp; (try with_reducible rfl))
                        try simp only [Act.put, List.getElem_toArray, List.getElem_cons_zero, List.getElem_cons_succ, List.setIfInBounds_toArray, List.set_cons_zero, List.set_cons_succ]
                        refine wpAnyH_take (i := 4) (oi := _) (v := ?_) rfl (by kernel_rfl) (by kernel_rfl) (by kernel_rfl) (fun _ _ _ h => h) (Or.inl ⟨by rfl, ?_⟩) (by assumption) ?_
                        rotate_left
                        focus (intro wS hSw; (try dsimp only at hSw); go_simp; (try with_reducible rfl))
                        try simp only [Act.put, List.getElem_toArray, List.getElem_cons_zero, List.getElem_cons_succ, List.setIfInBounds_toArray, List.set_cons_zero, List.set_cons_succ]
                        refine wpAnyH_take (i := 5) (oi := _) (v := ?_) rfl (by kernel_rfl) (by kernel_rfl) (by kernel_rfl) (fun _ _ _ h => h) (Or.inl ⟨by rfl, ?_⟩) (by assumption) ?_
                        rotate_left
                        focus (intro wS hSw; (try dsimp only at hSw); go_simp; (try with_reducible rfl))
                        try simp only [Act.put, List.getElem_toArray, List.getElem_cons_zero, List.getElem_cons_succ, List.setIfInBounds_toArray, List.set_cons_zero, List.set_cons_succ]
                        refine wpAnyH_take (i := 6) (oi := _) (v := ?_) rfl (by kernel_rfl) (by kernel_rfl) (by kernel_rfl) (fun _ _ _ h => h) (Or.inl ⟨by rfl, ?_⟩) (by assumption) ?_
                        rotate_left
                        focus (intro wS hSw; (try dsimp only at hSw); go_simp; (try with_reducible rfl))
                        try simp only [Act.put, List.getElem_toArray, List.getElem_cons_zero, List.getElem_cons_succ, List.setIfInBounds_toArray, List.set_cons_zero, List.set_cons_succ]
                        refine wpAnyH_take (i := 7) (oi := _) (v := ?_) rfl (by kernel_rfl) (by kernel_rfl) (by kernel_rfl) (fun _ _ _ h => h) (Or.inl ⟨by rfl, ?_⟩) (by assumption) ?_
                        rotate_left
                        focus (intro wS hSw; (try dsimp only at hSw); go_simp; (try with_reducible rfl))
                        try simp only [Act.put, List.getElem_toArray, List.getElem_cons_zero, List.getElem_cons_succ, List.setIfInBounds_toArray, List.set_cons_zero, List.set_cons_succ]
                        refine wpAnyH_take (i := 8) (oi := _) (v := ?_) rfl (by kernel_rfl) (by kernel_rfl) (by kernel_rfl) (fun _ _ _ h => h) (Or.inl ⟨by rfl, ?_⟩) (by assumption) ?_
                        rotate_left
                        focus (intro wS hSw; (try dsimp only at hSw); go_simp; (try with_reducible rfl))
                        try simp only [Act.put, List.getElem_toArray, List.getElem_cons_zero, List.getElem_cons_succ, List.setIfInBounds_toArray, List.set_cons_zero, List.set_cons_succ]
                        refine wpAnyH_take (i := 9) (oi := _) (v := ?_) rfl (by kernel_rfl) (by kernel_rfl) (by kernel_rfl) (fun _ _ _ h => h) (Or.inl ⟨by rfl, ?_⟩) (by assumption) ?_
                        rotate_left
                        focus (intro wS hSw; (try dsimp only at hSw); go_simp; (try with_reducible rfl))
                        try simp only [Act.put, List.getElem_toArray, List.getElem_cons_zero, List.getElem_cons_succ, List.setIfInBounds_toArray, List.set_cons_zero, List.set_cons_succ]
                        refine wpAnyH_take (i := 10) (oi := _) (v := ?_) rfl (by kernel_rfl) (by kernel_rfl) (by kernel_rfl) (fun _ _ _ h => h) (Or.inl ⟨by rfl, ?_⟩) (by assumption) ?_
                        rotate_left
                        focus (intro wS hSw; (try dsimp only at hSw); go_simp; (try with_reducible rfl))
                        try simp only [Act.put, List.getElem_toArray, List.getElem_cons_zero, List.getElem_cons_succ, List.setIfInBounds_toArray, List.set_cons_zero, List.set_cons_succ]
                        refine wpAnyH_take (i := 11) (oi := _) (v := ?_) rfl (by kernel_rfl) (by kernel_rfl) (by kernel_rfl) (fun _ _ _ h => h) (Or.inl ⟨by rfl, ?_⟩) (by assumption) ?_
                        rotate_left
                        focus (intro wS hSw; (try dsimp only at hSw); go_simp; (try with_reducible rfl))
                        try simp only [Act.put, List.getElem_toArray, List.getElem_cons_zero, List.getElem_cons_succ, List.setIfInBounds_toArray, List.set_cons_zero, List.set_cons_succ]
                        refine wpAnyH_take (i := 12) (oi := _) (v := ?_) rfl (by kernel_rfl) (by kernel_rfl) (by kernel_rfl) (fun _ _ _ h => h) (Or.inl ⟨by rfl, ?_⟩) (by assumption) ?_
                        rotate_left
                        focus (intro wS hSw; (try dsimp only at hSw); go_simp; (try with_reducible rfl))
                        try simp only [Act.put, List.getElem_toArray, List.getElem_cons_zero, List.getElem_cons_succ, List.setIfInBounds_toArray, List.set_cons_zero, List.set_cons_succ]
                        refine wpAnyH_take (i := 13) (oi := _) (v := ?_) rfl (by kernel_rfl) (by kernel_rfl) (by kernel_rfl) (fun _ _ _ h => h) (Or.inl ⟨by rfl, ?_⟩) (by assumption) ?_
                        rotate_left
                        focus (intro wS hSw; (try dsimp only at hSw); go_simp; (try with_reducible rfl))
                        try simp only [Act.put, List.getElem_toArray, List.getElem_cons_zero, List.getElem_cons_succ, List.setIfInBounds_toArray, List.set_cons_zero, List.set_cons_succ]
                        refine wpAnyH_take (i := 14) (oi := _) (v := ?_) rfl (by kernel_rfl) (by kernel_rfl) (by kernel_rfl) (fun _ _ _ h => h) (Or.inl ⟨by rfl, ?_⟩) (by assumption) ?_
                        rotate_left
                        focus (intro wS hSw; (try dsimp only at hSw); go_simp; (try with_reducible rfl))
                        try simp only [Act.put, List.getElem_toArray, List.getElem_cons_zero, List.getElem_cons_succ, List.setIfInBounds_toArray, List.set_cons_zero, List.set_cons_succ]
                        refine wpAnyH_take (i := 15) (oi := _) (v := ?_) rfl (by kernel_rfl) (by kernel_rfl) (by kernel_rfl) (fun _ _ _ h => h) (Or.inl ⟨by rfl, ?_⟩) (by assumption) ?_
                        rotate_left
                        focus (intro wS hSw; (try dsimp only at hSw); go_simp; (try with_reducible rfl))
                        try simp only [Act.put, List.getElem_toArray, List.getElem_cons_zero, List.getElem_cons_succ, List.setIfInBounds_toArray, List.set_cons_zero, List.set_cons_succ]
                        refine wpAnyH_take (i := 16) (oi := _) (v := ?_) rfl (by kernel_rfl) (by kernel_rfl) (by kernel_rfl) (fun _ _ _ h => h) (Or.inl ⟨by rfl, ?_⟩) (by assumption) ?_
                        rotate_left
                        focus (intro wS hSw; (try dsimp only at hSw); go_simp; (try with_reducible rfl))
                        try simp only [Act.put, List.getElem_toArray, List.getElem_cons_zero, List.getElem_cons_succ, List.setIfInBounds_toArray, List.set_cons_zero, List.set_cons_succ]
                        refine wpAnyH_ready (rs := [17]) (by kernel_rfl) (by simp) (AllReadyH.cons (o := _) rfl (fun K hK => ?_) AllReadyH.nil)
                        go_simp
                        go_at_call 50
                        refine (rmid_any _ _ _ _ _ _ _ _ _ _ _ _ _ _ _ _ _ (H145.out.old HS.out) (H145.out.old HR.out) HV.out HB.out ⟨k1, k2⟩ HWR.out (by omega)).mono ?_
                        rintro e w147 ⟨rfl, hb⟩
                        have H148 := hid (H145.out.call hb)
                        clear hb
                        obtain ⟨mv149, hmv149⟩ : ∃ xx', spM w h zs p f row shift x (y + m - cn2) = xx' := ⟨_, rfl⟩
                        rw [hmv149]
                        have HNmv149 := hid hmv149
                        clear hmv149
                        obtain ⟨pz1, pz2⟩ : -17592186044416 ≤ mv149 ∧ mv149 ≤ 17592186044416 := by rw [← HNmv149.out]; exact shV_bd _ _
                        obtain ⟨pr1, pr2⟩ := spT_bd hzw.out ⟨pz1, pz2⟩
                        have HSN0 := hid (show spS w h zs p f row col shift x y (m + 1) = S2 + wz * mv149 from by rw [← HS2.out]; show spS w h zs p f row col shift x y m + col.getD m 0 * spM w h zs p f row shift x (y + (m : Int) - (col.length : Int) / 2) = _; rw [HWZ.out, HLC.out, HCN2.out, HNmv149.out])
                        obtain ⟨PR, hPR⟩ : ∃ xx', wz * mv149 = xx' := ⟨_, rfl⟩
                        rw [hPR] at pr1 pr2 HSN0
                        have hsb := HSB.out (by rw [HLC.out]; omega) (by rw [HLC.out]; exact k4)
                        rw [HSN0.out] at hsb
                        have w8 : IntKind.i64.wrap PR = PR := IntWalk.i64_in _ (by omega)
                        have w9 : IntKind.i64.wrap (S2 + PR) = S2 + PR := IntWalk.i64_in _ (by omega)
                        clear hsb
                        refine hK.out _ _ ?_ (fun hHeld2 => ?_)
                        focus ((try dsimp only); (exact ⟨H148.out.cell 5 rfl 0 rfl, H148.out.cell 5 rfl 1 rfl, H148.out.cell 5 rfl 2 rfl, H148.out.cell 5 rfl 3 rfl, H148.out.cell 4 rfl 0 rfl, H148.out.cell 4 rfl 1 rfl, (by have := row_cell (H148.out.old HC.out).row (j := m) hmn; rw [HWZ.out] at this; exact this)⟩))
                        clear hK K
                        try simp only [Act.put, List.getElem_toArray, List.getElem_cons_zero, List.getElem_cons_succ, List.setIfInBounds_toArray, List.set_cons_zero, List.set_cons_succ]
                        clear hHeld
                        have hHeld := hHeld2
                        clear hHeld2
                        refine wpAnyH_take (i := 18) (oi := _) (v := ?_) rfl (by kernel_rfl) (by kernel_rfl) (by kernel_rfl) (fun _ _ _ h => h) (Or.inl ⟨by rfl, ?_⟩) (by assumption) ?_
                        rotate_left
                        focus (intro wS hSw; (try dsimp only at hSw); go_simp; (try with_reducible rfl))
                        try simp only [Act.put, List.getElem_toArray, List.getElem_cons_zero, List.getElem_cons_succ, List.setIfInBounds_toArray, List.set_cons_zero, List.set_cons_succ]
                        refine wpAnyH_take (i := 19) (oi := _) (v := ?_) rfl (by kernel_rfl) (by kernel_rfl) (by kernel_rfl) (fun _ _ _ h => h) (Or.inl ⟨by rfl, ?_⟩) (by assumption) ?_
                        rotate_left
                        focus (intro wS hSw; (try dsimp only at hSw); go_simp; (try with_reducible rfl))
                        try simp only [Act.put, List.getElem_toArray, List.getElem_cons_zero, List.getElem_cons_succ, List.setIfInBounds_toArray, List.set_cons_zero, List.set_cons_succ]
                        refine wpAnyH_take (i := 20) (oi := _) (v := ?_) rfl (by kernel_rfl) (by kernel_rfl) (by kernel_rfl) (fun _ _ _ h => h) (Or.inl ⟨by rfl, ?_⟩) (by assumption) ?_
                        rotate_left
                        focus (intro wS hSw; (try dsimp only at hSw); go_simp; (try with_reducible rfl))
                        try simp only [Act.put, List.getElem_toArray, List.getElem_cons_zero, List.getElem_cons_succ, List.setIfInBounds_toArray, List.set_cons_zero, List.set_cons_succ]
                        refine wpAnyH_done (by kernel_rfl) ?_ _
                        try clear hHeld
                        clear w8 w9 wa1 wa3 wa4
                        go_wp2_with fail
                        go_roundw
                        case rel => exact ⟨m + 1, by omega, by go_num, by rw [HSN0.out], H148.out⟩
                        case measure => first | (simp [intOf]; omega) | (simp [intOf]; done)
                      · skip
                        have hmn' : ¬ ((m : Int) < cn) := by omega
                        have Hhmn := hid (show m = cn by omega)
                        go_upto_region 20 with fail
                        have HFX := hid (show clV (shV S2 shift2) out = F k j from by rw [← HFV.out]; unfold spP; rw [show r0 + (j : Int) = x by omega, show r1 + (k : Int) = y by omega, HLC.out, ← Hhmn.out, HS2.out])
                        obtain ⟨fv, hfv⟩ : ∃ z, F k j = z := ⟨_, rfl⟩
                        rw [hfv] at HFX
                        obtain ⟨KN, hKN⟩ : ∃ K : Nat, k * wd = K := ⟨_, rfl⟩
                        have kn1 : KN + wd ≤ NN := by
                          have e1 := Nat.mul_le_mul_right wd (show k + 1 ≤ ht by omega)
                          rw [HNN.out, Nat.add_mul, Nat.one_mul, hKN] at e1
                          exact e1
                        obtain ⟨JX, hJX⟩ : ∃ K : Nat, KN + j = K := ⟨_, rfl⟩
                        have HNX := hid (show (fillL F wd k j NN).set JX fv = fillL F wd k (j + 1) NN from by rw [← hfv, ← hJX, ← hKN]; exact fillL_next (by omega))
                        have hyk : y - r1 = (k : Int) := by omega
                        have hkm : (k : Int) * (r2 - r0) = (KN : Int) := by rw [HWD.out, ← hKN]; simp
                        have hxj : (KN : Int) + x - r0 = (JX : Int) := by omega
                        have jx1 : JX < NN := by omega
                        have HFL := hid (show (fillL F wd k j NN).length = NN from fillL_len (by omega))
                        have wk1 : IntKind.i64.wrap (k : Int) = k := IntWalk.i64_in _ (by omega)
                        have wk2 : IntKind.i64.wrap (KN : Int) = KN := IntWalk.i64_in _ (by omega)
                        have wk3 : IntKind.i64.wrap ((KN : Int) + x) = (KN : Int) + x := IntWalk.i64_in _ (by omega)
                        have wk4 : IntKind.i64.wrap (JX : Int) = JX := IntWalk.i64_in _ (by omega)
                        have jx2 : (JX : Int) < NN := by omega
                        clear hfv hKN hJX
                        have H150 := hid H144.out.drew
                        refine wp_region_held_drew (S := (fun w' => w'.cell? ⟨D124, 0, none⟩ = some (.int .i64 (r2 - r0)) ∧ w'.cell? ⟨D124, 1, none⟩ = some (.int .i64 (r3 - r1)) ∧ w'.cell? ⟨D124, 2, none⟩ = some (.int .i64 out) ∧ w'.cell? ⟨D124, 3, none⟩ = some (.slice (some ⟨g0, 0, none⟩) NN v122c) ∧ w'.cell? ⟨B + 1 + 1, 0, none⟩ = some (.int .i64 r0) ∧ w'.cell? ⟨B + 1 + 1, 1, none⟩ = some (.int .i64 r1) ∧ w'.cell? ⟨B + 1 + 1, 2, none⟩ = some (.int .i64 r2) ∧ w'.cell? ⟨B + 1 + 1, 3, none⟩ = some (.int .i64 r3))) (by kernel_rfl) ⟨H150.out.cell 1 rfl 0 rfl, H150.out.cell 1 rfl 1 rfl, H150.out.cell 1 rfl 2 rfl, H150.out.cell 1 rfl 3 rfl, H150.out.cell 3 rfl 0 rfl, H150.out.cell 3 rfl 1 rfl, H150.out.cell 3 rfl 2 rfl, H150.out.cell 3 rfl 3 rfl⟩ (fun hHeld => ?_)
                        generalize u143.drew = k151 at *
                        refine wpAnyH_take (i := 0) (oi := _) (v := ?_) rfl (by kernel_rfl) (by kernel_rfl) (by kernel_rfl) (fun _ _ _ h => h) (Or.inl ⟨by rfl, ?_⟩) (by assumption) ?_
                        rotate_left
                        focus (intro wS hSw; (try dsimp only at hSw); go_simp; (try with_reducible rfl))
                        try simp only [Act.put, List.getElem_toArray, List.getElem_cons_zero, List.getElem_cons_succ, List.setIfInBounds_toArray, List.set_cons_zero, List.set_cons_succ]
                        refine wpAnyH_take (i := 1) (oi := _) (v := ?_) rfl (by kernel_rfl) (by kernel_rfl) (by kernel_rfl) (fun _ _ _ h => h) (Or.inl ⟨by rfl, ?_⟩) (by assumption) ?_
                        rotate_left
                        focus (intro wS hSw; (try dsimp only at hSw); go_simp; (try with_reducible rfl))
                        try simp only [Act.put, List.getElem_toArray, List.getElem_cons_zero, List.getElem_cons_succ, List.setIfInBounds_toArray, List.set_cons_zero, List.set_cons_succ]
                        refine wpAnyH_take (i := 2) (oi := _) (v := ?_) rfl (by kernel_rfl) (by kernel_rfl) (by kernel_rfl) (fun _ _ _ h => h) (Or.inl ⟨by rfl, ?_⟩) (by assumption) ?_
                        rotate_left
                        focus (intro wS hSw; (try dsimp only at hSw); go_simp; (try with_reducible rfl))
                        try simp only [Act.put, List.getElem_toArray, List.getElem_cons_zero, List.getElem_cons_succ, List.setIfInBounds_toArray, List.set_cons_zero, List.set_cons_succ]
                        refine wpAnyH_take (i := 3) (oi := _) (v := ?_) rfl (by kernel_rfl) (by kernel_rfl) (by kernel_rfl) (fun _ _ _ h => h) (Or.inl ⟨by rfl, ?_⟩) (by assumption) ?_
                        rotate_left
                        focus (intro wS hSw; (try dsimp only at hSw); go_simp; (try with_reducible rfl))
                        try simp only [Act.put, List.getElem_toArray, List.getElem_cons_zero, List.getElem_cons_succ, List.setIfInBounds_toArray, List.set_cons_zero, List.set_cons_succ]
                        refine wpAnyH_take (i := 4) (oi := _) (v := ?_) rfl (by kernel_rfl) (by kernel_rfl) (by kernel_rfl) (fun _ _ _ h => h) (Or.inl ⟨by rfl, ?_⟩) (by assumption) ?_
                        rotate_left
                        focus (intro wS hSw; (try dsimp only at hSw); go_simp; (try with_reducible rfl))
                        try simp only [Act.put, List.getElem_toArray, List.getElem_cons_zero, List.getElem_cons_succ, List.setIfInBounds_toArray, List.set_cons_zero, List.set_cons_succ]
                        refine wpAnyH_take (i := 5) (oi := _) (v := ?_) rfl (by kernel_rfl) (by kernel_rfl) (by kernel_rfl) (fun _ _ _ h => h) (Or.inl ⟨by rfl, ?_⟩) (by assumption) ?_
                        rotate_left
                        focus (intro wS hSw; (try dsimp only at hSw); go_simp; (try with_reducible rfl))
                        try simp only [Act.put, List.getElem_toArray, List.getElem_cons_zero, List.getElem_cons_succ, List.setIfInBounds_toArray, List.set_cons_zero, List.set_cons_succ]
                        refine wpAnyH_take (i := 6) (oi := _) (v := ?_) rfl (by kernel_rfl) (by kernel_rfl) (by kernel_rfl) (fun _ _ _ h => h) (Or.inl ⟨by rfl, ?_⟩) (by assumption) ?_
                        rotate_left
                        focus (intro wS hSw; (try dsimp only at hSw); go_simp; (try with_reducible rfl))
                        try simp only [Act.put, List.getElem_toArray, List.getElem_cons_zero, List.getElem_cons_succ, List.setIfInBounds_toArray, List.set_cons_zero, List.set_cons_succ]
                        refine wpAnyH_take (i := 7) (oi := _) (v := ?_) rfl (by kernel_rfl) (by kernel_rfl) (by kernel_rfl) (fun _ _ _ h => h) (Or.inl ⟨by rfl, ?_⟩) (by assumption) ?_
                        rotate_left
                        focus (intro wS hSw; (try dsimp only at hSw); go_simp; (try with_reducible rfl))
                        try simp only [Act.put, List.getElem_toArray, List.getElem_cons_zero, List.getElem_cons_succ, List.setIfInBounds_toArray, List.set_cons_zero, List.set_cons_succ]
                        refine wpAnyH_take (i := 8) (oi := _) (v := ?_) rfl (by kernel_rfl) (by kernel_rfl) (by kernel_rfl) (fun _ _ _ h => h) (Or.inl ⟨by rfl, ?_⟩) (by assumption) ?_
                        rotate_left
                        focus (intro wS hSw; (try dsimp only at hSw); go_simp; (try with_reducible rfl))
                        try simp only [Act.put, List.getElem_toArray, List.getElem_cons_zero, List.getElem_cons_succ, List.setIfInBounds_toArray, List.set_cons_zero, List.set_cons_succ]
                        refine wpAnyH_take (i := 9) (oi := _) (v := ?_) rfl (by kernel_rfl) (by kernel_rfl) (by kernel_rfl) (fun _ _ _ h => h) (Or.inl ⟨by rfl, ?_⟩) (by assumption) ?_
                        rotate_left
                        focus (intro wS hSw; (try dsimp only at hSw); go_simp; (try with_reducible rfl))
                        try simp only [Act.put, List.getElem_toArray, List.getElem_cons_zero, List.getElem_cons_succ, List.setIfInBounds_toArray, List.set_cons_zero, List.set_cons_succ]
                        refine wpAnyH_take (i := 10) (oi := _) (v := ?_) rfl (by kernel_rfl) (by kernel_rfl) (by kernel_rfl) (fun _ _ _ h => h) (Or.inl ⟨by rfl, ?_⟩) (by assumption) ?_
                        rotate_left
                        focus (intro wS hSw; (try dsimp only at hSw); go_simp; (try with_reducible rfl))
                        try simp only [Act.put, List.getElem_toArray, List.getElem_cons_zero, List.getElem_cons_succ, List.setIfInBounds_toArray, List.set_cons_zero, List.set_cons_succ]
                        refine wpAnyH_take (i := 11) (oi := _) (v := ?_) rfl (by kernel_rfl) (by kernel_rfl) (by kernel_rfl) (fun _ _ _ h => h) (Or.inl ⟨by rfl, ?_⟩) (by assumption) ?_
                        rotate_left
                        focus (intro wS hSw; (try dsimp only at hSw); go_simp; (try with_reducible rfl))
                        try simp only [Act.put, List.getElem_toArray, List.getElem_cons_zero, List.getElem_cons_succ, List.setIfInBounds_toArray, List.set_cons_zero, List.set_cons_succ]
                        refine wpAnyH_take (i := 12) (oi := _) (v := ?_) rfl (by kernel_rfl) (by kernel_rfl) (by kernel_rfl) (fun _ _ _ h => h) (Or.inl ⟨by rfl, ?_⟩) (by assumption) ?_
                        rotate_left
                        focus (intro wS hSw; (try dsimp only at hSw); go_simp; (try with_reducible rfl))
                        try simp only [Act.put, List.getElem_toArray, List.getElem_cons_zero, List.getElem_cons_succ, List.setIfInBounds_toArray, List.set_cons_zero, List.set_cons_succ]
                        refine wpAnyH_take (i := 13) (oi := _) (v := ?_) rfl (by kernel_rfl) (by kernel_rfl) (by kernel_rfl) (fun _ _ _ h => h) (Or.inl ⟨by rfl, ?_⟩) (by assumption) ?_
                        rotate_left
                        focus (intro wS hSw; (try dsimp only at hSw); go_simp; (try with_reducible rfl))
                        try simp only [Act.put, List.getElem_toArray, List.getElem_cons_zero, List.getElem_cons_succ, List.setIfInBounds_toArray, List.set_cons_zero, List.set_cons_succ]
                        refine wpAnyH_take (i := 14) (oi := _) (v := ?_) rfl (by kernel_rfl) (by kernel_rfl) (by kernel_rfl) (fun _ _ _ h => h) (Or.inl ⟨by rfl, ?_⟩) (by assumption) ?_
                        rotate_left
                        focus (intro wS hSw; (try dsimp only at hSw); go_simp; (try with_reducible rfl))
                        try simp only [Act.put, List.getElem_toArray, List.getElem_cons_zero, List.getElem_cons_succ, List.setIfInBounds_toArray, List.set_cons_zero, List.set_cons_succ]
                        refine wpAnyH_take (i := 15) (oi := _) (v := ?_) rfl (by kernel_rfl) (by kernel_rfl) (by kernel_rfl) (fun _ _ _ h => h) (Or.inl ⟨by rfl, ?_⟩) (by assumption) ?_
                        rotate_left
                        focus (intro wS hSw; (try dsimp only at hSw); go_simp; (try with_reducible rfl))
                        try simp only [Act.put, List.getElem_toArray, List.getElem_cons_zero, List.getElem_cons_succ, List.setIfInBounds_toArray, List.set_cons_zero, List.set_cons_succ]
                        refine wpAnyH_take (i := 17) (oi := _) (v := ?_) rfl (by kernel_rfl) (by kernel_rfl) (by kernel_rfl) (fun _ _ _ h => h) (Or.inl ⟨by rfl, ?_⟩) (by assumption) ?_
                        rotate_left
                        focus (intro wS hSw; (try dsimp only at hSw); go_simp; (try with_reducible rfl))
                        try simp only [Act.put, List.getElem_toArray, List.getElem_cons_zero, List.getElem_cons_succ, List.setIfInBounds_toArray, List.set_cons_zero, List.set_cons_succ]
                        refine wpAnyH_ready (rs := [16]) (by kernel_rfl) (by simp) (AllReadyH.cons (o := _) rfl (fun K hK => ?_) AllReadyH.nil)
                        go_simp
                        go_at_call 52
                        refine (rshift_any _ _ _).mono ?_
                        rintro e w152 ⟨rfl, hsw⟩
                        have hsw2 : k151 = w152 := by first | exact hsw | exact hsw.symm
                        clear hsw
                        subst hsw2
                        obtain ⟨sv153, hsv153⟩ : ∃ xx', shV S2 shift2 = xx' := ⟨_, rfl⟩
                        rw [hsv153]
                        have HNsv153 := hid hsv153
                        clear hsv153
                        refine hK.out _ _ ?_ (fun hHeld2 => ?_)
                        focus ((try dsimp only); (exact ⟨H150.out.cell 1 rfl 0 rfl, H150.out.cell 1 rfl 1 rfl, H150.out.cell 1 rfl 2 rfl, H150.out.cell 1 rfl 3 rfl, H150.out.cell 3 rfl 0 rfl, H150.out.cell 3 rfl 1 rfl, H150.out.cell 3 rfl 2 rfl, H150.out.cell 3 rfl 3 rfl⟩))
                        clear hK K
                        try simp only [Act.put, List.getElem_toArray, List.getElem_cons_zero, List.getElem_cons_succ, List.setIfInBounds_toArray, List.set_cons_zero, List.set_cons_succ]
                        clear hHeld
                        have hHeld := hHeld2
                        clear hHeld2
                        refine wpAnyH_ready (rs := [18]) (by kernel_rfl) (by simp) (AllReadyH.cons (o := _) rfl (fun K hK => ?_) AllReadyH.nil)
                        go_simp
                        go_at_call 51
                        refine (rclamp_any _ _ _).mono ?_
                        rintro e w154 ⟨rfl, hsw⟩
                        have hsw2 : k151 = w154 := by first | exact hsw | exact hsw.symm
                        clear hsw
                        subst hsw2
                        rw [show clV sv153 out = fv from by rw [← HNsv153.out]; exact HFX.out]
                        refine hK.out _ _ ?_ (fun hHeld2 => ?_)
                        focus ((try dsimp only); (exact ⟨H150.out.cell 1 rfl 0 rfl, H150.out.cell 1 rfl 1 rfl, H150.out.cell 1 rfl 2 rfl, H150.out.cell 1 rfl 3 rfl, H150.out.cell 3 rfl 0 rfl, H150.out.cell 3 rfl 1 rfl, H150.out.cell 3 rfl 2 rfl, H150.out.cell 3 rfl 3 rfl⟩))
                        clear hK K
                        try simp only [Act.put, List.getElem_toArray, List.getElem_cons_zero, List.getElem_cons_succ, List.setIfInBounds_toArray, List.set_cons_zero, List.set_cons_succ]
                        clear hHeld
                        have hHeld := hHeld2
                        clear hHeld2
                        refine wpAnyH_take (i := 19) (oi := _) (v := ?_) rfl (by kernel_rfl) (by kernel_rfl) (by kernel_rfl) (fun _ _ _ h => h) (Or.inl ⟨by rfl, ?_⟩) (by assumption) ?_
                        rotate_left
                        focus (intro wS hSw; (try dsimp only at hSw); go_simp; (try with_reducible rfl))
                        try simp only [Act.put, List.getElem_toArray, List.getElem_cons_zero, List.getElem_cons_succ, List.setIfInBounds_toArray, List.set_cons_zero, List.set_cons_succ]
                        refine wpAnyH_ready (rs := [20]) (by kernel_rfl) (by simp) (AllReadyH.cons (o := _) rfl (fun K hK => ?_) AllReadyH.nil)
                        obtain ⟨s155, s156⟩ := H150.out.get 0 rfl (j := JX) (by rw [HFL.out]; exact jx1)
                        have H157 := hid (show St B W [.own (.slice (some ⟨g0, 0, none⟩) NN v122c) ((fillL F wd k j NN).set JX fv), .cells D124 #[.int .i64 (r2 - r0), .int .i64 (r3 - r1), .int .i64 out, .slice (some ⟨g0, 0, none⟩) NN v122c] 35, .cells (B + 1 + 1 + 1) #[.int .i64 0, .int .i64 0, .int .i64 0, .slice none 0 0] 35, .cells (B + 1 + 1) #[.int .i64 r0, .int .i64 r1, .int .i64 r2, .int .i64 r3] 33, .cells (B + 1) #[.int .i64 p, .int .i64 f] 38, .cells B #[.int .i64 w, .int .i64 h, .int .i64 mx, .slice a n c] 35] [] (k151.setCell ⟨g0, JX, none⟩ (.int .i64 fv)) from (H150.out.store 0 rfl JX fv))
                        go_simp
                        refine hK.out _ _ ?_ (fun hHeld2 => ?_)
                        focus ((try dsimp only); (exact ⟨H157.out.cell 1 rfl 0 rfl, H157.out.cell 1 rfl 1 rfl, H157.out.cell 1 rfl 2 rfl, H157.out.cell 1 rfl 3 rfl, H157.out.cell 3 rfl 0 rfl, H157.out.cell 3 rfl 1 rfl, H157.out.cell 3 rfl 2 rfl, H157.out.cell 3 rfl 3 rfl⟩))
                        clear hK K hHeld
                        try simp only [Act.put, List.getElem_toArray, List.getElem_cons_zero, List.getElem_cons_succ, List.setIfInBounds_toArray, List.set_cons_zero, List.set_cons_succ]
                        clear s155 s156
                        generalize (k151.setCell ⟨g0, JX, none⟩ (.int .i64 fv)) = k158 at *
                        have hHeld := hHeld2
                        clear hHeld2
                        refine wpAnyH_done (by kernel_rfl) ?_ _
                        try clear hHeld
                        clear hyk hkm hxj wk1 wk2 wk3 wk4
                        go_wp2_with fail
                        go_roundw
                        case rel => exact ⟨x + 1, j + 1, by omega, by omega, by omega, by go_num, by rw [← HNX.out]; exact H157.out⟩
                        case measure => first | (simp [intOf]; omega) | (simp [intOf]; done)
                  · skip
                    have hjn' : ¬ ((x : Int) < r2) := by omega
                    have Hhjn := hid (show j = wd by omega)
                    have z159 := H138.out.cell 3 rfl 0 rfl
                    have z160 := H138.out.cell 3 rfl 1 rfl
                    have z161 := H138.out.cell 3 rfl 2 rfl
                    have z162 := H138.out.cell 3 rfl 3 rfl
                    go_wp2_with fail
                    clear z159 z160 z161 z162
                    go_roundw
                    case rel => exact ⟨y + 1, k + 1, by omega, by omega, by omega, by go_num, by rw [show fillL F wd (k + 1) 0 NN = fillL F wd k j NN by rw [← fillL_row, Hhjn.out]]; exact H138.out⟩
                    case measure => first | (simp [intOf]; omega) | (simp [intOf]; done)
              · skip
                have hkn' : ¬ ((y : Int) < r3) := by omega
                have Hhkn := hid (show k = ht by omega)
                have HKE := hid (show k = ht by omega)
                have z163 := H132.out.cell 3 rfl 0 rfl
                have z164 := H132.out.cell 3 rfl 1 rfl
                have z165 := H132.out.cell 3 rfl 2 rfl
                have z166 := H132.out.cell 3 rfl 3 rfl
                have z167 := H132.out.cell 1 rfl 0 rfl
                have z168 := H132.out.cell 1 rfl 1 rfl
                have z169 := H132.out.cell 1 rfl 2 rfl
                have z170 := H132.out.cell 1 rfl 3 rfl
                have z171 := H132.out.cell 2 rfl 0 rfl
                have z172 := H132.out.free 2 rfl 0
                have z173 := H132.out.cell 2 rfl 1 rfl
                have z174 := H132.out.free 2 rfl 1
                have z175 := H132.out.cell 2 rfl 2 rfl
                have z176 := H132.out.free 2 rfl 2
                have z177 := H132.out.cell 2 rfl 3 rfl
                have z178 := H132.out.free 2 rfl 3
                go_wp2_with fail
                clear z163 z164 z165 z166 z167 z168 z169 z170 z171 z172 z173 z174 z175 z176 z177 z178
                have H179 := hid (show St B W [.own (.slice (some ⟨g0, 0, none⟩) NN v122c) (fillL F wd k 0 NN), .cells D124 #[.int .i64 (r2 - r0), .int .i64 (r3 - r1), .int .i64 out, .slice (some ⟨g0, 0, none⟩) NN v122c] 35, .cells (B + 1 + 1 + 1) #[.int .i64 (r2 - r0), .int .i64 (r3 - r1), .int .i64 out, .slice (some ⟨g0, 0, none⟩) NN v122c] 35, .cells (B + 1 + 1) #[.int .i64 r0, .int .i64 r1, .int .i64 r2, .int .i64 r3] 33, .cells (B + 1) #[.int .i64 p, .int .i64 f] 38, .cells B #[.int .i64 w, .int .i64 h, .int .i64 mx, .slice a n c] 35] [] ((((u131.setCell ⟨B + 1 + 1 + 1, 0, none⟩ (.int .i64 (r2 - r0))).setCell ⟨B + 1 + 1 + 1, 1, none⟩ (.int .i64 (r3 - r1))).setCell ⟨B + 1 + 1 + 1, 2, none⟩ (.int .i64 out)).setCell ⟨B + 1 + 1 + 1, 3, none⟩ (.slice (some ⟨g0, 0, none⟩) NN v122c)) from (H132.out.set4 2 rfl (.int .i64 (r2 - r0)) (.int .i64 (r3 - r1)) (.int .i64 out) (.slice (some ⟨g0, 0, none⟩) NN v122c)))
                have HFLL := hid (show fillL F wd k 0 NN = gridL F wd k 0 from by rw [← HNN.out, ← HKE.out]; exact fillL_all F wd k)
                have HRES := hid (show spL w h zs p f row col shift shift2 out r0 r1 r2 r3 = fillL F wd k 0 NN from by rw [HFLL.out]; unfold spL rG; rw [HFF.out, HWD.out, HHT.out, Int.toNat_natCast, Int.toNat_natCast, ← HKE.out])
                have q180 := H179.out.cell 2 rfl 0 rfl
                have q181 := H179.out.cell 2 rfl 1 rfl
                have q182 := H179.out.cell 2 rfl 2 rfl
                have q183 := H179.out.cell 2 rfl 3 rfl
                refine bodyPost_ret (v := .tuple #[.agg #[.int .i64 (r2 - r0), .int .i64 (r3 - r1), .int .i64 out, .slice (some ⟨g0, 0, none⟩) NN v122c], .int .i64 0]) ?_ rfl (TPost.yes HTC.out (by rw [hB, HRES.out]; exact H179.out.own 0 rfl) (by first | exact H179.out.below | exact H179.out.below'))
                simp [results, Try.results21, go_sem, q180, q181, q182, q183]
      · have c70a : ((k69 : Int) == (0)) = false := by simpa using c70
        have c70b : ((k69 : Int) != (0)) = true := by simpa using c70
        have c70h := hid c70
        clear c70
        have z184 := H68.out.cell 0 rfl 0 rfl
        have z185 := H68.out.free 0 rfl 0
        have z186 := H68.out.cell 0 rfl 1 rfl
        have z187 := H68.out.free 0 rfl 1
        have z188 := H68.out.cell 0 rfl 2 rfl
        have z189 := H68.out.free 0 rfl 2
        have z190 := H68.out.cell 0 rfl 3 rfl
        have z191 := H68.out.free 0 rfl 3
        go_wp2_with fail
        clear z184 z185 z186 z187 z188 z189 z190 z191
        have H192 := hid (show St B W [.cells (B + 1 + 1 + 1) #[.int .i64 0, .int .i64 0, .int .i64 0, .slice none 0 0] 35, .cells (B + 1 + 1) #[.int .i64 r0, .int .i64 r1, .int .i64 r2, .int .i64 r3] 33, .cells (B + 1) #[.int .i64 p, .int .i64 f] 38, .cells B #[.int .i64 w, .int .i64 h, .int .i64 mx, .slice a n c] 35] [] ((((w67.setCell ⟨B + 1 + 1 + 1, 0, none⟩ (.int .i64 0)).setCell ⟨B + 1 + 1 + 1, 1, none⟩ (.int .i64 0)).setCell ⟨B + 1 + 1 + 1, 2, none⟩ (.int .i64 0)).setCell ⟨B + 1 + 1 + 1, 3, none⟩ (.slice none 0 0)) from (H68.out.set4 0 rfl (.int .i64 0) (.int .i64 0) (.int .i64 0) (.slice none 0 0)))
        have q193 := H192.out.cell 0 rfl 0 rfl
        have q194 := H192.out.cell 0 rfl 1 rfl
        have q195 := H192.out.cell 0 rfl 2 rfl
        have q196 := H192.out.cell 0 rfl 3 rfl
        refine bodyPost_ret (v := .tuple #[.agg #[.int .i64 0, .int .i64 0, .int .i64 0, .slice none 0 0], .int .i64 k69]) ?_ rfl (TPost.no (by unfold spTC; rw [if_neg (fun hc => hc ⟨HNb53.out, HNb62.out⟩), if_pos (by rw [HNk69.out]; exact c70h.out), HNk69.out]) c70h.out (by first | exact H192.out.below | exact H192.out.below'))
        simp [results, Try.results21, go_sem, q193, q194, q195, q196]
    | false =>
      have z197 := H61.out.cell 0 rfl 0 rfl
      have z198 := H61.out.free 0 rfl 0
      have z199 := H61.out.cell 0 rfl 1 rfl
      have z200 := H61.out.free 0 rfl 1
      have z201 := H61.out.cell 0 rfl 2 rfl
      have z202 := H61.out.free 0 rfl 2
      have z203 := H61.out.cell 0 rfl 3 rfl
      have z204 := H61.out.free 0 rfl 3
      go_wp2_with fail
      clear z197 z198 z199 z200 z201 z202 z203 z204
      have H205 := hid (show St B W [.cells (B + 1 + 1 + 1) #[.int .i64 0, .int .i64 0, .int .i64 0, .slice none 0 0] 35, .cells (B + 1 + 1) #[.int .i64 r0, .int .i64 r1, .int .i64 r2, .int .i64 r3] 33, .cells (B + 1) #[.int .i64 p, .int .i64 f] 38, .cells B #[.int .i64 w, .int .i64 h, .int .i64 mx, .slice a n c] 35] [] ((((w60.setCell ⟨B + 1 + 1 + 1, 0, none⟩ (.int .i64 0)).setCell ⟨B + 1 + 1 + 1, 1, none⟩ (.int .i64 0)).setCell ⟨B + 1 + 1 + 1, 2, none⟩ (.int .i64 0)).setCell ⟨B + 1 + 1 + 1, 3, none⟩ (.slice none 0 0)) from (H61.out.set4 0 rfl (.int .i64 0) (.int .i64 0) (.int .i64 0) (.slice none 0 0)))
      have q206 := H205.out.cell 0 rfl 0 rfl
      have q207 := H205.out.cell 0 rfl 1 rfl
      have q208 := H205.out.cell 0 rfl 2 rfl
      have q209 := H205.out.cell 0 rfl 3 rfl
      refine bodyPost_ret (v := .tuple #[.agg #[.int .i64 0, .int .i64 0, .int .i64 0, .slice none 0 0], .int .i64 1]) ?_ rfl (TPost.no (by unfold spTC; rw [if_pos (by intro hc; rw [HNb62.out] at hc; simp at hc)]) (by omega) (by first | exact H205.out.below | exact H205.out.below'))
      simp [results, Try.results21, go_sem, q206, q207, q208, q209]
  | false =>
    have z210 := H52.out.cell 0 rfl 0 rfl
    have z211 := H52.out.free 0 rfl 0
    have z212 := H52.out.cell 0 rfl 1 rfl
    have z213 := H52.out.free 0 rfl 1
    have z214 := H52.out.cell 0 rfl 2 rfl
    have z215 := H52.out.free 0 rfl 2
    have z216 := H52.out.cell 0 rfl 3 rfl
    have z217 := H52.out.free 0 rfl 3
    go_wp2_with fail
    clear z210 z211 z212 z213 z214 z215 z216 z217
    have H218 := hid (show St B W [.cells (B + 1 + 1 + 1) #[.int .i64 0, .int .i64 0, .int .i64 0, .slice none 0 0] 35, .cells (B + 1 + 1) #[.int .i64 r0, .int .i64 r1, .int .i64 r2, .int .i64 r3] 33, .cells (B + 1) #[.int .i64 p, .int .i64 f] 38, .cells B #[.int .i64 w, .int .i64 h, .int .i64 mx, .slice a n c] 35] [] ((((w51.setCell ⟨B + 1 + 1 + 1, 0, none⟩ (.int .i64 0)).setCell ⟨B + 1 + 1 + 1, 1, none⟩ (.int .i64 0)).setCell ⟨B + 1 + 1 + 1, 2, none⟩ (.int .i64 0)).setCell ⟨B + 1 + 1 + 1, 3, none⟩ (.slice none 0 0)) from (H52.out.set4 0 rfl (.int .i64 0) (.int .i64 0) (.int .i64 0) (.slice none 0 0)))
    have q219 := H218.out.cell 0 rfl 0 rfl
    have q220 := H218.out.cell 0 rfl 1 rfl
    have q221 := H218.out.cell 0 rfl 2 rfl
    have q222 := H218.out.cell 0 rfl 3 rfl
    refine bodyPost_ret (v := .tuple #[.agg #[.int .i64 0, .int .i64 0, .int .i64 0, .slice none 0 0], .int .i64 1]) ?_ rfl (TPost.no (by unfold spTC; rw [if_pos (by intro hc; rw [HNb53.out] at hc; simp at hc)]) (by omega) (by first | exact H218.out.below | exact H218.out.below'))
    simp [results, Try.results21, go_sem, q219, q220, q221, q222]
end Go.Proofs.Ytfdkgjphnlijiaa
