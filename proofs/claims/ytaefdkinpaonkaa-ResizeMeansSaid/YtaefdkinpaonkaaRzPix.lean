/-
  Contracts: the pixels of planes in a resize, and the sums of taps in the reference.
-/
import Derived.Test.YtaefdkinpaonkaaRzLaw
import Derived.Test.YtaefdkinpaonkaaCvPix
namespace Go.Proofs.Ytaefdkinpaonkaa
open Go.RowKit
attribute [local go_sem ↓] Go.wp_at_zero Go.wp_at_succ
set_option linter.unusedVariables false
set_option linter.unusedSimpArgs false

set_option maxRecDepth 100000 in
set_option maxHeartbeats 3200000 in
theorem rzpixel_any (w h mx : Int) (a : Option Addr) (n c : Nat) (zs : List Int) (p f x y : Int) (W : World) (hs : Slc W a n c zs) (hv : pValid w h mx zs = true) :
    Calls Try.prog 43 #[.agg #[.int .i64 w, .int .i64 h, .int .i64 mx, .slice a n c], .agg #[.int .i64 p, .int .i64 f], .int .i64 x, .int .i64 y] W fun e w' => e = .returned (.int .i64 (pPix w h zs p f x y)) ∧ Below W.heap.size W w' := by
  obtain ⟨B, hB⟩ : ∃ B, W.heap.size = B := ⟨_, rfl⟩
  have HI0 := hid (St.init hB)
  have HS := hid hs
  have HL := hid hs.len
  have HV := hid hv
  obtain ⟨q1, q2, q3, q4, _⟩ := pOk_iff.1 (pValid_iff.1 hv).1
  clear hs hv
  go_enter Try.func43, Try.ntmps43
  go_upto_region 1 with fail
  have H1 := hid (show St B W [.cells (B + 1) #[.int .i64 p, .int .i64 f] 43, .cells B #[.int .i64 w, .int .i64 h, .int .i64 mx, .slice a n c] 40] [] ((W.alloc (.cells #[.int .i64 w, .int .i64 h, .int .i64 mx, .slice a n c] 40)).alloc (.cells #[.int .i64 p, .int .i64 f] 43)) from ((HI0.out.alloc #[.int .i64 w, .int .i64 h, .int .i64 mx, .slice a n c] 40 hB).alloc #[.int .i64 p, .int .i64 f] 43 (by first | exact hB | simp [hB])))
  first | refine gen_code H1.out ?_ | refine gen_list H1.out ?_ | refine gen_calls H1.out ?_
  intro w2 hG
  clear H1
  have H1 := hid hG
  clear hG
  have z3 := H1.out.cell 1 rfl 0 rfl
  have z4 := H1.out.cell 1 rfl 1 rfl
  have z5 := H1.out.cell 1 rfl 2 rfl
  have z6 := H1.out.cell 1 rfl 3 rfl
  have z7 := H1.out.cell 0 rfl 0 rfl
  have z8 := H1.out.cell 0 rfl 1 rfl
  go_wp2_with fail
  clear z3 z4 z5 z6 z7 z8
  refine (index_any _ _ _ _).mono ?_
  rintro e w9 ⟨rfl, hsw⟩
  have hsw2 : w2 = w9 := by first | exact hsw | exact hsw.symm
  clear hsw
  subst hsw2
  obtain ⟨ix, hix⟩ : ∃ xx', bIdx x w p = xx' := ⟨_, rfl⟩
  rw [hix]
  have HIX := hid hix
  clear hix
  obtain ⟨ox, hox⟩ : ∃ xx', bOk x w p = xx' := ⟨_, rfl⟩
  rw [hox]
  have HOX := hid hox
  clear hox
  have z10 := H1.out.cell 1 rfl 0 rfl
  have z11 := H1.out.cell 1 rfl 1 rfl
  have z12 := H1.out.cell 1 rfl 2 rfl
  have z13 := H1.out.cell 1 rfl 3 rfl
  have z14 := H1.out.cell 0 rfl 0 rfl
  have z15 := H1.out.cell 0 rfl 1 rfl
  go_wp2_with fail
  clear z10 z11 z12 z13 z14 z15
  refine (index_any _ _ _ _).mono ?_
  rintro e w16 ⟨rfl, hsw⟩
  have hsw2 : w2 = w16 := by first | exact hsw | exact hsw.symm
  clear hsw
  subst hsw2
  obtain ⟨iy, hiy⟩ : ∃ xx', bIdx y h p = xx' := ⟨_, rfl⟩
  rw [hiy]
  have HIY := hid hiy
  clear hiy
  obtain ⟨oy, hoy⟩ : ∃ xx', bOk y h p = xx' := ⟨_, rfl⟩
  rw [hoy]
  have HOY := hid hoy
  clear hoy
  cases ox with
  | true =>
    cases oy with
    | true =>
      go_upto_region 5 with fail
      obtain ⟨w1, w2, x1, x2⟩ := bIdx_bd HOX.out
      obtain ⟨h1, h2, y1, y2⟩ := bIdx_bd HOY.out
      rw [HIX.out] at x1 x2
      rw [HIY.out] at y1 y2
      obtain ⟨pa0, pa1, pa2, pa3⟩ := pix_at (w := w) (h := h) (x := ix) (y := iy) q1 q2 q4 x1 x2 y1 y2
      have hwh := (pValid_iff.1 HV.out).2.1
      rw [HL.out] at hwh
      obtain ⟨PA, hPA⟩ : ∃ P, iy * w = P := ⟨_, rfl⟩
      rw [hPA] at pa0 pa1 pa2 pa3
      have hlt : PA + ix < n := by omega
      clear hwh
      obtain ⟨pbk, po, hpa⟩ := row_at (H1.out.old HS.out).row (by omega)
      have cz := row_cell (by rw [← hpa]; exact (H1.out.old HS.out).row) (j := (PA + ix).toNat) (by omega)
      have HPX := hid (show zs.getD (PA + ix).toNat 0 = pPix w h zs p f x y from by unfold pPix; rw [if_pos ⟨HOX.out, HOY.out⟩, HIX.out, HIY.out, hPA])
      rw [HPX.out] at cz
      subst hpa
      have z17 := H1.out.cell 1 rfl 0 rfl
      have z18 := H1.out.cell 1 rfl 1 rfl
      have z19 := H1.out.cell 1 rfl 2 rfl
      have z20 := H1.out.cell 1 rfl 3 rfl
      go_wp2_with fail
      clear z17 z18 z19 z20
      go_ret
      exact ⟨rfl, by first | exact H1.out.below | exact H1.out.below'⟩
    | false =>
      have z21 := H1.out.cell 0 rfl 0 rfl
      have z22 := H1.out.cell 0 rfl 1 rfl
      go_wp2_with fail
      clear z21 z22
      go_ret
      exact ⟨ret_i (by unfold pPix; rw [if_neg (fun e => by have := e.2; rw [HOY.out] at this; cases this)]), by first | exact H1.out.below | exact H1.out.below'⟩
  | false =>
    have z23 := H1.out.cell 0 rfl 0 rfl
    have z24 := H1.out.cell 0 rfl 1 rfl
    go_wp2_with fail
    clear z23 z24
    go_ret
    exact ⟨ret_i (by unfold pPix; rw [if_neg (fun e => by have := e.1; rw [HOX.out] at this; cases this)]), by first | exact H1.out.below | exact H1.out.below'⟩

set_option maxRecDepth 100000 in
set_option maxHeartbeats 3200000 in
theorem rrzmid_any (w h mx : Int) (a : Option Addr) (n c : Nat) (zs : List Int) (p f tk : Int) (ta : Option Addr) (tn tc : Nat) (ws : List Int) (shift y : Int) (W : World) (hs : Slc W a n c zs) (hw : Slc W ta tn tc ws) (hv : pValid w h mx zs = true) (hb : bValid p f mx = true) (hl : 1 ≤ tn ∧ tn ≤ 8) (hwa : wAll ws = true) (hx : -1000 ≤ tk ∧ tk ≤ 1000) :
    Calls Try.prog 51 #[.agg #[.int .i64 w, .int .i64 h, .int .i64 mx, .slice a n c], .agg #[.int .i64 p, .int .i64 f], .agg #[.int .i64 tk, .slice ta tn tc], .int .i64 shift, .int .i64 y] W fun e w' => e = .returned (.int .i64 (rzM w h zs p f (tk, ws) shift y)) ∧ Below W.heap.size W w' := by
  obtain ⟨B, hB⟩ : ∃ B, W.heap.size = B := ⟨_, rfl⟩
  have HI0 := hid (St.init hB)
  obtain ⟨tn1, tn2⟩ := hl
  obtain ⟨wb, wo, hta⟩ := row_at hw.row (by omega)
  subst hta
  have HS := hid hs
  have HW := hid hw
  have HLW := hid hw.len
  have HV := hid hv
  have HB := hid hb
  have HWA := hid hwa
  have hpm := (pOk_iff.1 (pValid_iff.1 hv).1).2.2.2.2.2.2
  obtain ⟨hx1, hx2⟩ := hx
  clear hs hw hv hb hwa
  go_enter Try.func51, Try.ntmps51
  go_upto_region 1 with fail
  have H25 := hid (show St B W [.cells (B + 1 + 1) #[.int .i64 tk, .slice (some ⟨wb, wo, none⟩) tn tc] 32, .cells (B + 1) #[.int .i64 p, .int .i64 f] 43, .cells B #[.int .i64 w, .int .i64 h, .int .i64 mx, .slice a n c] 40] [] (((W.alloc (.cells #[.int .i64 w, .int .i64 h, .int .i64 mx, .slice a n c] 40)).alloc (.cells #[.int .i64 p, .int .i64 f] 43)).alloc (.cells #[.int .i64 tk, .slice (some ⟨wb, wo, none⟩) tn tc] 32)) from (((HI0.out.alloc #[.int .i64 w, .int .i64 h, .int .i64 mx, .slice a n c] 40 hB).alloc #[.int .i64 p, .int .i64 f] 43 (by first | exact hB | simp [hB])).alloc #[.int .i64 tk, .slice (some ⟨wb, wo, none⟩) tn tc] 32 (by first | exact hB | simp [hB])))
  first | refine gen_code H25.out ?_ | refine gen_list H25.out ?_ | refine gen_calls H25.out ?_
  intro w26 hG
  clear H25
  have H25 := hid hG
  clear hG
  go_wp2_with fail
  go_loopw [12, 11] (fun i s wr => ∃ m : Nat, m ≤ tn ∧ i = .int .i64 m ∧ s = .int .i64 (rzR w h zs p f (tk, ws) y m) ∧ St B W [.cells (B + 1 + 1) #[.int .i64 tk, .slice (some ⟨wb, wo, none⟩) tn tc] 32, .cells (B + 1) #[.int .i64 p, .int .i64 f] 43, .cells B #[.int .i64 w, .int .i64 h, .int .i64 mx, .slice a n c] 40] [] wr) (fun i _ _ => tn - (intOf i).toNat)
  case atStart => exact ⟨0, by omega, rfl, rfl, H25.out⟩
  case round =>
    obtain ⟨m, hm, rfl, rfl, hst⟩ := hrel
    obtain ⟨u27, rfl⟩ : ∃ u27 : World, u27 = wr := ⟨_, rfl⟩
    have H28 := hid hst
    clear hst
    obtain ⟨S2a, S2b⟩ := rzR_bd HV.out HB.out (t := (tk, ws)) HWA.out y (n := m) (show m ≤ ws.length by rw [HLW.out]; exact hm) (show ws.length ≤ 8 by rw [HLW.out]; exact tn2)
    obtain ⟨S2, hS2⟩ : ∃ xx', rzR w h zs p f (tk, ws) y m = xx' := ⟨_, rfl⟩
    rw [hS2] at S2a S2b ⊢
    have HS2 := hid hS2
    clear hS2
    by_cases hmn : m < tn
    · skip
      have hmn' : (m : Int) < tn := by omega
      have z29 := H28.out.cell 0 rfl 0 rfl
      have z30 := H28.out.cell 0 rfl 1 rfl
      go_upto_region 5 with fail
      clear z29 z30
      obtain ⟨wz, hwz⟩ : ∃ xx', ws.getD m 0 = xx' := ⟨_, rfl⟩
      have hzw := hid (show -32767 ≤ wz ∧ wz ≤ 32767 from by rw [← hwz]; exact wAll_iff.1 HWA.out _ (by have := HLW.out; omega))
      have HWZ := hid hwz
      clear hwz
      have wa3 : IntKind.i64.wrap (tk + (m : Int)) = tk + m := IntWalk.i64_in _ (by omega)
      have H31 := hid H28.out.drew
      refine wp_region_held_drew (S := (fun w' => w'.cell? ⟨B + 1 + 1, 0, none⟩ = some (.int .i64 tk) ∧ w'.cell? ⟨B + 1 + 1, 1, none⟩ = some (.slice (some ⟨wb, wo, none⟩) tn tc) ∧ w'.cell? ⟨B, 0, none⟩ = some (.int .i64 w) ∧ w'.cell? ⟨B, 1, none⟩ = some (.int .i64 h) ∧ w'.cell? ⟨B, 2, none⟩ = some (.int .i64 mx) ∧ w'.cell? ⟨B, 3, none⟩ = some (.slice a n c) ∧ w'.cell? ⟨B + 1, 0, none⟩ = some (.int .i64 p) ∧ w'.cell? ⟨B + 1, 1, none⟩ = some (.int .i64 f) ∧ w'.cell? ⟨wb, wo + m, none⟩ = some (.int .i64 wz))) (by kernel_rfl) ⟨H31.out.cell 0 rfl 0 rfl, H31.out.cell 0 rfl 1 rfl, H31.out.cell 2 rfl 0 rfl, H31.out.cell 2 rfl 1 rfl, H31.out.cell 2 rfl 2 rfl, H31.out.cell 2 rfl 3 rfl, H31.out.cell 1 rfl 0 rfl, H31.out.cell 1 rfl 1 rfl, (by have := row_cell (H31.out.old HW.out).row (j := m) hmn; rw [HWZ.out] at this; exact this)⟩ (fun hHeld => ?_)
      generalize u27.drew = k32 at *
      refine wpAnyH_take (i := 0) (oi := _) (v := ?_) rfl (by kernel_rfl) (by kernel_rfl) (by kernel_rfl) (fun _ _ _ h => h) (Or.inl ⟨by rfl, ?_⟩) (by assumption) ?_
      rotate_left
      focus (intro wS hSw; (try dsimp only at hSw); go_simp; (try with_reducible rfl))
      try simp only [Act.put, List.getElem_toArray, List.getElem_cons_zero, List.getElem_cons_succ, List.setIfInBounds_toArray, List.set_cons_zero, List.set_cons_succ]
      refine wpAnyH_take (i := 1) (oi := _) (v := ?_) rfl (by kernel_rfl) (by kernel_rfl) (by kernel_rfl) (fun _ _ _ h => h) (Or.inl ⟨by rfl, ?_⟩) (by assumption) ?_
      rotate_left
      focus (intro wS hSw; (try dsimp only at hSw); go_simp; (try with_reducible rfl))
      try simp only [Act.put, List.getElem_toArray, List.getElem_cons_zero, List.getElem_cons_succ, List.setIfInBounds_toArray, List.set_cons_zero, List.set_cons_succ]
      refine wpAnyH_take (i := 2) (oi := _) (v := ?_) rfl (by kernel_rfl) (by kernel_rfl) (by kernel_rfl) (fun _ _ _ h => h) (Or.inl ⟨by rfl, ?_⟩) (by assumption) ?_
      rotate_left
      focus (intro wS hSw; (try dsimp only at hSw); go_simp; (try with_reducible rfl))
      try simp only [Act.put, List.getElem_toArray, List.getElem_cons_zero, List.getElem_cons_succ, List.setIfInBounds_toArray, List.set_cons_zero, List.set_cons_succ]
      refine wpAnyH_take (i := 3) (oi := _) (v := ?_) rfl (by kernel_rfl) (by kernel_rfl) (by kernel_rfl) (fun _ _ _ h => h) (Or.inl ⟨by rfl, ?_⟩) (by assumption) ?_
      rotate_left
      focus (intro wS hSw; (try dsimp only at hSw); go_simp; (try with_reducible rfl))
      try simp only [Act.put, List.getElem_toArray, List.getElem_cons_zero, List.getElem_cons_succ, List.setIfInBounds_toArray, List.set_cons_zero, List.set_cons_succ]
      refine wpAnyH_take (i := 4) (oi := _) (v := ?_) rfl (by kernel_rfl) (by kernel_rfl) (by kernel_rfl) (fun _ _ _ h => h) (Or.inl ⟨by rfl, ?_⟩) (by assumption) ?_
      rotate_left
      focus (intro wS hSw; (try dsimp only at hSw); go_simp; (try with_reducible rfl))
      try simp only [Act.put, List.getElem_toArray, List.getElem_cons_zero, List.getElem_cons_succ, List.setIfInBounds_toArray, List.set_cons_zero, List.set_cons_succ]
      refine wpAnyH_take (i := 5) (oi := _) (v := ?_) rfl (by kernel_rfl) (by kernel_rfl) (by kernel_rfl) (fun _ _ _ h => h) (Or.inl ⟨by rfl, ?_⟩) (by assumption) ?_
      rotate_left
      focus (intro wS hSw; (try dsimp only at hSw); go_simp; (try with_reducible rfl))
      try simp only [Act.put, List.getElem_toArray, List.getElem_cons_zero, List.getElem_cons_succ, List.setIfInBounds_toArray, List.set_cons_zero, List.set_cons_succ]
      refine wpAnyH_take (i := 6) (oi := _) (v := ?_) rfl (by kernel_rfl) (by kernel_rfl) (by kernel_rfl) (fun _ _ _ h => h) (Or.inl ⟨by rfl, ?_⟩) (by assumption) ?_
      rotate_left
      focus (intro wS hSw; (try dsimp only at hSw); go_simp; (try with_reducible rfl))
      try simp only [Act.put, List.getElem_toArray, List.getElem_cons_zero, List.getElem_cons_succ, List.setIfInBounds_toArray, List.set_cons_zero, List.set_cons_succ]
      refine wpAnyH_take (i := 7) (oi := _) (v := ?_) rfl (by kernel_rfl) (by kernel_rfl) (by kernel_rfl) (fun _ _ _ h => h) (Or.inl ⟨by rfl, ?_⟩) (by assumption) ?_
      rotate_left
      focus (intro wS hSw; (try dsimp only at hSw); go_simp; (try with_reducible rfl))
      try simp only [Act.put, List.getElem_toArray, List.getElem_cons_zero, List.getElem_cons_succ, List.setIfInBounds_toArray, List.set_cons_zero, List.set_cons_succ]
      refine wpAnyH_take (i := 8) (oi := _) (v := ?_) rfl (by kernel_rfl) (by kernel_rfl) (by kernel_rfl) (fun _ _ _ h => h) (Or.inl ⟨by rfl, ?_⟩) (by assumption) ?_
      rotate_left
      focus (intro wS hSw; (try dsimp only at hSw); go_simp; (try with_reducible rfl))
      try simp only [Act.put, List.getElem_toArray, List.getElem_cons_zero, List.getElem_cons_succ, List.setIfInBounds_toArray, List.set_cons_zero, List.set_cons_succ]
      refine wpAnyH_take (i := 9) (oi := _) (v := ?_) rfl (by kernel_rfl) (by kernel_rfl) (by kernel_rfl) (fun _ _ _ h => h) (Or.inl ⟨by rfl, ?_⟩) (by assumption) ?_
      rotate_left
      focus (intro wS hSw; (try dsimp only at hSw); go_simp; (try with_reducible rfl))
      try simp only [Act.put, List.getElem_toArray, List.getElem_cons_zero, List.getElem_cons_succ, List.setIfInBounds_toArray, List.set_cons_zero, List.set_cons_succ]
      refine wpAnyH_take (i := 10) (oi := _) (v := ?_) rfl (by kernel_rfl) (by kernel_rfl) (by kernel_rfl) (fun _ _ _ h => h) (Or.inl ⟨by rfl, ?_⟩) (by assumption) ?_
      rotate_left
      focus (intro wS hSw; (try dsimp only at hSw); go_simp; (try with_reducible rfl))
      try simp only [Act.put, List.getElem_toArray, List.getElem_cons_zero, List.getElem_cons_succ, List.setIfInBounds_toArray, List.set_cons_zero, List.set_cons_succ]
      refine wpAnyH_take (i := 11) (oi := _) (v := ?_) rfl (by kernel_rfl) (by kernel_rfl) (by kernel_rfl) (fun _ _ _ h => h) (Or.inl ⟨by rfl, ?_⟩) (by assumption) ?_
      rotate_left
      focus (intro wS hSw; (try dsimp only at hSw); go_simp; (try with_reducible rfl))
      try simp only [Act.put, List.getElem_toArray, List.getElem_cons_zero, List.getElem_cons_succ, List.setIfInBounds_toArray, List.set_cons_zero, List.set_cons_succ]
      refine wpAnyH_take (i := 12) (oi := _) (v := ?_) rfl (by kernel_rfl) (by kernel_rfl) (by kernel_rfl) (fun _ _ _ h => h) (Or.inl ⟨by rfl, ?_⟩) (by assumption) ?_
      rotate_left
      focus (intro wS hSw; (try dsimp only at hSw); go_simp; (try with_reducible rfl))
      try simp only [Act.put, List.getElem_toArray, List.getElem_cons_zero, List.getElem_cons_succ, List.setIfInBounds_toArray, List.set_cons_zero, List.set_cons_succ]
      refine wpAnyH_ready (rs := [13]) (by kernel_rfl) (by simp) (AllReadyH.cons (o := _) rfl (fun K hK => ?_) AllReadyH.nil)
      go_simp
      go_at_call 74
      refine (qpixel_any _ _ _ _ _ _ _ _ _ _ _ _ (H31.out.old HS.out) HV.out).mono ?_
      rintro e w33 ⟨rfl, hb⟩
      have H34 := hid (H31.out.call hb)
      clear hb
      obtain ⟨pv35, hpv35⟩ : ∃ xx', pPix w h zs p f (tk + m) y = xx' := ⟨_, rfl⟩
      rw [hpv35]
      have HNpv35 := hid hpv35
      clear hpv35
      obtain ⟨pv1, pv2⟩ : 0 ≤ pv35 ∧ pv35 ≤ mx := by rw [← HNpv35.out]; exact pPix_bd HV.out HB.out _ _
      obtain ⟨pr1, pr2⟩ := wmul2 hzw.out ⟨pv1, show pv35 ≤ 4294967296 by omega⟩
      have HSN0 := hid (show rzR w h zs p f (tk, ws) y (m + 1) = S2 + wz * pv35 from by rw [← HS2.out]; show rzR w h zs p f (tk, ws) y m + ws.getD m 0 * pPix w h zs p f (tk + (m : Int)) y = _; rw [HWZ.out, HNpv35.out])
      obtain ⟨PR, hPR⟩ : ∃ xx', wz * pv35 = xx' := ⟨_, rfl⟩
      rw [hPR] at pr1 pr2 HSN0
      have w8 : IntKind.i64.wrap PR = PR := IntWalk.i64_in _ (by omega)
      have w9 : IntKind.i64.wrap (S2 + PR) = S2 + PR := IntWalk.i64_in _ (by omega)
      refine hK.out _ _ ?_ (fun hHeld2 => ?_)
      focus ((try dsimp only); (exact ⟨H34.out.cell 0 rfl 0 rfl, H34.out.cell 0 rfl 1 rfl, H34.out.cell 2 rfl 0 rfl, H34.out.cell 2 rfl 1 rfl, H34.out.cell 2 rfl 2 rfl, H34.out.cell 2 rfl 3 rfl, H34.out.cell 1 rfl 0 rfl, H34.out.cell 1 rfl 1 rfl, (by have := row_cell (H34.out.old HW.out).row (j := m) hmn; rw [HWZ.out] at this; exact this)⟩))
      clear hK K
      try simp only [Act.put, List.getElem_toArray, List.getElem_cons_zero, List.getElem_cons_succ, List.setIfInBounds_toArray, List.set_cons_zero, List.set_cons_succ]
      clear hHeld
      have hHeld := hHeld2
      clear hHeld2
      refine wpAnyH_take (i := 14) (oi := _) (v := ?_) rfl (by kernel_rfl) (by kernel_rfl) (by kernel_rfl) (fun _ _ _ h => h) (Or.inl ⟨by rfl, ?_⟩) (by assumption) ?_
      rotate_left
      focus (intro wS hSw; (try dsimp only at hSw); go_simp; (try with_reducible rfl))
      try simp only [Act.put, List.getElem_toArray, List.getElem_cons_zero, List.getElem_cons_succ, List.setIfInBounds_toArray, List.set_cons_zero, List.set_cons_succ]
      refine wpAnyH_take (i := 15) (oi := _) (v := ?_) rfl (by kernel_rfl) (by kernel_rfl) (by kernel_rfl) (fun _ _ _ h => h) (Or.inl ⟨by rfl, ?_⟩) (by assumption) ?_
      rotate_left
      focus (intro wS hSw; (try dsimp only at hSw); go_simp; (try with_reducible rfl))
      try simp only [Act.put, List.getElem_toArray, List.getElem_cons_zero, List.getElem_cons_succ, List.setIfInBounds_toArray, List.set_cons_zero, List.set_cons_succ]
      refine wpAnyH_take (i := 16) (oi := _) (v := ?_) rfl (by kernel_rfl) (by kernel_rfl) (by kernel_rfl) (fun _ _ _ h => h) (Or.inl ⟨by rfl, ?_⟩) (by assumption) ?_
      rotate_left
      focus (intro wS hSw; (try dsimp only at hSw); go_simp; (try with_reducible rfl))
      try simp only [Act.put, List.getElem_toArray, List.getElem_cons_zero, List.getElem_cons_succ, List.setIfInBounds_toArray, List.set_cons_zero, List.set_cons_succ]
      refine wpAnyH_done (by kernel_rfl) ?_ _
      try clear hHeld
      clear w8 w9 wa3
      go_wp2_with fail
      go_roundw
      case rel => exact ⟨m + 1, by omega, by go_num, by rw [HSN0.out], H34.out⟩
      case measure => first | (simp [intOf]; omega) | (simp [intOf]; done)
    · skip
      have hmn' : ¬ ((m : Int) < tn) := by omega
      have HMN := hid (show m = tn by omega)
      have z36 := H28.out.cell 0 rfl 0 rfl
      have z37 := H28.out.cell 0 rfl 1 rfl
      go_wp2_with fail
      clear z36 z37
      refine (rshift_any _ _ _).mono ?_
      rintro e w38 ⟨rfl, hsw⟩
      have hsw2 : u27 = w38 := by first | exact hsw | exact hsw.symm
      clear hsw
      subst hsw2
      go_wp2_with fail
      go_ret
      exact ⟨ret_i (by rw [rzM_eq]; show _ = shV (rzR w h zs p f (tk, ws) y ws.length) shift; rw [HLW.out, ← HMN.out, HS2.out]), by first | exact H28.out.below | exact H28.out.below'⟩
end Go.Proofs.Ytaefdkinpaonkaa
