/-
  Contracts: the pixels of a row's window, and the sums of rows in the reference.
-/
import Derived.Test.YtfdkgjphnlijiaaSpChk
import Derived.Test.YtfdkgjphnlijiaaMatMk
namespace Go.Proofs.Ytfdkgjphnlijiaa
open Go.RowKit
attribute [local go_sem ↓] Go.wp_at_zero Go.wp_at_succ
set_option linter.unusedVariables false
set_option linter.unusedSimpArgs false

set_option maxRecDepth 100000 in
set_option maxHeartbeats 3200000 in
theorem spixels_any (w h mx : Int) (a : Option Addr) (n c : Nat) (zs : List Int) (p f x y : Int) (N : Nat) (W : World) (hs : Slc W a n c zs) (hv : pValid w h mx zs = true) (hx : -1000 ≤ x ∧ x ≤ 1000) (hN : N ≤ 1000) :
    Calls Try.prog 41 #[.agg #[.int .i64 w, .int .i64 h, .int .i64 mx, .slice a n c], .agg #[.int .i64 p, .int .i64 f], .int .i64 x, .int .i64 y, .int .i64 N] W fun e w' => ∃ v, e = .returned v ∧ Own W.heap.size w' v ((List.range N).map fun (k : Nat) => pPix w h zs p f (x + (k : Int)) y) ∧ Below W.heap.size W w' := by
  obtain ⟨B, hB⟩ : ∃ B, W.heap.size = B := ⟨_, rfl⟩
  have HI0 := hid (St.init hB)
  have HS := hid hs
  have HL := hid hs.len
  have HV := hid hv
  obtain ⟨q1, q2, q3, q4, _⟩ := pOk_iff.1 (pValid_iff.1 hv).1
  obtain ⟨hx1, hx2⟩ := hx
  obtain ⟨G, hG⟩ : ∃ G : Nat → Int, (fun k : Nat => pPix w h zs p f (x + (k : Int)) y) = G := ⟨_, rfl⟩
  rw [hG]
  have HG := hid (show ∀ k : Nat, pPix w h zs p f (x + (k : Int)) y = G k from fun k => by rw [← hG])
  clear hs hv hG
  go_enter Try.func41, Try.ntmps41
  go_upto_region 1 with fail
  have H1 := hid (show St B W [.cells (B + 1) #[.int .i64 p, .int .i64 f] 38, .cells B #[.int .i64 w, .int .i64 h, .int .i64 mx, .slice a n c] 35] [] ((W.alloc (.cells #[.int .i64 w, .int .i64 h, .int .i64 mx, .slice a n c] 35)).alloc (.cells #[.int .i64 p, .int .i64 f] 38)) from ((HI0.out.alloc #[.int .i64 w, .int .i64 h, .int .i64 mx, .slice a n c] 35 hB).alloc #[.int .i64 p, .int .i64 f] 38 (by first | exact hB | simp [hB])))
  first | refine gen_code H1.out ?_ | refine gen_list H1.out ?_ | refine gen_calls H1.out ?_
  intro w2 hG
  clear H1
  have H1 := hid hG
  clear hG
  obtain ⟨D1, hD1⟩ : ∃ D, w2.heap.size = D := ⟨_, rfl⟩
  have hBD1 : B ≤ D1 := by have := H1.out.size; omega
  go_upto_region 2 with (first | (at_make; refine make_int rfl _ _ rfl D1 _ _ N rfl rfl (by first | rfl | omega) (by first | rfl | omega) (by omega) (by omega) ?_; intro w4 ho hb; rw [hD1] at ho ⊢; have H3 := hid (H1.out.made hD1 ho hb); clear ho hb))
  clear hD1
  have z5 := H3.out.cell 2 rfl 0 rfl
  have z6 := H3.out.cell 2 rfl 1 rfl
  have z7 := H3.out.cell 2 rfl 2 rfl
  have z8 := H3.out.cell 2 rfl 3 rfl
  have z9 := H3.out.cell 1 rfl 0 rfl
  have z10 := H3.out.cell 1 rfl 1 rfl
  go_wp2_with fail
  clear z5 z6 z7 z8 z9 z10
  refine (index_any _ _ _ _).mono ?_
  rintro e w11 ⟨rfl, hsw⟩
  have hsw2 : w4 = w11 := by first | exact hsw | exact hsw.symm
  clear hsw
  subst hsw2
  obtain ⟨iy, hiy⟩ : ∃ xx', bIdx y h p = xx' := ⟨_, rfl⟩
  rw [hiy]
  have HIY := hid hiy
  clear hiy
  obtain ⟨oy, hoy⟩ : ∃ xx', bOk y h p = xx' := ⟨_, rfl⟩
  rw [hoy]
  have HOY := hid hoy
  clear hoy
  go_wp2_with fail
  go_loopw [30] (fun i wr => ∃ j : Nat, j ≤ N ∧ i = .int .i64 j ∧ St B W [.own (.slice (some ⟨D1, 0, none⟩) N N) (partL G j N), .cells (B + 1) #[.int .i64 p, .int .i64 f] 38, .cells B #[.int .i64 w, .int .i64 h, .int .i64 mx, .slice a n c] 35] [] wr) (fun i _ => N - (intOf i).toNat)
  case atStart => exact ⟨0, by omega, rfl, by rw [partL_zero]; exact H3.out⟩
  case round =>
    obtain ⟨j, hj, rfl, hst⟩ := hrel
    obtain ⟨u12, rfl⟩ : ∃ u12 : World, u12 = wr := ⟨_, rfl⟩
    have H13 := hid hst
    clear hst
    by_cases hjn : j < N
    · skip
      have hjn' : (j : Int) < N := by omega
      have wj : IntKind.i64.wrap (x + (j : Int)) = x + j := IntWalk.i64_in _ (by omega)
      have z14 := H13.out.cell 2 rfl 0 rfl
      have z15 := H13.out.cell 2 rfl 1 rfl
      have z16 := H13.out.cell 2 rfl 2 rfl
      have z17 := H13.out.cell 2 rfl 3 rfl
      have z18 := H13.out.cell 1 rfl 0 rfl
      have z19 := H13.out.cell 1 rfl 1 rfl
      go_wp2_with fail
      clear z14 z15 z16 z17 z18 z19
      refine (index_any _ _ _ _).mono ?_
      rintro e w20 ⟨rfl, hsw⟩
      have hsw2 : u12 = w20 := by first | exact hsw | exact hsw.symm
      clear hsw
      subst hsw2
      obtain ⟨ix, hix⟩ : ∃ xx', bIdx (x + (j : Int)) w p = xx' := ⟨_, rfl⟩
      rw [hix]
      have HIX := hid hix
      clear hix
      obtain ⟨ox, hox⟩ : ∃ xx', bOk (x + (j : Int)) w p = xx' := ⟨_, rfl⟩
      rw [hox]
      have HOX := hid hox
      clear hox
      cases ox with
      | true =>
        cases oy with
        | true =>
          obtain ⟨w1, w2, x1, x2⟩ := bIdx_bd HOX.out
          obtain ⟨h1, h2, y1, y2⟩ := bIdx_bd HOY.out
          rw [HIX.out] at x1 x2
          rw [HIY.out] at y1 y2
          obtain ⟨pa0, pa1, pa2, pa3⟩ := pix_at (w := w) (h := h) (x := ix) (y := iy) q1 q2 q4 x1 x2 y1 y2
          have hwh := (pValid_iff.1 HV.out).2.1
          rw [HL.out] at hwh
          obtain ⟨PA, hPA⟩ : ∃ P, iy * w = P := ⟨_, rfl⟩
          rw [hPA] at pa0 pa1 pa2 pa3
          have hlt : PA + ix < n := by omega
          clear hwh
          obtain ⟨pbk, po, hpa⟩ := row_at (H13.out.old HS.out).row (by omega)
          have cz := row_cell (by rw [← hpa]; exact (H13.out.old HS.out).row) (j := (PA + ix).toNat) (by omega)
          have HPX := hid (show zs.getD (PA + ix).toNat 0 = G j from by rw [← HG.out]; unfold pPix; rw [if_pos ⟨HOX.out, HOY.out⟩, HIX.out, HIY.out, hPA])
          rw [HPX.out] at cz
          obtain ⟨pz, hpz⟩ : ∃ xx', G j = xx' := ⟨_, rfl⟩
          rw [hpz] at cz
          have HNX := hid (show (partL G j N).set j pz = partL G (j + 1) N from by rw [← hpz]; exact partL_next G hjn)
          clear hpz HPX
          subst hpa
          obtain ⟨s1, s2⟩ := H13.out.get 0 rfl (j := j) (by rw [partL_len G (by omega)]; exact hjn)
          have z21 := H13.out.cell 2 rfl 0 rfl
          have z22 := H13.out.cell 2 rfl 1 rfl
          have z23 := H13.out.cell 2 rfl 2 rfl
          have z24 := H13.out.cell 2 rfl 3 rfl
          go_upto_region 10 with fail
          clear z21 z22 z23 z24
          have H25 := hid (show St B W [.own (.slice (some ⟨D1, 0, none⟩) N N) ((partL G j N).set j pz), .cells (B + 1) #[.int .i64 p, .int .i64 f] 38, .cells B #[.int .i64 w, .int .i64 h, .int .i64 mx, .slice (some ⟨pbk, po, none⟩) n c] 35] [] (u12.setCell ⟨D1, j, none⟩ (.int .i64 pz)) from (H13.out.store 0 rfl j pz))
          first | refine gen_code H25.out ?_ | refine gen_list H25.out ?_ | refine gen_calls H25.out ?_
          intro w26 hG
          clear H25
          have H25 := hid hG
          clear hG
          go_wp2_with fail
          go_roundw
          case rel => exact ⟨j + 1, by omega, by go_num, by rw [← HNX.out]; exact H25.out⟩
          case measure => first | (simp [intOf]; omega) | (simp [intOf]; done)
        | false =>
          have HNX := hid (show (partL G j N).set j f = partL G (j + 1) N from by rw [← partL_next G hjn, ← HG.out]; congr 1; unfold pPix; rw [if_neg (fun e => by have := e.2; rw [HOY.out] at this; cases this)])
          obtain ⟨s1, s2⟩ := H13.out.get 0 rfl (j := j) (by rw [partL_len G (by omega)]; exact hjn)
          have z27 := H13.out.cell 1 rfl 0 rfl
          have z28 := H13.out.cell 1 rfl 1 rfl
          go_upto_region 10 with fail
          clear z27 z28
          have H29 := hid (show St B W [.own (.slice (some ⟨D1, 0, none⟩) N N) ((partL G j N).set j f), .cells (B + 1) #[.int .i64 p, .int .i64 f] 38, .cells B #[.int .i64 w, .int .i64 h, .int .i64 mx, .slice a n c] 35] [] (u12.setCell ⟨D1, j, none⟩ (.int .i64 f)) from (H13.out.store 0 rfl j f))
          first | refine gen_code H29.out ?_ | refine gen_list H29.out ?_ | refine gen_calls H29.out ?_
          intro w30 hG
          clear H29
          have H29 := hid hG
          clear hG
          go_wp2_with fail
          go_roundw
          case rel => exact ⟨j + 1, by omega, by go_num, by rw [← HNX.out]; exact H29.out⟩
          case measure => first | (simp [intOf]; omega) | (simp [intOf]; done)
      | false =>
        have HNX := hid (show (partL G j N).set j f = partL G (j + 1) N from by rw [← partL_next G hjn, ← HG.out]; congr 1; unfold pPix; rw [if_neg (fun e => by have := e.1; rw [HOX.out] at this; cases this)])
        obtain ⟨s1, s2⟩ := H13.out.get 0 rfl (j := j) (by rw [partL_len G (by omega)]; exact hjn)
        have z31 := H13.out.cell 1 rfl 0 rfl
        have z32 := H13.out.cell 1 rfl 1 rfl
        go_upto_region 10 with fail
        clear z31 z32
        have H33 := hid (show St B W [.own (.slice (some ⟨D1, 0, none⟩) N N) ((partL G j N).set j f), .cells (B + 1) #[.int .i64 p, .int .i64 f] 38, .cells B #[.int .i64 w, .int .i64 h, .int .i64 mx, .slice a n c] 35] [] (u12.setCell ⟨D1, j, none⟩ (.int .i64 f)) from (H13.out.store 0 rfl j f))
        first | refine gen_code H33.out ?_ | refine gen_list H33.out ?_ | refine gen_calls H33.out ?_
        intro w34 hG
        clear H33
        have H33 := hid hG
        clear hG
        go_wp2_with fail
        go_roundw
        case rel => exact ⟨j + 1, by omega, by go_num, by rw [← HNX.out]; exact H33.out⟩
        case measure => first | (simp [intOf]; omega) | (simp [intOf]; done)
    · skip
      have hjn' : ¬ ((j : Int) < N) := by omega
      have HJN := hid (show j = N by omega)
      go_wp2_with fail
      go_ret
      exact ⟨_, rfl, by (try rw [hB]); rw [← partL_all G N]; have e := H13.out.own 0 rfl; rw [HJN.out] at e; exact e, by first | exact H13.out.below | exact H13.out.below'⟩

set_option maxRecDepth 100000 in
set_option maxHeartbeats 3200000 in
theorem rmid_any (w h mx : Int) (a : Option Addr) (n c : Nat) (zs : List Int) (p f : Int) (wa : Option Addr) (wn wc : Nat) (ws : List Int) (shift x y : Int) (W : World) (hs : Slc W a n c zs) (hw : Slc W wa wn wc ws) (hv : pValid w h mx zs = true) (hb : bValid p f mx = true) (hl : 1 ≤ wn ∧ wn ≤ 9) (hwa : wAll ws = true) (hx : -1000 ≤ x ∧ x ≤ 1000) :
    Calls Try.prog 50 #[.agg #[.int .i64 w, .int .i64 h, .int .i64 mx, .slice a n c], .agg #[.int .i64 p, .int .i64 f], .slice wa wn wc, .int .i64 shift, .int .i64 x, .int .i64 y] W fun e w' => e = .returned (.int .i64 (spM w h zs p f ws shift x y)) ∧ Below W.heap.size W w' := by
  obtain ⟨B, hB⟩ : ∃ B, W.heap.size = B := ⟨_, rfl⟩
  have HI0 := hid (St.init hB)
  have HS := hid hs
  have HW := hid hw
  have HLW := hid hw.len
  have HV := hid hv
  have HB := hid hb
  have HWA := hid hwa
  have hpm := (pOk_iff.1 (pValid_iff.1 hv).1).2.2.2.2.2.2
  obtain ⟨hx1, hx2⟩ := hx
  obtain ⟨wn1, wn2⟩ := hl
  obtain ⟨n2, hn2⟩ : ∃ q, Int.tdiv (wn : Int) 2 = q := ⟨_, rfl⟩
  have HN2 := hid (show (wn : Int) / 2 = n2 from by rw [← hn2, Int.tdiv_eq_ediv_of_nonneg (by omega)])
  obtain ⟨n2a, n2b⟩ : 0 ≤ n2 ∧ n2 ≤ 4 := by have := HN2.out; omega
  clear hs hw hv hb hwa
  go_enter Try.func50, Try.ntmps50
  go_upto_region 1 with fail
  have H35 := hid (show St B W [.cells (B + 1) #[.int .i64 p, .int .i64 f] 38, .cells B #[.int .i64 w, .int .i64 h, .int .i64 mx, .slice a n c] 35] [] ((W.alloc (.cells #[.int .i64 w, .int .i64 h, .int .i64 mx, .slice a n c] 35)).alloc (.cells #[.int .i64 p, .int .i64 f] 38)) from ((HI0.out.alloc #[.int .i64 w, .int .i64 h, .int .i64 mx, .slice a n c] 35 hB).alloc #[.int .i64 p, .int .i64 f] 38 (by first | exact hB | simp [hB])))
  first | refine gen_code H35.out ?_ | refine gen_list H35.out ?_ | refine gen_calls H35.out ?_
  intro w36 hG
  clear H35
  have H35 := hid hG
  clear hG
  go_wp2_with fail
  obtain ⟨wb, wo, hwa⟩ := row_at HW.out.row (by omega)
  subst hwa
  go_loopw [14, 13] (fun i s wr => ∃ m : Nat, m ≤ wn ∧ i = .int .i64 m ∧ s = .int .i64 (spR w h zs p f ws x y m) ∧ St B W [.cells (B + 1) #[.int .i64 p, .int .i64 f] 38, .cells B #[.int .i64 w, .int .i64 h, .int .i64 mx, .slice a n c] 35] [] wr) (fun i _ _ => wn - (intOf i).toNat)
  case atStart => exact ⟨0, by omega, rfl, rfl, H35.out⟩
  case round =>
    obtain ⟨m, hm, rfl, rfl, hst⟩ := hrel
    obtain ⟨u37, rfl⟩ : ∃ u37 : World, u37 = wr := ⟨_, rfl⟩
    have H38 := hid hst
    clear hst
    obtain ⟨S2a, S2b⟩ := spR_bd HV.out HB.out HWA.out x y (n := m) (by rw [HLW.out]; exact hm) (by rw [HLW.out]; exact wn2)
    obtain ⟨S2, hS2⟩ : ∃ xx', spR w h zs p f ws x y m = xx' := ⟨_, rfl⟩
    rw [hS2] at S2a S2b ⊢
    have HS2 := hid hS2
    clear hS2
    by_cases hmn : m < wn
    · skip
      have hmn' : (m : Int) < wn := by omega
      go_upto_region 5 with fail
      obtain ⟨wz, hwz⟩ : ∃ xx', ws.getD m 0 = xx' := ⟨_, rfl⟩
      have hzw := hid (show -32767 ≤ wz ∧ wz ≤ 32767 from by rw [← hwz]; exact wAll_iff.1 HWA.out _ (by have := HLW.out; omega))
      have HWZ := hid hwz
      clear hwz
      have wa1 : IntKind.i64.wrap n2 = n2 := IntWalk.i64_in _ (by omega)
      have wa3 : IntKind.i64.wrap (x + (m : Int)) = x + m := IntWalk.i64_in _ (by omega)
      have wa4 : IntKind.i64.wrap (x + (m : Int) - n2) = x + m - n2 := IntWalk.i64_in _ (by omega)
      have H39 := hid H38.out.drew
      refine wp_region_held_drew (S := (fun w' => w'.cell? ⟨B, 0, none⟩ = some (.int .i64 w) ∧ w'.cell? ⟨B, 1, none⟩ = some (.int .i64 h) ∧ w'.cell? ⟨B, 2, none⟩ = some (.int .i64 mx) ∧ w'.cell? ⟨B, 3, none⟩ = some (.slice a n c) ∧ w'.cell? ⟨B + 1, 0, none⟩ = some (.int .i64 p) ∧ w'.cell? ⟨B + 1, 1, none⟩ = some (.int .i64 f) ∧ w'.cell? ⟨wb, wo + m, none⟩ = some (.int .i64 wz))) (by kernel_rfl) ⟨H39.out.cell 1 rfl 0 rfl, H39.out.cell 1 rfl 1 rfl, H39.out.cell 1 rfl 2 rfl, H39.out.cell 1 rfl 3 rfl, H39.out.cell 0 rfl 0 rfl, H39.out.cell 0 rfl 1 rfl, (by have := row_cell (H39.out.old HW.out).row (j := m) hmn; rw [HWZ.out] at this; exact this)⟩ (fun hHeld => ?_)
      generalize u37.drew = k40 at *
      refine wpAnyH_take (i := 0) (oi := _) (v := ?_) rfl (by kernel_rfl) (by kernel_rfl) (by kernel_rfl) (fun _ _ _ h => h) (Or.inl ⟨by rfl, ?_⟩) (by assumption) ?_
      rotate_left
      focus (intro wS hSw; (try dsimp only at hSw); go_simp; (try with_reducible rfl))
      try simp only [Act.put, List.getElem_toArray, List.getElem_cons_zero, List.getElem_cons_succ, List.setIfInBounds_toArray, List.set_cons_zero, List.set_cons_succ]
      refine wpAnyH_take (i := 1) (oi := _) (v := ?_) rfl (by kernel_rfl) (by kernel_rfl) (by kernel_rfl) (fun _ _ _ h => h) (Or.inl ⟨by rfl, ?_⟩) (by assumption) ?_
      rotate_left
      focus (intro wS hSw; (try dsimp only at hSw); go_simp; (try with_reducible rfl))
      try simp only [Act.put, List.getElem_toArray, List.getElem_cons_zero, List.getElem_cons_succ, List.setIfInBounds_toArray, List.set_cons_zero, List.set_cons_succ]
      refine wpAnyH_take (i := 2) (oi := _) (v := ?_) rfl (by kernel_rfl) (by kernel_rfl) (by kernel_rfl) (fun _ _ _ h => h) (Or.inl ⟨by rfl, ?_⟩) (by assumption) ?_
      rotate_left
      focus (intro wS hSw; (try dsimp only at hSw); go_simp; (try with_reducible rfl))
      try simp only [Act.put, List.getElem_toArray, List.getElem_cons_zero, List.getElem_cons_succ, List.setIfInBounds_toArray, List.set_cons_zero, List.set_cons_succ]
      refine wpAnyH_take (i := 3) (oi := _) (v := ?_) rfl (by kernel_rfl) (by kernel_rfl) (by kernel_rfl) (fun _ _ _ h => h) (Or.inl ⟨by rfl, ?_⟩) (by assumption) ?_
      rotate_left
      focus (intro wS hSw; (try dsimp only at hSw); go_simp; (try with_reducible rfl))
      try simp only [Act.put, List.getElem_toArray, List.getElem_cons_zero, List.getElem_cons_succ, List.setIfInBounds_toArray, List.set_cons_zero, List.set_cons_succ]
      refine wpAnyH_take (i := 4) (oi := _) (v := ?_) rfl (by kernel_rfl) (by kernel_rfl) (by kernel_rfl) (fun _ _ _ h => h) (Or.inl ⟨by rfl, ?_⟩) (by assumption) ?_
      rotate_left
      focus (intro wS hSw; (try dsimp only at hSw); go_simp; (try with_reducible rfl))
      try simp only [Act.put, List.getElem_toArray, List.getElem_cons_zero, List.getElem_cons_succ, List.setIfInBounds_toArray, List.set_cons_zero, List.set_cons_succ]
      refine wpAnyH_take (i := 5) (oi := _) (v := ?_) rfl (by kernel_rfl) (by kernel_rfl) (by kernel_rfl) (fun _ _ _ h => h) (Or.inl ⟨by rfl, ?_⟩) (by assumption) ?_
      rotate_left
      focus (intro wS hSw; (try dsimp only at hSw); go_simp; (try with_reducible rfl))
      try simp only [Act.put, List.getElem_toArray, List.getElem_cons_zero, List.getElem_cons_succ, List.setIfInBounds_toArray, List.set_cons_zero, List.set_cons_succ]
      refine wpAnyH_take (i := 6) (oi := _) (v := ?_) rfl (by kernel_rfl) (by kernel_rfl) (by kernel_rfl) (fun _ _ _ h => h) (Or.inl ⟨by rfl, ?_⟩) (by assumption) ?_
      rotate_left
      focus (intro wS hSw; (try dsimp only at hSw); go_simp; (try with_reducible rfl))
      try simp only [Act.put, List.getElem_toArray, List.getElem_cons_zero, List.getElem_cons_succ, List.setIfInBounds_toArray, List.set_cons_zero, List.set_cons_succ]
      refine wpAnyH_take (i := 7) (oi := _) (v := ?_) rfl (by kernel_rfl) (by kernel_rfl) (by kernel_rfl) (fun _ _ _ h => h) (Or.inl ⟨by rfl, ?_⟩) (by assumption) ?_
      rotate_left
      focus (intro wS hSw; (try dsimp only at hSw); go_simp; (try with_reducible rfl))
      try simp only [Act.put, List.getElem_toArray, List.getElem_cons_zero, List.getElem_cons_succ, List.setIfInBounds_toArray, List.set_cons_zero, List.set_cons_succ]
      refine wpAnyH_take (i := 8) (oi := _) (v := ?_) rfl (by kernel_rfl) (by kernel_rfl) (by kernel_rfl) (fun _ _ _ h => h) (Or.inl ⟨by rfl, ?_⟩) (by assumption) ?_
      rotate_left
      focus (intro wS hSw; (try dsimp only at hSw); go_simp; (try with_reducible rfl))
      try simp only [Act.put, List.getElem_toArray, List.getElem_cons_zero, List.getElem_cons_succ, List.setIfInBounds_toArray, List.set_cons_zero, List.set_cons_succ]
      refine wpAnyH_take (i := 9) (oi := _) (v := ?_) rfl (by kernel_rfl) (by kernel_rfl) (by kernel_rfl) (fun _ _ _ h => h) (Or.inl ⟨by rfl, ?_⟩) (by assumption) ?_
      rotate_left
      focus (intro wS hSw; (try dsimp only at hSw); go_simp; (try with_reducible rfl))
      try simp only [Act.put, List.getElem_toArray, List.getElem_cons_zero, List.getElem_cons_succ, List.setIfInBounds_toArray, List.set_cons_zero, List.set_cons_succ]
      refine wpAnyH_take (i := 10) (oi := _) (v := ?_) rfl (by kernel_rfl) (by kernel_rfl) (by kernel_rfl) (fun _ _ _ h => h) (Or.inl ⟨by rfl, ?_⟩) (by assumption) ?_
      rotate_left
      focus (intro wS hSw; (try dsimp only at hSw); go_simp; (try with_reducible rfl))
      try simp only [Act.put, List.getElem_toArray, List.getElem_cons_zero, List.getElem_cons_succ, List.setIfInBounds_toArray, List.set_cons_zero, List.set_cons_succ]
      refine wpAnyH_take (i := 11) (oi := _) (v := ?_) rfl (by kernel_rfl) (by kernel_rfl) (by kernel_rfl) (fun _ _ _ h => h) (Or.inl ⟨by rfl, ?_⟩) (by assumption) ?_
      rotate_left
      focus (intro wS hSw; (try dsimp only at hSw); go_simp; (try with_reducible rfl))
      try simp only [Act.put, List.getElem_toArray, List.getElem_cons_zero, List.getElem_cons_succ, List.setIfInBounds_toArray, List.set_cons_zero, List.set_cons_succ]
      refine wpAnyH_take (i := 12) (oi := _) (v := ?_) rfl (by kernel_rfl) (by kernel_rfl) (by kernel_rfl) (fun _ _ _ h => h) (Or.inl ⟨by rfl, ?_⟩) (by assumption) ?_
      rotate_left
      focus (intro wS hSw; (try dsimp only at hSw); go_simp; (try with_reducible rfl))
      try simp only [Act.put, List.getElem_toArray, List.getElem_cons_zero, List.getElem_cons_succ, List.setIfInBounds_toArray, List.set_cons_zero, List.set_cons_succ]
      refine wpAnyH_take (i := 13) (oi := _) (v := ?_) rfl (by kernel_rfl) (by kernel_rfl) (by kernel_rfl) (fun _ _ _ h => h) (Or.inl ⟨by rfl, ?_⟩) (by assumption) ?_
      rotate_left
      focus (intro wS hSw; (try dsimp only at hSw); go_simp; (try with_reducible rfl))
      try simp only [Act.put, List.getElem_toArray, List.getElem_cons_zero, List.getElem_cons_succ, List.setIfInBounds_toArray, List.set_cons_zero, List.set_cons_succ]
      refine wpAnyH_take (i := 14) (oi := _) (v := ?_) rfl (by kernel_rfl) (by kernel_rfl) (by kernel_rfl) (fun _ _ _ h => h) (Or.inl ⟨by rfl, ?_⟩) (by assumption) ?_
      rotate_left
      focus (intro wS hSw; (try dsimp only at hSw); go_simp; (try with_reducible rfl))
      try simp only [Act.put, List.getElem_toArray, List.getElem_cons_zero, List.getElem_cons_succ, List.setIfInBounds_toArray, List.set_cons_zero, List.set_cons_succ]
      refine wpAnyH_ready (rs := [15]) (by kernel_rfl) (by simp) (AllReadyH.cons (o := _) rfl (fun K hK => ?_) AllReadyH.nil)
      go_simp
      go_at_call 66
      refine (qpixel_any _ _ _ _ _ _ _ _ _ _ _ _ (H39.out.old HS.out) HV.out).mono ?_
      rintro e w41 ⟨rfl, hb⟩
      have H42 := hid (H39.out.call hb)
      clear hb
      obtain ⟨pv43, hpv43⟩ : ∃ xx', pPix w h zs p f (x + m - n2) y = xx' := ⟨_, rfl⟩
      rw [hpv43]
      have HNpv43 := hid hpv43
      clear hpv43
      obtain ⟨pv1, pv2⟩ : 0 ≤ pv43 ∧ pv43 ≤ mx := by rw [← HNpv43.out]; exact pPix_bd HV.out HB.out _ _
      obtain ⟨pr1, pr2⟩ := wmul2 hzw.out ⟨pv1, show pv43 ≤ 4294967296 by omega⟩
      have HSN0 := hid (show spR w h zs p f ws x y (m + 1) = S2 + wz * pv43 from by rw [← HS2.out]; show spR w h zs p f ws x y m + ws.getD m 0 * pPix w h zs p f (x + (m : Int) - (ws.length : Int) / 2) y = _; rw [HWZ.out, HLW.out, HN2.out, HNpv43.out])
      obtain ⟨PR, hPR⟩ : ∃ xx', wz * pv43 = xx' := ⟨_, rfl⟩
      rw [hPR] at pr1 pr2 HSN0
      have w8 : IntKind.i64.wrap PR = PR := IntWalk.i64_in _ (by omega)
      have w9 : IntKind.i64.wrap (S2 + PR) = S2 + PR := IntWalk.i64_in _ (by omega)
      refine hK.out _ _ ?_ (fun hHeld2 => ?_)
      focus ((try dsimp only); (exact ⟨H42.out.cell 1 rfl 0 rfl, H42.out.cell 1 rfl 1 rfl, H42.out.cell 1 rfl 2 rfl, H42.out.cell 1 rfl 3 rfl, H42.out.cell 0 rfl 0 rfl, H42.out.cell 0 rfl 1 rfl, (by have := row_cell (H42.out.old HW.out).row (j := m) hmn; rw [HWZ.out] at this; exact this)⟩))
      clear hK K
      try simp only [Act.put, List.getElem_toArray, List.getElem_cons_zero, List.getElem_cons_succ, List.setIfInBounds_toArray, List.set_cons_zero, List.set_cons_succ]
      clear hHeld
      have hHeld := hHeld2
      clear hHeld2
      refine wpAnyH_take (i := 16) (oi := _) (v := ?_) rfl (by kernel_rfl) (by kernel_rfl) (by kernel_rfl) (fun _ _ _ h => h) (Or.inl ⟨by rfl, ?_⟩) (by assumption) ?_
      rotate_left
      focus (intro wS hSw; (try dsimp only at hSw); go_simp; (try with_reducible rfl))
      try simp only [Act.put, List.getElem_toArray, List.getElem_cons_zero, List.getElem_cons_succ, List.setIfInBounds_toArray, List.set_cons_zero, List.set_cons_succ]
      refine wpAnyH_take (i := 17) (oi := _) (v := ?_) rfl (by kernel_rfl) (by kernel_rfl) (by kernel_rfl) (fun _ _ _ h => h) (Or.inl ⟨by rfl, ?_⟩) (by assumption) ?_
      rotate_left
      focus (intro wS hSw; (try dsimp only at hSw); go_simp; (try with_reducible rfl))
      try simp only [Act.put, List.getElem_toArray, List.getElem_cons_zero, List.getElem_cons_succ, List.setIfInBounds_toArray, List.set_cons_zero, List.set_cons_succ]
      refine wpAnyH_take (i := 18) (oi := _) (v := ?_) rfl (by kernel_rfl) (by kernel_rfl) (by kernel_rfl) (fun _ _ _ h => h) (Or.inl ⟨by rfl, ?_⟩) (by assumption) ?_
      rotate_left
      focus (intro wS hSw; (try dsimp only at hSw); go_simp; (try with_reducible rfl))
      try simp only [Act.put, List.getElem_toArray, List.getElem_cons_zero, List.getElem_cons_succ, List.setIfInBounds_toArray, List.set_cons_zero, List.set_cons_succ]
      refine wpAnyH_done (by kernel_rfl) ?_ _
      try clear hHeld
      clear w8 w9 wa1 wa3 wa4
      go_wp2_with fail
      go_roundw
      case rel => exact ⟨m + 1, by omega, by go_num, by rw [HSN0.out], H42.out⟩
      case measure => first | (simp [intOf]; omega) | (simp [intOf]; done)
    · skip
      have hmn' : ¬ ((m : Int) < wn) := by omega
      have HMN := hid (show m = wn by omega)
      go_wp2_with fail
      refine (rshift_any _ _ _).mono ?_
      rintro e w44 ⟨rfl, hsw⟩
      have hsw2 : u37 = w44 := by first | exact hsw | exact hsw.symm
      clear hsw
      subst hsw2
      go_wp2_with fail
      go_ret
      exact ⟨ret_i (by unfold spM; rw [HLW.out, ← HMN.out, HS2.out]), by first | exact H38.out.below | exact H38.out.below'⟩
end Go.Proofs.Ytfdkgjphnlijiaa
