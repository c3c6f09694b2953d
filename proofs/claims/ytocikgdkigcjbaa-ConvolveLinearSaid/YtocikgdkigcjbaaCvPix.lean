/-
  Contract: the pixels of planes in a convolution.
-/
import Derived.Test.YtocikgdkigcjbaaCvChk
namespace Go.Proofs.Ytocikgdkigcjbaa
open Go.RowKit
attribute [local go_sem ↓] Go.wp_at_zero Go.wp_at_succ
set_option linter.unusedVariables false
set_option linter.unusedSimpArgs false

set_option maxRecDepth 100000 in
set_option maxHeartbeats 3200000 in
theorem cpixel_any (w h mx : Int) (a : Option Addr) (n c : Nat) (zs : List Int) (p f x y : Int) (W : World) (hs : Slc W a n c zs) (hv : pValid w h mx zs = true) (hb : bValid p f mx = true) :
    Calls Try.prog 38 #[.agg #[.int .i64 w, .int .i64 h, .int .i64 mx, .slice a n c], .agg #[.int .i64 p, .int .i64 f], .int .i64 x, .int .i64 y] W fun e w' => e = .returned (.int .i64 (pPix w h zs p f x y)) ∧ Below W.heap.size W w' := by
  obtain ⟨B, hB⟩ : ∃ B, W.heap.size = B := ⟨_, rfl⟩
  have HI0 := hid (St.init hB)
  have HS := hid hs
  have HL := hid hs.len
  have HV := hid hv
  have HP := hid (bValid_p hb)
  obtain ⟨q1, q2, q3, q4, _⟩ := pOk_iff.1 (pValid_iff.1 hv).1
  clear hs hv hb
  go_enter Try.func38, Try.ntmps38
  go_upto_region 1 with fail
  have H1 := hid (show St B W [.cells (B + 1) #[.int .i64 p, .int .i64 f] 38, .cells B #[.int .i64 w, .int .i64 h, .int .i64 mx, .slice a n c] 35] [] ((W.alloc (.cells #[.int .i64 w, .int .i64 h, .int .i64 mx, .slice a n c] 35)).alloc (.cells #[.int .i64 p, .int .i64 f] 38)) from ((HI0.out.alloc #[.int .i64 w, .int .i64 h, .int .i64 mx, .slice a n c] 35 hB).alloc #[.int .i64 p, .int .i64 f] 38 (by first | exact hB | simp [hB])))
  first | refine gen_code H1.out ?_ | refine gen_list H1.out ?_ | refine gen_calls H1.out ?_
  intro w2 hG
  clear H1
  have H1 := hid hG
  clear hG
  by_cases c3 : (x : Int) < 0
  · skip
    have z4 := H1.out.cell 1 rfl 0 rfl
    have z5 := H1.out.cell 1 rfl 1 rfl
    have z6 := H1.out.cell 1 rfl 2 rfl
    have z7 := H1.out.cell 1 rfl 3 rfl
    have z8 := H1.out.cell 0 rfl 0 rfl
    have z9 := H1.out.cell 0 rfl 1 rfl
    go_wp2_with fail
    clear z4 z5 z6 z7 z8 z9
    refine (index_any _ _ _ _).mono ?_
    rintro e w10 ⟨rfl, hsw⟩
    have hsw2 : w2 = w10 := by first | exact hsw | exact hsw.symm
    clear hsw
    subst hsw2
    obtain ⟨ix, hix⟩ : ∃ xx', bIdx x w p = xx' := ⟨_, rfl⟩
    rw [hix]
    have HIX := hid hix
    clear hix
    obtain ⟨ox, hox⟩ : ∃ xx', bOk x w p = xx' := ⟨_, rfl⟩
    rw [hox]
    have HOX := hid hox
    clear hox
    have z11 := H1.out.cell 1 rfl 0 rfl
    have z12 := H1.out.cell 1 rfl 1 rfl
    have z13 := H1.out.cell 1 rfl 2 rfl
    have z14 := H1.out.cell 1 rfl 3 rfl
    have z15 := H1.out.cell 0 rfl 0 rfl
    have z16 := H1.out.cell 0 rfl 1 rfl
    go_wp2_with fail
    clear z11 z12 z13 z14 z15 z16
    refine (index_any _ _ _ _).mono ?_
    rintro e w17 ⟨rfl, hsw⟩
    have hsw2 : w2 = w17 := by first | exact hsw | exact hsw.symm
    clear hsw
    subst hsw2
    obtain ⟨iy, hiy⟩ : ∃ xx', bIdx y h p = xx' := ⟨_, rfl⟩
    rw [hiy]
    have HIY := hid hiy
    clear hiy
    obtain ⟨oy, hoy⟩ : ∃ xx', bOk y h p = xx' := ⟨_, rfl⟩
    rw [hoy]
    have HOY := hid hoy
    clear hoy
    cases ox with
    | true =>
      cases oy with
      | true =>
        obtain ⟨w1, w2, x1, x2⟩ := bIdx_bd HOX.out
        obtain ⟨h1, h2, y1, y2⟩ := bIdx_bd HOY.out
        rw [HIX.out] at x1 x2
        rw [HIY.out] at y1 y2
        obtain ⟨pa0, pa1, pa2, pa3⟩ := pix_at (w := w) (h := h) (x := ix) (y := iy) q1 q2 q4 x1 x2 y1 y2
        have hwh := (pValid_iff.1 HV.out).2.1
        rw [HL.out] at hwh
        obtain ⟨PA, hPA⟩ : ∃ P, iy * w = P := ⟨_, rfl⟩
        rw [hPA] at pa0 pa1 pa2 pa3
        have hlt : PA + ix < n := by omega
        clear hwh
        obtain ⟨pbk, po, hpa⟩ := row_at (H1.out.old HS.out).row (by omega)
        have cz := row_cell (by rw [← hpa]; exact (H1.out.old HS.out).row) (j := (PA + ix).toNat) (by omega)
        have HPX := hid (show zs.getD (PA + ix).toNat 0 = pPix w h zs p f x y from by unfold pPix; rw [if_pos ⟨HOX.out, HOY.out⟩, HIX.out, HIY.out, hPA])
        rw [HPX.out] at cz
        subst hpa
        have z18 := H1.out.cell 1 rfl 0 rfl
        have z19 := H1.out.cell 1 rfl 1 rfl
        have z20 := H1.out.cell 1 rfl 2 rfl
        have z21 := H1.out.cell 1 rfl 3 rfl
        go_wp2_with fail
        clear z18 z19 z20 z21
        go_ret
        exact ⟨rfl, by first | exact H1.out.below | exact H1.out.below'⟩
      | false =>
        have z22 := H1.out.cell 0 rfl 0 rfl
        have z23 := H1.out.cell 0 rfl 1 rfl
        go_wp2_with fail
        clear z22 z23
        go_ret
        exact ⟨ret_i (by unfold pPix; rw [if_neg (fun e => by have := e.2; rw [HOY.out] at this; cases this)]), by first | exact H1.out.below | exact H1.out.below'⟩
    | false =>
      have z24 := H1.out.cell 0 rfl 0 rfl
      have z25 := H1.out.cell 0 rfl 1 rfl
      go_wp2_with fail
      clear z24 z25
      go_ret
      exact ⟨ret_i (by unfold pPix; rw [if_neg (fun e => by have := e.1; rw [HOX.out] at this; cases this)]), by first | exact H1.out.below | exact H1.out.below'⟩
  · skip
    by_cases c26 : (w : Int) ≤ x
    · skip
      have z27 := H1.out.cell 1 rfl 0 rfl
      have z28 := H1.out.cell 1 rfl 1 rfl
      have z29 := H1.out.cell 1 rfl 2 rfl
      have z30 := H1.out.cell 1 rfl 3 rfl
      have z31 := H1.out.cell 0 rfl 0 rfl
      have z32 := H1.out.cell 0 rfl 1 rfl
      go_wp2_with fail
      clear z27 z28 z29 z30 z31 z32
      refine (index_any _ _ _ _).mono ?_
      rintro e w33 ⟨rfl, hsw⟩
      have hsw2 : w2 = w33 := by first | exact hsw | exact hsw.symm
      clear hsw
      subst hsw2
      obtain ⟨ix, hix⟩ : ∃ xx', bIdx x w p = xx' := ⟨_, rfl⟩
      rw [hix]
      have HIX := hid hix
      clear hix
      obtain ⟨ox, hox⟩ : ∃ xx', bOk x w p = xx' := ⟨_, rfl⟩
      rw [hox]
      have HOX := hid hox
      clear hox
      have z34 := H1.out.cell 1 rfl 0 rfl
      have z35 := H1.out.cell 1 rfl 1 rfl
      have z36 := H1.out.cell 1 rfl 2 rfl
      have z37 := H1.out.cell 1 rfl 3 rfl
      have z38 := H1.out.cell 0 rfl 0 rfl
      have z39 := H1.out.cell 0 rfl 1 rfl
      go_wp2_with fail
      clear z34 z35 z36 z37 z38 z39
      refine (index_any _ _ _ _).mono ?_
      rintro e w40 ⟨rfl, hsw⟩
      have hsw2 : w2 = w40 := by first | exact hsw | exact hsw.symm
      clear hsw
      subst hsw2
      obtain ⟨iy, hiy⟩ : ∃ xx', bIdx y h p = xx' := ⟨_, rfl⟩
      rw [hiy]
      have HIY := hid hiy
      clear hiy
      obtain ⟨oy, hoy⟩ : ∃ xx', bOk y h p = xx' := ⟨_, rfl⟩
      rw [hoy]
      have HOY := hid hoy
      clear hoy
      cases ox with
      | true =>
        cases oy with
        | true =>
          obtain ⟨w1, w2, x1, x2⟩ := bIdx_bd HOX.out
          obtain ⟨h1, h2, y1, y2⟩ := bIdx_bd HOY.out
          rw [HIX.out] at x1 x2
          rw [HIY.out] at y1 y2
          obtain ⟨pa0, pa1, pa2, pa3⟩ := pix_at (w := w) (h := h) (x := ix) (y := iy) q1 q2 q4 x1 x2 y1 y2
          have hwh := (pValid_iff.1 HV.out).2.1
          rw [HL.out] at hwh
          obtain ⟨PA, hPA⟩ : ∃ P, iy * w = P := ⟨_, rfl⟩
          rw [hPA] at pa0 pa1 pa2 pa3
          have hlt : PA + ix < n := by omega
          clear hwh
          obtain ⟨pbk, po, hpa⟩ := row_at (H1.out.old HS.out).row (by omega)
          have cz := row_cell (by rw [← hpa]; exact (H1.out.old HS.out).row) (j := (PA + ix).toNat) (by omega)
          have HPX := hid (show zs.getD (PA + ix).toNat 0 = pPix w h zs p f x y from by unfold pPix; rw [if_pos ⟨HOX.out, HOY.out⟩, HIX.out, HIY.out, hPA])
          rw [HPX.out] at cz
          subst hpa
          have z41 := H1.out.cell 1 rfl 0 rfl
          have z42 := H1.out.cell 1 rfl 1 rfl
          have z43 := H1.out.cell 1 rfl 2 rfl
          have z44 := H1.out.cell 1 rfl 3 rfl
          go_wp2_with fail
          clear z41 z42 z43 z44
          go_ret
          exact ⟨rfl, by first | exact H1.out.below | exact H1.out.below'⟩
        | false =>
          have z45 := H1.out.cell 0 rfl 0 rfl
          have z46 := H1.out.cell 0 rfl 1 rfl
          go_wp2_with fail
          clear z45 z46
          go_ret
          exact ⟨ret_i (by unfold pPix; rw [if_neg (fun e => by have := e.2; rw [HOY.out] at this; cases this)]), by first | exact H1.out.below | exact H1.out.below'⟩
      | false =>
        have z47 := H1.out.cell 0 rfl 0 rfl
        have z48 := H1.out.cell 0 rfl 1 rfl
        go_wp2_with fail
        clear z47 z48
        go_ret
        exact ⟨ret_i (by unfold pPix; rw [if_neg (fun e => by have := e.1; rw [HOX.out] at this; cases this)]), by first | exact H1.out.below | exact H1.out.below'⟩
    · skip
      by_cases c49 : (y : Int) < 0
      · skip
        have z50 := H1.out.cell 1 rfl 0 rfl
        have z51 := H1.out.cell 1 rfl 1 rfl
        have z52 := H1.out.cell 1 rfl 2 rfl
        have z53 := H1.out.cell 1 rfl 3 rfl
        have z54 := H1.out.cell 0 rfl 0 rfl
        have z55 := H1.out.cell 0 rfl 1 rfl
        go_wp2_with fail
        clear z50 z51 z52 z53 z54 z55
        refine (index_any _ _ _ _).mono ?_
        rintro e w56 ⟨rfl, hsw⟩
        have hsw2 : w2 = w56 := by first | exact hsw | exact hsw.symm
        clear hsw
        subst hsw2
        obtain ⟨ix, hix⟩ : ∃ xx', bIdx x w p = xx' := ⟨_, rfl⟩
        rw [hix]
        have HIX := hid hix
        clear hix
        obtain ⟨ox, hox⟩ : ∃ xx', bOk x w p = xx' := ⟨_, rfl⟩
        rw [hox]
        have HOX := hid hox
        clear hox
        have z57 := H1.out.cell 1 rfl 0 rfl
        have z58 := H1.out.cell 1 rfl 1 rfl
        have z59 := H1.out.cell 1 rfl 2 rfl
        have z60 := H1.out.cell 1 rfl 3 rfl
        have z61 := H1.out.cell 0 rfl 0 rfl
        have z62 := H1.out.cell 0 rfl 1 rfl
        go_wp2_with fail
        clear z57 z58 z59 z60 z61 z62
        refine (index_any _ _ _ _).mono ?_
        rintro e w63 ⟨rfl, hsw⟩
        have hsw2 : w2 = w63 := by first | exact hsw | exact hsw.symm
        clear hsw
        subst hsw2
        obtain ⟨iy, hiy⟩ : ∃ xx', bIdx y h p = xx' := ⟨_, rfl⟩
        rw [hiy]
        have HIY := hid hiy
        clear hiy
        obtain ⟨oy, hoy⟩ : ∃ xx', bOk y h p = xx' := ⟨_, rfl⟩
        rw [hoy]
        have HOY := hid hoy
        clear hoy
        cases ox with
        | true =>
          cases oy with
          | true =>
            obtain ⟨w1, w2, x1, x2⟩ := bIdx_bd HOX.out
            obtain ⟨h1, h2, y1, y2⟩ := bIdx_bd HOY.out
            rw [HIX.out] at x1 x2
            rw [HIY.out] at y1 y2
            obtain ⟨pa0, pa1, pa2, pa3⟩ := pix_at (w := w) (h := h) (x := ix) (y := iy) q1 q2 q4 x1 x2 y1 y2
            have hwh := (pValid_iff.1 HV.out).2.1
            rw [HL.out] at hwh
            obtain ⟨PA, hPA⟩ : ∃ P, iy * w = P := ⟨_, rfl⟩
            rw [hPA] at pa0 pa1 pa2 pa3
            have hlt : PA + ix < n := by omega
            clear hwh
            obtain ⟨pbk, po, hpa⟩ := row_at (H1.out.old HS.out).row (by omega)
            have cz := row_cell (by rw [← hpa]; exact (H1.out.old HS.out).row) (j := (PA + ix).toNat) (by omega)
            have HPX := hid (show zs.getD (PA + ix).toNat 0 = pPix w h zs p f x y from by unfold pPix; rw [if_pos ⟨HOX.out, HOY.out⟩, HIX.out, HIY.out, hPA])
            rw [HPX.out] at cz
            subst hpa
            have z64 := H1.out.cell 1 rfl 0 rfl
            have z65 := H1.out.cell 1 rfl 1 rfl
            have z66 := H1.out.cell 1 rfl 2 rfl
            have z67 := H1.out.cell 1 rfl 3 rfl
            go_wp2_with fail
            clear z64 z65 z66 z67
            go_ret
            exact ⟨rfl, by first | exact H1.out.below | exact H1.out.below'⟩
          | false =>
            have z68 := H1.out.cell 0 rfl 0 rfl
            have z69 := H1.out.cell 0 rfl 1 rfl
            go_wp2_with fail
            clear z68 z69
            go_ret
            exact ⟨ret_i (by unfold pPix; rw [if_neg (fun e => by have := e.2; rw [HOY.out] at this; cases this)]), by first | exact H1.out.below | exact H1.out.below'⟩
        | false =>
          have z70 := H1.out.cell 0 rfl 0 rfl
          have z71 := H1.out.cell 0 rfl 1 rfl
          go_wp2_with fail
          clear z70 z71
          go_ret
          exact ⟨ret_i (by unfold pPix; rw [if_neg (fun e => by have := e.1; rw [HOX.out] at this; cases this)]), by first | exact H1.out.below | exact H1.out.below'⟩
      · skip
        by_cases c72 : (h : Int) ≤ y
        · skip
          have z73 := H1.out.cell 1 rfl 0 rfl
          have z74 := H1.out.cell 1 rfl 1 rfl
          have z75 := H1.out.cell 1 rfl 2 rfl
          have z76 := H1.out.cell 1 rfl 3 rfl
          have z77 := H1.out.cell 0 rfl 0 rfl
          have z78 := H1.out.cell 0 rfl 1 rfl
          go_wp2_with fail
          clear z73 z74 z75 z76 z77 z78
          refine (index_any _ _ _ _).mono ?_
          rintro e w79 ⟨rfl, hsw⟩
          have hsw2 : w2 = w79 := by first | exact hsw | exact hsw.symm
          clear hsw
          subst hsw2
          obtain ⟨ix, hix⟩ : ∃ xx', bIdx x w p = xx' := ⟨_, rfl⟩
          rw [hix]
          have HIX := hid hix
          clear hix
          obtain ⟨ox, hox⟩ : ∃ xx', bOk x w p = xx' := ⟨_, rfl⟩
          rw [hox]
          have HOX := hid hox
          clear hox
          have z80 := H1.out.cell 1 rfl 0 rfl
          have z81 := H1.out.cell 1 rfl 1 rfl
          have z82 := H1.out.cell 1 rfl 2 rfl
          have z83 := H1.out.cell 1 rfl 3 rfl
          have z84 := H1.out.cell 0 rfl 0 rfl
          have z85 := H1.out.cell 0 rfl 1 rfl
          go_wp2_with fail
          clear z80 z81 z82 z83 z84 z85
          refine (index_any _ _ _ _).mono ?_
          rintro e w86 ⟨rfl, hsw⟩
          have hsw2 : w2 = w86 := by first | exact hsw | exact hsw.symm
          clear hsw
          subst hsw2
          obtain ⟨iy, hiy⟩ : ∃ xx', bIdx y h p = xx' := ⟨_, rfl⟩
          rw [hiy]
          have HIY := hid hiy
          clear hiy
          obtain ⟨oy, hoy⟩ : ∃ xx', bOk y h p = xx' := ⟨_, rfl⟩
          rw [hoy]
          have HOY := hid hoy
          clear hoy
          cases ox with
          | true =>
            cases oy with
            | true =>
              obtain ⟨w1, w2, x1, x2⟩ := bIdx_bd HOX.out
              obtain ⟨h1, h2, y1, y2⟩ := bIdx_bd HOY.out
              rw [HIX.out] at x1 x2
              rw [HIY.out] at y1 y2
              obtain ⟨pa0, pa1, pa2, pa3⟩ := pix_at (w := w) (h := h) (x := ix) (y := iy) q1 q2 q4 x1 x2 y1 y2
              have hwh := (pValid_iff.1 HV.out).2.1
              rw [HL.out] at hwh
              obtain ⟨PA, hPA⟩ : ∃ P, iy * w = P := ⟨_, rfl⟩
              rw [hPA] at pa0 pa1 pa2 pa3
              have hlt : PA + ix < n := by omega
              clear hwh
              obtain ⟨pbk, po, hpa⟩ := row_at (H1.out.old HS.out).row (by omega)
              have cz := row_cell (by rw [← hpa]; exact (H1.out.old HS.out).row) (j := (PA + ix).toNat) (by omega)
              have HPX := hid (show zs.getD (PA + ix).toNat 0 = pPix w h zs p f x y from by unfold pPix; rw [if_pos ⟨HOX.out, HOY.out⟩, HIX.out, HIY.out, hPA])
              rw [HPX.out] at cz
              subst hpa
              have z87 := H1.out.cell 1 rfl 0 rfl
              have z88 := H1.out.cell 1 rfl 1 rfl
              have z89 := H1.out.cell 1 rfl 2 rfl
              have z90 := H1.out.cell 1 rfl 3 rfl
              go_wp2_with fail
              clear z87 z88 z89 z90
              go_ret
              exact ⟨rfl, by first | exact H1.out.below | exact H1.out.below'⟩
            | false =>
              have z91 := H1.out.cell 0 rfl 0 rfl
              have z92 := H1.out.cell 0 rfl 1 rfl
              go_wp2_with fail
              clear z91 z92
              go_ret
              exact ⟨ret_i (by unfold pPix; rw [if_neg (fun e => by have := e.2; rw [HOY.out] at this; cases this)]), by first | exact H1.out.below | exact H1.out.below'⟩
          | false =>
            have z93 := H1.out.cell 0 rfl 0 rfl
            have z94 := H1.out.cell 0 rfl 1 rfl
            go_wp2_with fail
            clear z93 z94
            go_ret
            exact ⟨ret_i (by unfold pPix; rw [if_neg (fun e => by have := e.1; rw [HOX.out] at this; cases this)]), by first | exact H1.out.below | exact H1.out.below'⟩
        · skip
          obtain ⟨x1, x2, y1, y2⟩ : 0 ≤ x ∧ x < w ∧ 0 ≤ y ∧ y < h := by omega
          obtain ⟨pa0, pa1, pa2, pa3⟩ := pix_at (w := w) (h := h) (x := x) (y := y) q1 q2 q4 x1 x2 y1 y2
          have hwh := (pValid_iff.1 HV.out).2.1
          rw [HL.out] at hwh
          obtain ⟨PA, hPA⟩ : ∃ P, y * w = P := ⟨_, rfl⟩
          rw [hPA] at pa0 pa1 pa2 pa3
          have hlt : PA + x < n := by omega
          clear hwh
          obtain ⟨pbk, po, hpa⟩ := row_at (H1.out.old HS.out).row (by omega)
          have cz := row_cell (by rw [← hpa]; exact (H1.out.old HS.out).row) (j := (PA + x).toNat) (by omega)
          have HPX := hid (show zs.getD (PA + x).toNat 0 = pPix w h zs p f x y from by rw [pPix_in zs q2 q4 HP.out ⟨x1, x2⟩ ⟨y1, y2⟩, hPA])
          rw [HPX.out] at cz
          subst hpa
          have z95 := H1.out.cell 1 rfl 0 rfl
          have z96 := H1.out.cell 1 rfl 1 rfl
          have z97 := H1.out.cell 1 rfl 2 rfl
          have z98 := H1.out.cell 1 rfl 3 rfl
          go_wp2_with fail
          clear z95 z96 z97 z98
          go_ret
          exact ⟨rfl, by first | exact H1.out.below | exact H1.out.below'⟩
end Go.Proofs.Ytocikgdkigcjbaa
