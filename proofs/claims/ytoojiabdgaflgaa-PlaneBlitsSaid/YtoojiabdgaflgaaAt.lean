/-
  Contracts: the pixels of planes, also outside of them, in the program and in the reference; edges that the tape makes.
-/
import Derived.Test.YtoojiabdgaflgaaBlit
import Derived.Test.YtoojiabdgaflgaaBorderV
namespace Go.Proofs.Ytoojiabdgaflgaa
open Go.RowKit
attribute [local go_sem ↓] Go.wp_at_zero Go.wp_at_succ
set_option linter.unusedVariables false
set_option linter.unusedSimpArgs false

theorem bIdx_bd {i n p : Int} (h : bOk i n p = true) : 1 ≤ n ∧ n ≤ 128 ∧ 0 ≤ bIdx i n p ∧ bIdx i n p < n := by
  by_cases h1 : n < 1
  · simp [bOk, h1] at h
  by_cases h2 : 128 < n
  · simp [bOk, h1, h2] at h
  obtain ⟨m1, m2⟩ : 0 ≤ i % (2 * n) ∧ i % (2 * n) < 2 * n := ⟨Int.emod_nonneg _ (by omega), Int.emod_lt_of_pos _ (by omega)⟩
  obtain ⟨m3, m4⟩ : 0 ≤ i % n ∧ i % n < n := ⟨Int.emod_nonneg _ (by omega), Int.emod_lt_of_pos _ (by omega)⟩
  refine ⟨by omega, by omega, ?_⟩
  unfold bIdx
  rw [if_neg h1, if_neg h2]
  repeat' split
  all_goals omega
def pPix (w h : Int) (zs : List Int) (p f x y : Int) : Int := if bOk x w p = true ∧ bOk y h p = true then zs.getD (bIdx y h p * w + bIdx x w p).toNat 0 else f
def pAt (w h mx : Int) (zs : List Int) (p f x y : Int) : Int := if pValid w h mx zs = true ∧ bValid p f mx = true then pPix w h zs p f x y else 0

set_option maxRecDepth 100000 in
set_option maxHeartbeats 3200000 in
theorem qpixel_any (w h mx : Int) (a : Option Addr) (n c : Nat) (zs : List Int) (p f x y : Int) (W : World) (hs : Slc W a n c zs) (hv : pValid w h mx zs = true) :
    Calls Try.prog 88 #[.agg #[.int .i64 w, .int .i64 h, .int .i64 mx, .slice a n c], .agg #[.int .i64 p, .int .i64 f], .int .i64 x, .int .i64 y] W fun e w' => e = .returned (.int .i64 (pPix w h zs p f x y)) ∧ Below W.heap.size W w' := by
  obtain ⟨B, hB⟩ : ∃ B, W.heap.size = B := ⟨_, rfl⟩
  have HI0 := hid (St.init hB)
  have HS := hid hs
  have HL := hid hs.len
  have HV := hid hv
  clear hv
  clear hs
  go_enter Try.func88, Try.ntmps88
  go_upto_region 1 with fail
  have H1 := hid (show St B W [.cells (B + 1) #[.int .i64 p, .int .i64 f] 72, .cells B #[.int .i64 w, .int .i64 h, .int .i64 mx, .slice a n c] 26] [] ((W.alloc (.cells #[.int .i64 w, .int .i64 h, .int .i64 mx, .slice a n c] 26)).alloc (.cells #[.int .i64 p, .int .i64 f] 72)) from ((HI0.out.alloc #[.int .i64 w, .int .i64 h, .int .i64 mx, .slice a n c] 26 hB).alloc #[.int .i64 p, .int .i64 f] 72 (by first | exact hB | simp [hB])))
  first | refine gen_code H1.out ?_ | refine gen_list H1.out ?_ | refine gen_calls H1.out ?_
  intro w2 hG
  clear H1
  have H1 := hid hG
  clear hG
  have z3 := H1.out.cell 1 rfl 0 rfl
  have z4 := H1.out.cell 1 rfl 1 rfl
  have z5 := H1.out.cell 1 rfl 2 rfl
  have z6 := H1.out.cell 1 rfl 3 rfl
  have z7 := H1.out.cell 0 rfl 0 rfl
  have z8 := H1.out.cell 0 rfl 1 rfl
  go_wp2_with fail
  clear z3 z4 z5 z6 z7 z8
  refine (rindex_any _ _ _ _).mono ?_
  rintro e w9 ⟨rfl, hsw⟩
  have hsw2 : w2 = w9 := by first | exact hsw | exact hsw.symm
  clear hsw
  subst hsw2
  obtain ⟨ix, hix⟩ : ∃ z, bIdx x w p = z := ⟨_, rfl⟩
  rw [hix]
  have HIX := hid hix
  clear hix
  obtain ⟨ox, hox⟩ : ∃ z, bOk x w p = z := ⟨_, rfl⟩
  rw [hox]
  have HOX := hid hox
  clear hox
  have z10 := H1.out.cell 1 rfl 0 rfl
  have z11 := H1.out.cell 1 rfl 1 rfl
  have z12 := H1.out.cell 1 rfl 2 rfl
  have z13 := H1.out.cell 1 rfl 3 rfl
  have z14 := H1.out.cell 0 rfl 0 rfl
  have z15 := H1.out.cell 0 rfl 1 rfl
  go_wp2_with fail
  clear z10 z11 z12 z13 z14 z15
  refine (rindex_any _ _ _ _).mono ?_
  rintro e w16 ⟨rfl, hsw⟩
  have hsw2 : w2 = w16 := by first | exact hsw | exact hsw.symm
  clear hsw
  subst hsw2
  obtain ⟨iy, hiy⟩ : ∃ z, bIdx y h p = z := ⟨_, rfl⟩
  rw [hiy]
  have HIY := hid hiy
  clear hiy
  obtain ⟨oy, hoy⟩ : ∃ z, bOk y h p = z := ⟨_, rfl⟩
  rw [hoy]
  have HOY := hid hoy
  clear hoy
  cases ox with
  | true =>
    cases oy with
    | true =>
      obtain ⟨w1, w2, x1, x2⟩ := bIdx_bd HOX.out
      obtain ⟨h1, h2, y1, y2⟩ := bIdx_bd HOY.out
      rw [HIX.out] at x1 x2
      rw [HIY.out] at y1 y2
      obtain ⟨pa0, pa1, pa2, pa3⟩ := pix_at (w := w) (h := h) (x := ix) (y := iy) w1 w2 h2 x1 x2 y1 y2
      have hwh := (pValid_iff.1 HV.out).2.1
      rw [HL.out] at hwh
      obtain ⟨PA, hPA⟩ : ∃ P, iy * w = P := ⟨_, rfl⟩
      rw [hPA] at pa0 pa1 pa2 pa3
      have hlt : PA + ix < n := by omega
      clear hwh
      obtain ⟨pbk, po, hpa⟩ := row_at (H1.out.old HS.out).row (by omega)
      have cz := row_cell (by rw [← hpa]; exact (H1.out.old HS.out).row) (j := (PA + ix).toNat) (by omega)
      have HPX := hid (show zs.getD (PA + ix).toNat 0 = pPix w h zs p f x y from by unfold pPix; rw [if_pos ⟨HOX.out, HOY.out⟩, HIX.out, HIY.out, hPA])
      rw [HPX.out] at cz
      subst hpa
      have z17 := H1.out.cell 1 rfl 0 rfl
      have z18 := H1.out.cell 1 rfl 1 rfl
      have z19 := H1.out.cell 1 rfl 2 rfl
      have z20 := H1.out.cell 1 rfl 3 rfl
      go_wp2_with fail
      clear z17 z18 z19 z20
      go_ret
      exact ⟨rfl, by first | exact H1.out.below | exact H1.out.below'⟩
    | false =>
      have z21 := H1.out.cell 0 rfl 0 rfl
      have z22 := H1.out.cell 0 rfl 1 rfl
      go_wp2_with fail
      clear z21 z22
      go_ret
      exact ⟨ret_i (by unfold pPix; rw [if_neg (fun e => by have := e.2; rw [HOY.out] at this; cases this)]), by first | exact H1.out.below | exact H1.out.below'⟩
  | false =>
    have z23 := H1.out.cell 0 rfl 0 rfl
    have z24 := H1.out.cell 0 rfl 1 rfl
    go_wp2_with fail
    clear z23 z24
    go_ret
    exact ⟨ret_i (by unfold pPix; rw [if_neg (fun e => by have := e.1; rw [HOX.out] at this; cases this)]), by first | exact H1.out.below | exact H1.out.below'⟩

set_option maxRecDepth 100000 in
set_option maxHeartbeats 3200000 in
theorem qat4_any (w h mx : Int) (a : Option Addr) (n c : Nat) (zs : List Int) (p f x y : Int) (W : World) (hs : Slc W a n c zs) :
    Calls Try.prog 59 #[.agg #[.int .i64 w, .int .i64 h, .int .i64 mx, .slice a n c], .agg #[.int .i64 p, .int .i64 f], .int .i64 x, .int .i64 y] W fun e w' => e = .returned (.int .i64 (pAt w h mx zs p f x y)) ∧ Below W.heap.size W w' := by
  obtain ⟨B, hB⟩ : ∃ B, W.heap.size = B := ⟨_, rfl⟩
  have HI0 := hid (St.init hB)
  have HS := hid hs
  have HL := hid hs.len
  clear hs
  go_enter Try.func59, Try.ntmps59
  go_upto_region 1 with fail
  have H25 := hid (show St B W [.cells (B + 1) #[.int .i64 p, .int .i64 f] 72, .cells B #[.int .i64 w, .int .i64 h, .int .i64 mx, .slice a n c] 26] [] ((W.alloc (.cells #[.int .i64 w, .int .i64 h, .int .i64 mx, .slice a n c] 26)).alloc (.cells #[.int .i64 p, .int .i64 f] 72)) from ((HI0.out.alloc #[.int .i64 w, .int .i64 h, .int .i64 mx, .slice a n c] 26 hB).alloc #[.int .i64 p, .int .i64 f] 72 (by first | exact hB | simp [hB])))
  first | refine gen_code H25.out ?_ | refine gen_list H25.out ?_ | refine gen_calls H25.out ?_
  intro w26 hG
  clear H25
  have H25 := hid hG
  clear hG
  have z27 := H25.out.cell 1 rfl 0 rfl
  have z28 := H25.out.cell 1 rfl 1 rfl
  have z29 := H25.out.cell 1 rfl 2 rfl
  have z30 := H25.out.cell 1 rfl 3 rfl
  go_wp2_with fail
  clear z27 z28 z29 z30
  refine (qpvalid_any _ _ _ _ _ _ _ _ (by have := HS.out.nc; have := HS.out.cap; omega) (H25.out.old HS.out).row).mono ?_
  rintro e w31 ⟨rfl, hb⟩
  have H32 := hid (H25.out.call hb)
  clear hb
  obtain ⟨bv, hbv⟩ : ∃ z, pValid w h mx zs = z := ⟨_, rfl⟩
  rw [hbv]
  have HV := hid hbv
  clear hbv
  cases bv with
  | true =>
    have z33 := H32.out.cell 0 rfl 0 rfl
    have z34 := H32.out.cell 0 rfl 1 rfl
    have z35 := H32.out.cell 1 rfl 0 rfl
    have z36 := H32.out.cell 1 rfl 1 rfl
    have z37 := H32.out.cell 1 rfl 2 rfl
    have z38 := H32.out.cell 1 rfl 3 rfl
    go_wp2_with fail
    clear z33 z34 z35 z36 z37 z38
    refine (rbvalid_any _ _ _ _).mono ?_
    rintro e w39 ⟨rfl, hb⟩
    have H40 := hid (H32.out.call hb)
    clear hb
    obtain ⟨be, hbe⟩ : ∃ z, bValid p f mx = z := ⟨_, rfl⟩
    rw [hbe]
    have HE := hid hbe
    clear hbe
    cases be with
    | true =>
      have z41 := H40.out.cell 1 rfl 0 rfl
      have z42 := H40.out.cell 1 rfl 1 rfl
      have z43 := H40.out.cell 1 rfl 2 rfl
      have z44 := H40.out.cell 1 rfl 3 rfl
      have z45 := H40.out.cell 0 rfl 0 rfl
      have z46 := H40.out.cell 0 rfl 1 rfl
      go_wp2_with fail
      clear z41 z42 z43 z44 z45 z46
      refine (qpixel_any _ _ _ _ _ _ _ _ _ _ _ _ (H40.out.old HS.out) HV.out).mono ?_
      rintro e w47 ⟨rfl, hb⟩
      have H48 := hid (H40.out.call hb)
      clear hb
      go_wp2_with fail
      go_ret
      exact ⟨ret_i (by unfold pAt; rw [if_pos ⟨HV.out, HE.out⟩]), by first | exact H48.out.below | exact H48.out.below'⟩
    | false =>
      go_wp2_with fail
      go_ret
      exact ⟨ret_i (by unfold pAt; rw [if_neg (fun e => by have := e.2; rw [HE.out] at this; cases this)]), by first | exact H40.out.below | exact H40.out.below'⟩
  | false =>
    go_wp2_with fail
    go_ret
    exact ⟨ret_i (by unfold pAt; rw [if_neg (fun e => by have := e.1; rw [HV.out] at this; cases this)]), by first | exact H32.out.below | exact H32.out.below'⟩

set_option maxRecDepth 100000 in
set_option maxHeartbeats 3200000 in
theorem pat_any (w h mx : Int) (a : Option Addr) (n c : Nat) (zs : List Int) (p f x y : Int) (W : World) (hs : Slc W a n c zs) :
    Calls Try.prog 58 #[.agg #[.int .i64 w, .int .i64 h, .int .i64 mx, .slice a n c], .agg #[.int .i64 p, .int .i64 f], .int .i64 x, .int .i64 y] W fun e w' => e = .returned (.int .i64 (pAt w h mx zs p f x y)) ∧ Below W.heap.size W w' := by
  obtain ⟨B, hB⟩ : ∃ B, W.heap.size = B := ⟨_, rfl⟩
  have HI0 := hid (St.init hB)
  have HS := hid hs
  have HL := hid hs.len
  clear hs
  go_enter Try.func58, Try.ntmps58
  go_upto_region 1 with fail
  have H49 := hid (show St B W [.cells (B + 1) #[.int .i64 p, .int .i64 f] 72, .cells B #[.int .i64 w, .int .i64 h, .int .i64 mx, .slice a n c] 26] [] ((W.alloc (.cells #[.int .i64 w, .int .i64 h, .int .i64 mx, .slice a n c] 26)).alloc (.cells #[.int .i64 p, .int .i64 f] 72)) from ((HI0.out.alloc #[.int .i64 w, .int .i64 h, .int .i64 mx, .slice a n c] 26 hB).alloc #[.int .i64 p, .int .i64 f] 72 (by first | exact hB | simp [hB])))
  first | refine gen_code H49.out ?_ | refine gen_list H49.out ?_ | refine gen_calls H49.out ?_
  intro w50 hG
  clear H49
  have H49 := hid hG
  clear hG
  have z51 := H49.out.cell 1 rfl 0 rfl
  have z52 := H49.out.cell 1 rfl 1 rfl
  have z53 := H49.out.cell 1 rfl 2 rfl
  have z54 := H49.out.cell 1 rfl 3 rfl
  go_wp2_with fail
  clear z51 z52 z53 z54
  refine (pvalid_any _ _ _ _ _ _ _ _ (by have := HS.out.nc; have := HS.out.cap; omega) (H49.out.old HS.out).row).mono ?_
  rintro e w55 ⟨rfl, hb⟩
  have H56 := hid (H49.out.call hb)
  clear hb
  obtain ⟨bv, hbv⟩ : ∃ z, pValid w h mx zs = z := ⟨_, rfl⟩
  rw [hbv]
  have HV := hid hbv
  clear hbv
  cases bv with
  | true =>
    have z57 := H56.out.cell 0 rfl 0 rfl
    have z58 := H56.out.cell 0 rfl 1 rfl
    have z59 := H56.out.cell 1 rfl 0 rfl
    have z60 := H56.out.cell 1 rfl 1 rfl
    have z61 := H56.out.cell 1 rfl 2 rfl
    have z62 := H56.out.cell 1 rfl 3 rfl
    go_wp2_with fail
    clear z57 z58 z59 z60 z61 z62
    refine (bvalid_any _ _ _ _).mono ?_
    rintro e w63 ⟨rfl, hb⟩
    have H64 := hid (H56.out.call hb)
    clear hb
    obtain ⟨be, hbe⟩ : ∃ z, bValid p f mx = z := ⟨_, rfl⟩
    rw [hbe]
    have HE := hid hbe
    clear hbe
    cases be with
    | true =>
      have z65 := H64.out.cell 1 rfl 0 rfl
      have z66 := H64.out.cell 1 rfl 1 rfl
      have z67 := H64.out.cell 1 rfl 2 rfl
      have z68 := H64.out.cell 1 rfl 3 rfl
      have z69 := H64.out.cell 0 rfl 0 rfl
      have z70 := H64.out.cell 0 rfl 1 rfl
      go_wp2_with fail
      clear z65 z66 z67 z68 z69 z70
      refine (index_any _ _ _ _).mono ?_
      rintro e w71 ⟨rfl, hsw⟩
      have hsw2 : w63 = w71 := by first | exact hsw | exact hsw.symm
      clear hsw
      subst hsw2
      obtain ⟨ix, hix⟩ : ∃ z, bIdx x w p = z := ⟨_, rfl⟩
      rw [hix]
      have HIX := hid hix
      clear hix
      obtain ⟨ox, hox⟩ : ∃ z, bOk x w p = z := ⟨_, rfl⟩
      rw [hox]
      have HOX := hid hox
      clear hox
      have z72 := H64.out.cell 1 rfl 0 rfl
      have z73 := H64.out.cell 1 rfl 1 rfl
      have z74 := H64.out.cell 1 rfl 2 rfl
      have z75 := H64.out.cell 1 rfl 3 rfl
      have z76 := H64.out.cell 0 rfl 0 rfl
      have z77 := H64.out.cell 0 rfl 1 rfl
      go_wp2_with fail
      clear z72 z73 z74 z75 z76 z77
      refine (index_any _ _ _ _).mono ?_
      rintro e w78 ⟨rfl, hsw⟩
      have hsw2 : w63 = w78 := by first | exact hsw | exact hsw.symm
      clear hsw
      subst hsw2
      obtain ⟨iy, hiy⟩ : ∃ z, bIdx y h p = z := ⟨_, rfl⟩
      rw [hiy]
      have HIY := hid hiy
      clear hiy
      obtain ⟨oy, hoy⟩ : ∃ z, bOk y h p = z := ⟨_, rfl⟩
      rw [hoy]
      have HOY := hid hoy
      clear hoy
      cases ox with
      | true =>
        cases oy with
        | true =>
          obtain ⟨w1, w2, x1, x2⟩ := bIdx_bd HOX.out
          obtain ⟨h1, h2, y1, y2⟩ := bIdx_bd HOY.out
          rw [HIX.out] at x1 x2
          rw [HIY.out] at y1 y2
          obtain ⟨pa0, pa1, pa2, pa3⟩ := pix_at (w := w) (h := h) (x := ix) (y := iy) w1 w2 h2 x1 x2 y1 y2
          have hwh := (pValid_iff.1 HV.out).2.1
          rw [HL.out] at hwh
          obtain ⟨PA, hPA⟩ : ∃ P, iy * w = P := ⟨_, rfl⟩
          rw [hPA] at pa0 pa1 pa2 pa3
          have hlt : PA + ix < n := by omega
          clear hwh
          obtain ⟨pbk, po, hpa⟩ := row_at (H64.out.old HS.out).row (by omega)
          have cz := row_cell (by rw [← hpa]; exact (H64.out.old HS.out).row) (j := (PA + ix).toNat) (by omega)
          have HPX := hid (show zs.getD (PA + ix).toNat 0 = pPix w h zs p f x y from by unfold pPix; rw [if_pos ⟨HOX.out, HOY.out⟩, HIX.out, HIY.out, hPA])
          rw [HPX.out] at cz
          subst hpa
          have z79 := H64.out.cell 1 rfl 0 rfl
          have z80 := H64.out.cell 1 rfl 1 rfl
          have z81 := H64.out.cell 1 rfl 2 rfl
          have z82 := H64.out.cell 1 rfl 3 rfl
          go_wp2_with fail
          clear z79 z80 z81 z82
          go_ret
          exact ⟨ret_i (by unfold pAt; rw [if_pos ⟨HV.out, HE.out⟩]), by first | exact H64.out.below | exact H64.out.below'⟩
        | false =>
          have z83 := H64.out.cell 0 rfl 0 rfl
          have z84 := H64.out.cell 0 rfl 1 rfl
          go_wp2_with fail
          clear z83 z84
          go_ret
          exact ⟨ret_i (by unfold pAt pPix; rw [if_pos ⟨HV.out, HE.out⟩, if_neg (fun e => by have := e.2; rw [HOY.out] at this; cases this)]), by first | exact H64.out.below | exact H64.out.below'⟩
      | false =>
        have z85 := H64.out.cell 0 rfl 0 rfl
        have z86 := H64.out.cell 0 rfl 1 rfl
        go_wp2_with fail
        clear z85 z86
        go_ret
        exact ⟨ret_i (by unfold pAt pPix; rw [if_pos ⟨HV.out, HE.out⟩, if_neg (fun e => by have := e.1; rw [HOX.out] at this; cases this)]), by first | exact H64.out.below | exact H64.out.below'⟩
    | false =>
      go_wp2_with fail
      go_ret
      exact ⟨ret_i (by unfold pAt; rw [if_neg (fun e => by have := e.2; rw [HE.out] at this; cases this)]), by first | exact H64.out.below | exact H64.out.below'⟩
  | false =>
    go_wp2_with fail
    go_ret
    exact ⟨ret_i (by unfold pAt; rw [if_neg (fun e => by have := e.1; rw [HV.out] at this; cases this)]), by first | exact H56.out.below | exact H56.out.below'⟩

def EdgePost (B0 k : Nat) (W : World) (e : Ending) (w' : World) : Prop := ∃ p f : Int, e = .returned (.agg #[.int .i64 p, .int .i64 f]) ∧ TapeB B0 w' k ∧ W.grownBy w' (some k)

section
variable {B0 k B : Nat} {W w : World} {l : List Ch}
theorem gen_tcode {P : Program} {c : Code} {Q : Exit → Act → World → Prop} {a : Act} (h : Tk B0 k B W l w) (q : ∀ w', Tk B0 k B W l w' → c.wp P Q a w') : c.wp P Q a w := q w h
theorem gen_tlist {P : Program} {ops : Array Oper} {Q : Exit → Act → World → Prop} {o : List Oper} {a : Act} (h : Tk B0 k B W l w) (q : ∀ w', Tk B0 k B W l w' → wpList P ops Q o a w') : wpList P ops Q o a w := q w h
theorem gen_tcalls {P : Program} {f : Nat} {args : Array Value} {post : Ending → World → Prop} (h : Tk B0 k B W l w) (q : ∀ w', Tk B0 k B W l w' → Calls P f args w' post) : Calls P f args w post := q w h
end
set_option maxRecDepth 100000 in
set_option maxHeartbeats 1600000 in
theorem edge_any (B0 k : Nat) (m : Int) (W : World) (ht : TapeB B0 W k) :
    Calls Try.prog 57 #[.pointer (some ⟨k, 0, none⟩), .int .i64 m] W (EdgePost B0 k W) := by
  obtain ⟨B, hB⟩ : ∃ B, W.heap.size = B := ⟨_, rfl⟩
  have HI0 := hid (Tk.init ht hB)
  clear ht
  go_enter Try.func57, Try.ntmps57
  go_upto_region 1 with fail
  have H87 := hid (show Tk B0 k B W [.cells B #[.int .i64 0, .int .i64 0] 72] (W.alloc (.cells #[.int .i64 0, .int .i64 0] 72)) from (HI0.out.alloc #[.int .i64 0, .int .i64 0] 72 hB))
  first | refine gen_tcode H87.out ?_ | refine gen_tlist H87.out ?_ | refine gen_tcalls H87.out ?_
  intro w88 hG
  clear H87
  have H87 := hid hG
  clear hG
  go_wp2_with fail
  refine (nextB_any B0 k _ _ (by omega) (H87.out.tape)).mono ?_
  rintro e w90 ⟨x89, rfl, x89a, x89b, htn, hgn, hsn⟩
  have H91 := hid (H87.out.next htn hgn)
  clear htn hgn hsn
  obtain ⟨D92, hD92⟩ : ∃ D, w90.heap.size = D := ⟨_, rfl⟩
  go_upto_region 2 with fail
  have H93 := hid (show Tk B0 k B W [.cells D92 #[.int .i64 x89, .int .i64 0] 72, .cells B #[.int .i64 0, .int .i64 0] 72] (w90.alloc (.cells #[.int .i64 x89, .int .i64 0] 72)) from (H91.out.alloc #[.int .i64 x89, .int .i64 0] 72 hD92))
  first | refine gen_tcode H93.out ?_ | refine gen_tlist H93.out ?_ | refine gen_tcalls H93.out ?_
  intro w94 hG
  clear H93
  have H93 := hid hG
  clear hG
  clear hD92
  by_cases hz : x89 = 3
  · skip
    have hz1 : (x89 == 3) = true := by simpa using hz
    have HZZ := hid hz
    clear hz
    obtain ⟨m2, hm3⟩ : ∃ q, wrap64 (m.tdiv 2) = q := ⟨_, rfl⟩
    have z95 := H93.out.cell 0 rfl 0 rfl
    have z96 := H93.out.cell 0 rfl 1 rfl
    go_upto_region 3 with fail
    clear z95 z96
    obtain ⟨D97, hD97⟩ : ∃ D, w94.heap.size = D := ⟨_, rfl⟩
    go_wp2_with fail
    have H98 := hid (show Tk B0 k B W [.cells D97 #[.int .i64 0, .int .i64 m, .int .i64 m2] 3, .cells D92 #[.int .i64 x89, .int .i64 0] 72, .cells B #[.int .i64 0, .int .i64 0] 72] (w94.alloc (.cells #[.int .i64 0, .int .i64 m, .int .i64 m2] 3)) from (H93.out.alloc #[.int .i64 0, .int .i64 m, .int .i64 m2] 3 hD97))
    first | refine gen_tcode H98.out ?_ | refine gen_tlist H98.out ?_ | refine gen_tcalls H98.out ?_
    intro w99 hG
    clear H98
    have H98 := hid hG
    clear hG
    clear hD97
    refine (pickB_any B0 k _ 3 3 [0, m, m2] _ (by omega) (by omega) (H98.out.tape) (H98.out.lit 0 [0, m, m2] rfl (by simp)).row (H98.out.far 0 rfl _)).mono ?_
    rintro e w101 ⟨x100, rfl, hx100, htn, hgn, hsn⟩
    have H102 := hid (H98.out.next htn hgn)
    clear htn hgn hsn
    clear hx100
    have z103 := H102.out.cell 1 rfl 0 rfl
    have z104 := H102.out.free 1 rfl 0
    have z105 := H102.out.cell 1 rfl 1 rfl
    have z106 := H102.out.free 1 rfl 1
    go_upto_region 4 with fail
    clear z103 z104 z105 z106
    have H107 := hid (show Tk B0 k B W [.cells D97 #[.int .i64 0, .int .i64 m, .int .i64 m2] 3, .cells D92 #[.int .i64 x89, .int .i64 x100] 72, .cells B #[.int .i64 0, .int .i64 0] 72] (w101.setCell ⟨D92, 1, none⟩ (.int .i64 x100)) from (H102.out.set 1 rfl 1 (.int .i64 x100)))
    first | refine gen_tcode H107.out ?_ | refine gen_tlist H107.out ?_ | refine gen_tcalls H107.out ?_
    intro w108 hG
    clear H107
    have H107 := hid hG
    clear hG
    have z109 := H107.out.cell 1 rfl 0 rfl
    have z110 := H107.out.cell 1 rfl 1 rfl
    have z111 := H107.out.cell 2 rfl 0 rfl
    have z112 := H107.out.free 2 rfl 0
    have z113 := H107.out.cell 2 rfl 1 rfl
    have z114 := H107.out.free 2 rfl 1
    go_wp2_with fail
    clear z109 z110 z111 z112 z113 z114
    have H115 := hid (show Tk B0 k B W [.cells D97 #[.int .i64 0, .int .i64 m, .int .i64 m2] 3, .cells D92 #[.int .i64 x89, .int .i64 x100] 72, .cells B #[.int .i64 x89, .int .i64 x100] 72] ((w108.setCell ⟨B, 0, none⟩ (.int .i64 x89)).setCell ⟨B, 1, none⟩ (.int .i64 x100)) from ((H107.out.set 2 rfl 0 (.int .i64 x89)).set 2 rfl 1 (.int .i64 x100)))
    have q116 := H115.out.cell 2 rfl 0 rfl
    have q117 := H115.out.cell 2 rfl 1 rfl
    refine bodyPost_ret (v := .agg #[.int .i64 x89, .int .i64 x100]) ?_ rfl ⟨x89, x100, rfl, H115.out.tape, H115.out.grown⟩
    simp [results, Try.results57, go_sem, q116, q117]
  · skip
    have hz1 : (x89 == 3) = false := by simpa using hz
    have z118 := H93.out.cell 0 rfl 0 rfl
    have z119 := H93.out.cell 0 rfl 1 rfl
    have z120 := H93.out.cell 1 rfl 0 rfl
    have z121 := H93.out.free 1 rfl 0
    have z122 := H93.out.cell 1 rfl 1 rfl
    have z123 := H93.out.free 1 rfl 1
    go_wp2_with fail
    clear z118 z119 z120 z121 z122 z123
    have H124 := hid (show Tk B0 k B W [.cells D92 #[.int .i64 x89, .int .i64 0] 72, .cells B #[.int .i64 x89, .int .i64 0] 72] ((w94.setCell ⟨B, 0, none⟩ (.int .i64 x89)).setCell ⟨B, 1, none⟩ (.int .i64 0)) from ((H93.out.set 1 rfl 0 (.int .i64 x89)).set 1 rfl 1 (.int .i64 0)))
    have q125 := H124.out.cell 1 rfl 0 rfl
    have q126 := H124.out.cell 1 rfl 1 rfl
    refine bodyPost_ret (v := .agg #[.int .i64 x89, .int .i64 0]) ?_ rfl ⟨x89, 0, rfl, H124.out.tape, H124.out.grown⟩
    simp [results, Try.results57, go_sem, q125, q126]
end Go.Proofs.Ytoojiabdgaflgaa
