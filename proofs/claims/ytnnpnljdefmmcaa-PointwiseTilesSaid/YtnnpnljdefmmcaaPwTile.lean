/-
  Contract: the tiles of programs for pixels, in the program.
-/
import Derived.Test.YtnnpnljdefmmcaaPwtPlain
import Derived.Test.YtnnpnljdefmmcaaPw10
import Derived.Test.YtnnpnljdefmmcaaKX
namespace Go.Proofs.Ytnnpnljdefmmcaa
open Go.RowKit
attribute [local go_sem ↓] Go.wp_at_zero Go.wp_at_succ
set_option linter.unusedVariables false
set_option linter.unusedSimpArgs false

set_option maxRecDepth 100000 in
set_option maxHeartbeats 12800000 in
theorem ptile14_true (w h mx : Int) (a : Option Addr) (n c : Nat) (zs : List Int) (qw qh qmx : Int) (qa : Option Addr) (qn qc : Nat) (qs : List Int) (la : Option Addr) (lx lc : Nat) (ls : List (Int × Int)) (out r0 r1 r2 r3 : Int) (W : World) (hs : Slc W a n c zs) (hq : Slc W qa qn qc qs) (ho : Prs W la lx lc ls) :
    Calls Try.prog 46 #[.agg #[.int .i64 w, .int .i64 h, .int .i64 mx, .slice a n c], .agg #[.int .i64 qw, .int .i64 qh, .int .i64 qmx, .slice qa qn qc], .bool true, .slice la lx lc, .int .i64 out, .agg #[.int .i64 r0, .int .i64 r1, .int .i64 r2, .int .i64 r3]] W (TPost (pwTC w h mx zs qw qh qmx qs true ls out r0 r1 r2 r3) (r2 - r0) (r3 - r1) out (pwL w zs true qs ls out r0 r1 r2 r3) W) := by
  obtain ⟨B, hB⟩ : ∃ B, W.heap.size = B := ⟨_, rfl⟩
  have HI0 := hid (St.init hB)
  have HS := hid hs
  have HQ := hid hq
  have HO := hid ho
  have HLZ := hid hs.len
  have HLQ := hid hq.len
  clear hs hq ho
  go_enter Try.func46, Try.ntmps46
  go_upto_region 1 with fail
  have H1 := hid (show St B W [.cells (B + 1 + 1 + 1) #[.int .i64 0, .int .i64 0, .int .i64 0, .slice none 0 0] 66, .cells (B + 1 + 1) #[.int .i64 r0, .int .i64 r1, .int .i64 r2, .int .i64 r3] 24, .cells (B + 1) #[.int .i64 qw, .int .i64 qh, .int .i64 qmx, .slice qa qn qc] 66, .cells B #[.int .i64 w, .int .i64 h, .int .i64 mx, .slice a n c] 66] [] ((((W.alloc (.cells #[.int .i64 w, .int .i64 h, .int .i64 mx, .slice a n c] 66)).alloc (.cells #[.int .i64 qw, .int .i64 qh, .int .i64 qmx, .slice qa qn qc] 66)).alloc (.cells #[.int .i64 r0, .int .i64 r1, .int .i64 r2, .int .i64 r3] 24)).alloc (.cells #[.int .i64 0, .int .i64 0, .int .i64 0, .slice none 0 0] 66)) from ((((HI0.out.alloc #[.int .i64 w, .int .i64 h, .int .i64 mx, .slice a n c] 66 hB).alloc #[.int .i64 qw, .int .i64 qh, .int .i64 qmx, .slice qa qn qc] 66 (by first | exact hB | simp [hB])).alloc #[.int .i64 r0, .int .i64 r1, .int .i64 r2, .int .i64 r3] 24 (by first | exact hB | simp [hB])).alloc #[.int .i64 0, .int .i64 0, .int .i64 0, .slice none 0 0] 66 (by first | exact hB | simp [hB])))
  first | refine gen_code H1.out ?_ | refine gen_list H1.out ?_ | refine gen_calls H1.out ?_
  intro w2 hG
  clear H1
  have H1 := hid hG
  clear hG
  have z3 := H1.out.cell 3 rfl 0 rfl
  have z4 := H1.out.cell 3 rfl 1 rfl
  have z5 := H1.out.cell 3 rfl 2 rfl
  have z6 := H1.out.cell 3 rfl 3 rfl
  go_wp2_with fail
  clear z3 z4 z5 z6
  refine (pvalid_any _ _ _ _ _ _ _ _ (by have := HS.out.nc; have := HS.out.cap; omega) (H1.out.old HS.out).row).mono ?_
  rintro e w7 ⟨rfl, hb⟩
  have H8 := hid (H1.out.call hb)
  clear hb
  obtain ⟨b9, hb9⟩ : ∃ xx', pValid w h mx zs = xx' := ⟨_, rfl⟩
  rw [hb9]
  have HNb9 := hid hb9
  clear hb9
  cases b9 with
  | true =>
    have z10 := H8.out.cell 2 rfl 0 rfl
    have z11 := H8.out.cell 2 rfl 1 rfl
    have z12 := H8.out.cell 2 rfl 2 rfl
    have z13 := H8.out.cell 2 rfl 3 rfl
    go_wp2_with fail
    clear z10 z11 z12 z13
    refine (pvalid_any _ _ _ _ _ _ _ _ (by have := HQ.out.nc; have := HQ.out.cap; omega) (H8.out.old HQ.out).row).mono ?_
    rintro e w14 ⟨rfl, hb⟩
    have H15 := hid (H8.out.call hb)
    clear hb
    obtain ⟨b16, hb16⟩ : ∃ xx', pValid qw qh qmx qs = xx' := ⟨_, rfl⟩
    rw [hb16]
    have HNb16 := hid hb16
    clear hb16
    cases b16 with
    | true =>
      go_wp2_with fail
      refine (pvalid_any14 _ _ _ ls true _ (H15.out.oldPrs HO.out)).mono ?_
      rintro e w17 ⟨rfl, hb⟩
      have H18 := hid (H15.out.call hb)
      clear hb
      obtain ⟨c19, hc19⟩ : ∃ xx', vCode ls true = xx' := ⟨_, rfl⟩
      rw [hc19]
      have HNc19 := hid hc19
      clear hc19
      by_cases c20 : (c19 : Int) = 0
      · obtain ⟨c20c, c20d⟩ : (c19 : Int) ≤ 0 ∧ (0 : Int) ≤ c19 := by omega
        have c20a : ((c19 : Int) == (0)) = true := by simpa using c20
        have c20b : ((c19 : Int) != (0)) = false := by simpa using c20
        have c20h := hid c20
        clear c20
        by_cases c21 : (out : Int) < 1
        · skip
          have z22 := H18.out.cell 0 rfl 0 rfl
          have z23 := H18.out.free 0 rfl 0
          have z24 := H18.out.cell 0 rfl 1 rfl
          have z25 := H18.out.free 0 rfl 1
          have z26 := H18.out.cell 0 rfl 2 rfl
          have z27 := H18.out.free 0 rfl 2
          have z28 := H18.out.cell 0 rfl 3 rfl
          have z29 := H18.out.free 0 rfl 3
          go_wp2_with fail
          clear z22 z23 z24 z25 z26 z27 z28 z29
          have H30 := hid (show St B W [.cells (B + 1 + 1 + 1) #[.int .i64 0, .int .i64 0, .int .i64 0, .slice none 0 0] 66, .cells (B + 1 + 1) #[.int .i64 r0, .int .i64 r1, .int .i64 r2, .int .i64 r3] 24, .cells (B + 1) #[.int .i64 qw, .int .i64 qh, .int .i64 qmx, .slice qa qn qc] 66, .cells B #[.int .i64 w, .int .i64 h, .int .i64 mx, .slice a n c] 66] [] ((((w17.setCell ⟨B + 1 + 1 + 1, 0, none⟩ (.int .i64 0)).setCell ⟨B + 1 + 1 + 1, 1, none⟩ (.int .i64 0)).setCell ⟨B + 1 + 1 + 1, 2, none⟩ (.int .i64 0)).setCell ⟨B + 1 + 1 + 1, 3, none⟩ (.slice none 0 0)) from (H18.out.set4 0 rfl (.int .i64 0) (.int .i64 0) (.int .i64 0) (.slice none 0 0)))
          have q31 := H30.out.cell 0 rfl 0 rfl
          have q32 := H30.out.cell 0 rfl 1 rfl
          have q33 := H30.out.cell 0 rfl 2 rfl
          have q34 := H30.out.cell 0 rfl 3 rfl
          refine bodyPost_ret (v := .tuple #[.agg #[.int .i64 0, .int .i64 0, .int .i64 0, .slice none 0 0], .int .i64 2]) ?_ rfl (TPost.no (by unfold pwTC; rw [if_neg (fun hc => hc ⟨HNb9.out, fun _ => HNb16.out⟩), if_neg (show ¬ vCode ls true ≠ 0 from by rw [HNc19.out]; have := c20h.out; omega), if_pos (by rw [valOk_iff']; have := c20h.out; omega)]) (by have := c20h.out; omega) (by first | exact H30.out.below | exact H30.out.below'))
          simp [results, Try.results46, go_sem, q31, q32, q33, q34]
        · skip
          by_cases c35 : (4294967296 : Int) < out
          · skip
            have z36 := H18.out.cell 0 rfl 0 rfl
            have z37 := H18.out.free 0 rfl 0
            have z38 := H18.out.cell 0 rfl 1 rfl
            have z39 := H18.out.free 0 rfl 1
            have z40 := H18.out.cell 0 rfl 2 rfl
            have z41 := H18.out.free 0 rfl 2
            have z42 := H18.out.cell 0 rfl 3 rfl
            have z43 := H18.out.free 0 rfl 3
            go_wp2_with fail
            clear z36 z37 z38 z39 z40 z41 z42 z43
            have H44 := hid (show St B W [.cells (B + 1 + 1 + 1) #[.int .i64 0, .int .i64 0, .int .i64 0, .slice none 0 0] 66, .cells (B + 1 + 1) #[.int .i64 r0, .int .i64 r1, .int .i64 r2, .int .i64 r3] 24, .cells (B + 1) #[.int .i64 qw, .int .i64 qh, .int .i64 qmx, .slice qa qn qc] 66, .cells B #[.int .i64 w, .int .i64 h, .int .i64 mx, .slice a n c] 66] [] ((((w17.setCell ⟨B + 1 + 1 + 1, 0, none⟩ (.int .i64 0)).setCell ⟨B + 1 + 1 + 1, 1, none⟩ (.int .i64 0)).setCell ⟨B + 1 + 1 + 1, 2, none⟩ (.int .i64 0)).setCell ⟨B + 1 + 1 + 1, 3, none⟩ (.slice none 0 0)) from (H18.out.set4 0 rfl (.int .i64 0) (.int .i64 0) (.int .i64 0) (.slice none 0 0)))
            have q45 := H44.out.cell 0 rfl 0 rfl
            have q46 := H44.out.cell 0 rfl 1 rfl
            have q47 := H44.out.cell 0 rfl 2 rfl
            have q48 := H44.out.cell 0 rfl 3 rfl
            refine bodyPost_ret (v := .tuple #[.agg #[.int .i64 0, .int .i64 0, .int .i64 0, .slice none 0 0], .int .i64 2]) ?_ rfl (TPost.no (by unfold pwTC; rw [if_neg (fun hc => hc ⟨HNb9.out, fun _ => HNb16.out⟩), if_neg (show ¬ vCode ls true ≠ 0 from by rw [HNc19.out]; have := c20h.out; omega), if_pos (by rw [valOk_iff']; have := c20h.out; omega)]) (by have := c20h.out; omega) (by first | exact H44.out.below | exact H44.out.below'))
            simp [results, Try.results46, go_sem, q45, q46, q47, q48]
          · skip
            have z49 := H18.out.cell 2 rfl 0 rfl
            have z50 := H18.out.cell 2 rfl 1 rfl
            have z51 := H18.out.cell 2 rfl 2 rfl
            have z52 := H18.out.cell 2 rfl 3 rfl
            have z53 := H18.out.cell 3 rfl 0 rfl
            have z54 := H18.out.cell 3 rfl 1 rfl
            have z55 := H18.out.cell 3 rfl 2 rfl
            have z56 := H18.out.cell 3 rfl 3 rfl
            go_wp2_with fail
            clear z49 z50 z51 z52 z53 z54 z55 z56
            refine (pinterval_any _ _ _ ls _ _ _ (H18.out.oldPrs HO.out)).mono ?_
            rintro e w57 ⟨rfl, hb⟩
            have H58 := hid (H18.out.call hb)
            clear hb
            obtain ⟨n59, hn59⟩ : ∃ xx', (ivR ls mx qmx).1 = xx' := ⟨_, rfl⟩
            rw [hn59]
            have HNn59 := hid hn59
            clear hn59
            obtain ⟨n60, hn60⟩ : ∃ xx', (ivR ls mx qmx).2.1 = xx' := ⟨_, rfl⟩
            rw [hn60]
            have HNn60 := hid hn60
            clear hn60
            obtain ⟨c61, hc61⟩ : ∃ xx', (ivR ls mx qmx).2.2 = xx' := ⟨_, rfl⟩
            rw [hc61]
            have HNc61 := hid hc61
            clear hc61
            by_cases c62 : (c61 : Int) = 0
            · obtain ⟨c62c, c62d⟩ : (c61 : Int) ≤ 0 ∧ (0 : Int) ≤ c61 := by omega
              have c62a : ((c61 : Int) == (0)) = true := by simpa using c62
              have c62b : ((c61 : Int) != (0)) = false := by simpa using c62
              have c62h := hid c62
              clear c62
              by_cases c63 : (w : Int) = qw
              · obtain ⟨c63c, c63d⟩ : (w : Int) ≤ qw ∧ (qw : Int) ≤ w := by omega
                have c63a : ((w : Int) == (qw)) = true := by simpa using c63
                have c63b : ((w : Int) != (qw)) = false := by simpa using c63
                have c63h := hid c63
                clear c63
                by_cases c64 : (h : Int) = qh
                · obtain ⟨c64c, c64d⟩ : (h : Int) ≤ qh ∧ (qh : Int) ≤ h := by omega
                  have c64a : ((h : Int) == (qh)) = true := by simpa using c64
                  have c64b : ((h : Int) != (qh)) = false := by simpa using c64
                  have c64h := hid c64
                  clear c64
                  have z65 := H58.out.cell 3 rfl 0 rfl
                  have z66 := H58.out.cell 3 rfl 1 rfl
                  have z67 := H58.out.cell 3 rfl 2 rfl
                  have z68 := H58.out.cell 3 rfl 3 rfl
                  have z69 := H58.out.cell 2 rfl 0 rfl
                  have z70 := H58.out.cell 2 rfl 1 rfl
                  have z71 := H58.out.cell 2 rfl 2 rfl
                  have z72 := H58.out.cell 2 rfl 3 rfl
                  have z73 := H58.out.cell 1 rfl 0 rfl
                  have z74 := H58.out.cell 1 rfl 1 rfl
                  have z75 := H58.out.cell 1 rfl 2 rfl
                  have z76 := H58.out.cell 1 rfl 3 rfl
                  go_wp2_with fail
                  clear z65 z66 z67 z68 z69 z70 z71 z72 z73 z74 z75 z76
                  refine (rempty_any _ _ _ _ _).mono ?_
                  rintro e w77 ⟨rfl, hb⟩
                  have H78 := hid (H58.out.call hb)
                  clear hb
                  obtain ⟨b79, hb79⟩ : ∃ xx', rEmpty r0 r1 r2 r3 = xx' := ⟨_, rfl⟩
                  rw [hb79]
                  have HNb79 := hid hb79
                  clear hb79
                  cases b79 with
                  | true =>
                    have z80 := H78.out.cell 0 rfl 0 rfl
                    have z81 := H78.out.free 0 rfl 0
                    have z82 := H78.out.cell 0 rfl 1 rfl
                    have z83 := H78.out.free 0 rfl 1
                    have z84 := H78.out.cell 0 rfl 2 rfl
                    have z85 := H78.out.free 0 rfl 2
                    have z86 := H78.out.cell 0 rfl 3 rfl
                    have z87 := H78.out.free 0 rfl 3
                    go_wp2_with fail
                    clear z80 z81 z82 z83 z84 z85 z86 z87
                    have H88 := hid (show St B W [.cells (B + 1 + 1 + 1) #[.int .i64 0, .int .i64 0, .int .i64 0, .slice none 0 0] 66, .cells (B + 1 + 1) #[.int .i64 r0, .int .i64 r1, .int .i64 r2, .int .i64 r3] 24, .cells (B + 1) #[.int .i64 qw, .int .i64 qh, .int .i64 qmx, .slice qa qn qc] 66, .cells B #[.int .i64 w, .int .i64 h, .int .i64 mx, .slice a n c] 66] [] ((((w77.setCell ⟨B + 1 + 1 + 1, 0, none⟩ (.int .i64 0)).setCell ⟨B + 1 + 1 + 1, 1, none⟩ (.int .i64 0)).setCell ⟨B + 1 + 1 + 1, 2, none⟩ (.int .i64 0)).setCell ⟨B + 1 + 1 + 1, 3, none⟩ (.slice none 0 0)) from (H78.out.set4 0 rfl (.int .i64 0) (.int .i64 0) (.int .i64 0) (.slice none 0 0)))
                    have q89 := H88.out.cell 0 rfl 0 rfl
                    have q90 := H88.out.cell 0 rfl 1 rfl
                    have q91 := H88.out.cell 0 rfl 2 rfl
                    have q92 := H88.out.cell 0 rfl 3 rfl
                    refine bodyPost_ret (v := .tuple #[.agg #[.int .i64 0, .int .i64 0, .int .i64 0, .slice none 0 0], .int .i64 8]) ?_ rfl (TPost.no (by unfold pwTC; rw [if_neg (fun hc => hc ⟨HNb9.out, fun _ => HNb16.out⟩), if_neg (show ¬ vCode ls true ≠ 0 from by rw [HNc19.out]; have := c20h.out; have := c62h.out; have := c63h.out; have := c64h.out; omega), if_neg (fun hc => hc (valOk_iff'.2 (by have := c20h.out; have := c62h.out; have := c63h.out; have := c64h.out; omega))), if_neg (show ¬ (ivR ls mx (pwS true qmx)).2.2 ≠ 0 from by rw [show pwS true qmx = qmx from rfl, HNc61.out]; have := c20h.out; have := c62h.out; have := c63h.out; have := c64h.out; omega), if_pos (by first | exact Or.inl ⟨rfl, by have := c20h.out; have := c62h.out; have := c63h.out; have := c64h.out; omega⟩ | exact Or.inr (by unfold rIs; rw [HNb79.out]; simp))]) (by have := c20h.out; have := c62h.out; have := c63h.out; have := c64h.out; omega) (by first | exact H88.out.below | exact H88.out.below'))
                    simp [results, Try.results46, go_sem, q89, q90, q91, q92]
                  | false =>
                    have z93 := H78.out.cell 1 rfl 0 rfl
                    have z94 := H78.out.cell 1 rfl 1 rfl
                    have z95 := H78.out.cell 1 rfl 2 rfl
                    have z96 := H78.out.cell 1 rfl 3 rfl
                    have z97 := H78.out.cell 3 rfl 0 rfl
                    have z98 := H78.out.cell 3 rfl 1 rfl
                    have z99 := H78.out.cell 3 rfl 2 rfl
                    have z100 := H78.out.cell 3 rfl 3 rfl
                    go_wp2_with fail
                    clear z93 z94 z95 z96 z97 z98 z99 z100
                    refine (rinside_any _ _ _ _ _ _ _ _ _).mono ?_
                    rintro e w101 ⟨rfl, hb⟩
                    have H102 := hid (H78.out.call hb)
                    clear hb
                    obtain ⟨b103, hb103⟩ : ∃ xx', rInside r0 r1 r2 r3 0 0 w h = xx' := ⟨_, rfl⟩
                    rw [hb103]
                    have HNb103 := hid hb103
                    clear hb103
                    cases b103 with
                    | true =>
                      have HV := hid HNb9.out
                      obtain ⟨p1, p2, p3, p4, p5, p6, p7⟩ := pOk_iff.1 (pValid_iff.1 HNb9.out).1
                      have HV2 := hid HNb16.out
                      obtain ⟨e1, e2, e3, e4⟩ : w ≤ qw ∧ qw ≤ w ∧ h ≤ qh ∧ qh ≤ h := by have := c20h.out; have := c62h.out; have := c63h.out; have := c64h.out; omega
                      have HVC := hid (show vCode ls true = 0 from by rw [HNc19.out]; have := c20h.out; have := c62h.out; have := c63h.out; have := c64h.out; omega)
                      have HVT := hid (vCode_two HVC.out)
                      have HIN := hid (show rIs r0 r1 r2 r3 w h = true from by unfold rIs; rw [HNb79.out, HNb103.out]; rfl)
                      obtain ⟨i1, i2, i3, i4, i5, i6⟩ := (rIs_iff p1 p2 p3 p4).1 HIN.out
                      obtain ⟨o1, o2⟩ : 1 ≤ out ∧ out ≤ 4294967296 := by have := c20h.out; have := c62h.out; have := c63h.out; have := c64h.out; omega
                      have HTC := hid (show pwTC w h mx zs qw qh qmx qs true ls out r0 r1 r2 r3 = 0 from by unfold pwTC; rw [if_neg (fun hc => hc ⟨HNb9.out, fun _ => HNb16.out⟩), if_neg (show ¬ vCode ls true ≠ 0 from by rw [HNc19.out]; have := c20h.out; have := c62h.out; have := c63h.out; have := c64h.out; omega), if_neg (fun hc => hc (valOk_iff'.2 (by have := c20h.out; have := c62h.out; have := c63h.out; have := c64h.out; omega))), if_neg (show ¬ (ivR ls mx (pwS true qmx)).2.2 ≠ 0 from by rw [show pwS true qmx = qmx from rfl, HNc61.out]; have := c20h.out; have := c62h.out; have := c63h.out; have := c64h.out; omega), if_neg (by rintro (hc | hc); exact hc.2 ⟨by omega, by omega⟩; exact hc HIN.out)])
                      obtain ⟨wd, hwd⟩ : ∃ m : Nat, r2 - r0 = m := ⟨(r2 - r0).toNat, by omega⟩
                      obtain ⟨ht, hht⟩ : ∃ m : Nat, r3 - r1 = m := ⟨(r3 - r1).toNat, by omega⟩
                      have HWD := hid hwd
                      have HHT := hid hht
                      obtain ⟨wd1, wd2, ht1, ht2⟩ : (wd : Int) ≤ r2 - r0 ∧ r2 - r0 ≤ wd ∧ (ht : Int) ≤ r3 - r1 ∧ r3 - r1 ≤ ht := by omega
                      have pq0 := Int.mul_nonneg (a := r2 - r0) (b := r3 - r1) (by omega) (by omega)
                      have pq1 := Int.mul_le_mul (a := r2 - r0) (c := w) (b := r3 - r1) (d := h) (by omega) (by omega) (by omega) (by omega)
                      obtain ⟨NN, hNN⟩ : ∃ N : Nat, (r2 - r0) * (r3 - r1) = N := ⟨((r2 - r0) * (r3 - r1)).toNat, by omega⟩
                      rw [hNN] at pq0 pq1
                      have HNN := hid (show ht * wd = NN from by have := hNN; rw [hwd, hht, ← Int.natCast_mul, Nat.mul_comm] at this; omega)
                      clear hwd hht
                      obtain ⟨F, hF⟩ : ∃ F : Nat → Nat → Int, (fun (k j : Nat) => pwP w zs true qs ls out (r0 + (j : Int)) (r1 + (k : Int))) = F := ⟨_, rfl⟩
                      have HFV := hid (show ∀ k j : Nat, pwP w zs true qs ls out (r0 + (j : Int)) (r1 + (k : Int)) = F k j from fun k j => by rw [← hF])
                      have HFF := hid hF
                      clear hF
                      have hnn2 : IntKind.i64.wrap (NN : Int) = NN := IntWalk.i64_in _ (by omega)
                      obtain ⟨D104, hD104⟩ : ∃ D, w101.heap.size = D := ⟨_, rfl⟩
                      have z105 := H102.out.cell 1 rfl 0 rfl
                      have z106 := H102.out.cell 1 rfl 1 rfl
                      have z107 := H102.out.cell 1 rfl 2 rfl
                      have z108 := H102.out.cell 1 rfl 3 rfl
                      go_upto_region 19 with fail
                      clear z105 z106 z107 z108
                      have H109 := hid (show St B W [.cells D104 #[.int .i64 (r2 - r0), .int .i64 (r3 - r1), .int .i64 out, .slice none 0 0] 66, .cells (B + 1 + 1 + 1) #[.int .i64 0, .int .i64 0, .int .i64 0, .slice none 0 0] 66, .cells (B + 1 + 1) #[.int .i64 r0, .int .i64 r1, .int .i64 r2, .int .i64 r3] 24, .cells (B + 1) #[.int .i64 qw, .int .i64 qh, .int .i64 qmx, .slice qa qn qc] 66, .cells B #[.int .i64 w, .int .i64 h, .int .i64 mx, .slice a n c] 66] [] (w101.alloc (.cells #[.int .i64 (r2 - r0), .int .i64 (r3 - r1), .int .i64 out, .slice none 0 0] 66)) from (H102.out.alloc #[.int .i64 (r2 - r0), .int .i64 (r3 - r1), .int .i64 out, .slice none 0 0] 66 hD104))
                      first | refine gen_code H109.out ?_ | refine gen_list H109.out ?_ | refine gen_calls H109.out ?_
                      intro w110 hG
                      clear H109
                      have H109 := hid hG
                      clear hG
                      clear hD104
                      obtain ⟨D3, hD3⟩ : ∃ D, w110.heap.size = D := ⟨_, rfl⟩
                      have hBD3 : B ≤ D3 := by have := H109.out.size; omega
                      have z111 := H109.out.cell 0 rfl 0 rfl
                      have z112 := H109.out.free 0 rfl 0
                      have z113 := H109.out.cell 0 rfl 1 rfl
                      have z114 := H109.out.free 0 rfl 1
                      have z115 := H109.out.cell 0 rfl 2 rfl
                      have z116 := H109.out.free 0 rfl 2
                      have z117 := H109.out.cell 0 rfl 3 rfl
                      have z118 := H109.out.free 0 rfl 3
                      go_upto_region 20 with (first | (at_make; refine make_cap rfl _ _ rfl D3 _ NN rfl rfl (by first | rfl | exact hNN) (by omega) (by omega) ?_; intro w120 ho hb; rw [hD3] at ho ⊢; have H119 := hid (H109.out.grow hb (by rw [hD3]; exact ho)); clear ho hb z111 z112 z113 z114 z115 z116 z117 z118; have g3 := H119.out.cell 1 rfl 3 rfl; have g4 := H119.out.free 1 rfl 3))
                      have H121 := hid (H119.out.set 1 rfl 3 (.slice (some ⟨D3, 0, none⟩) 0 NN))
                      clear g3 g4 H119 hD3
                      generalize World.setCell w120 _ _ = w122 at *
                      clear hNN hnn2
                      have z123 := H121.out.cell 3 rfl 0 rfl
                      have z124 := H121.out.cell 3 rfl 1 rfl
                      have z125 := H121.out.cell 3 rfl 2 rfl
                      have z126 := H121.out.cell 3 rfl 3 rfl
                      go_wp2_with fail
                      clear z123 z124 z125 z126
                      go_loopw [20] (fun i wr => ∃ (y : Int) (k ln g cp : Nat), k ≤ ht ∧ y ≤ r1 + k ∧ r1 + k ≤ y ∧ i = .int .i64 y ∧ ln = k * wd ∧ St B W [.own (.slice (some ⟨g, 0, none⟩) ln cp) (gridL F wd k 0), .cells D104 #[.int .i64 (r2 - r0), .int .i64 (r3 - r1), .int .i64 out, .slice (some ⟨g, 0, none⟩) ln cp] 66, .cells (B + 1 + 1 + 1) #[.int .i64 0, .int .i64 0, .int .i64 0, .slice none 0 0] 66, .cells (B + 1 + 1) #[.int .i64 r0, .int .i64 r1, .int .i64 r2, .int .i64 r3] 24, .cells (B + 1) #[.int .i64 qw, .int .i64 qh, .int .i64 qmx, .slice qa qn qc] 66, .cells B #[.int .i64 w, .int .i64 h, .int .i64 mx, .slice a n c] 66] [] wr) (fun i _ => (r3 - intOf i).toNat)
                      case atStart => exact ⟨r1, 0, 0, D3, NN, by omega, by omega, by omega, rfl, by omega, H121.out.pick [0, 1, 2, 3, 4, 5] rfl (by decide)⟩
                      case round =>
                        obtain ⟨y, k, ln, g, cp, hk, hy1, hy2, rfl, hln, hst⟩ := hrel
                        obtain ⟨u127, rfl⟩ : ∃ u127 : World, u127 = wr := ⟨_, rfl⟩
                        have H128 := hid hst
                        clear hst
                        have HLN := hid hln
                        clear hln
                        by_cases hkn : k < ht
                        · skip
                          have hkn' : (y : Int) < r3 := by omega
                          obtain ⟨PW, hPW⟩ : ∃ P, y * w = P := ⟨_, rfl⟩
                          have pw0 := Int.mul_nonneg (a := y) (b := w) (by omega) (by omega)
                          have pw1 := Int.mul_le_mul (a := y + 1) (c := h) (b := w) (d := w) (by omega) (by omega) (by omega) (by omega)
                          rw [Int.add_mul, Int.one_mul, hPW, Int.mul_comm h w] at pw1
                          rw [hPW] at pw0
                          have HPW := hid hPW
                          have z129 := H128.out.cell 3 rfl 0 rfl
                          have z130 := H128.out.cell 3 rfl 1 rfl
                          have z131 := H128.out.cell 3 rfl 2 rfl
                          have z132 := H128.out.cell 3 rfl 3 rfl
                          have z133 := H128.out.cell 5 rfl 0 rfl
                          have z134 := H128.out.cell 5 rfl 1 rfl
                          have z135 := H128.out.cell 5 rfl 2 rfl
                          have z136 := H128.out.cell 5 rfl 3 rfl
                          go_wp2_with fail
                          clear z129 z130 z131 z132 z133 z134 z135 z136
                          go_loopw [21] (fun i wr => ∃ (x : Int) (j ln g cp : Nat), j ≤ wd ∧ x ≤ PW + r0 + j ∧ PW + r0 + j ≤ x ∧ i = .int .i64 x ∧ ln = k * wd + j ∧ St B W [.own (.slice (some ⟨g, 0, none⟩) ln cp) (gridL F wd k j), .cells D104 #[.int .i64 (r2 - r0), .int .i64 (r3 - r1), .int .i64 out, .slice (some ⟨g, 0, none⟩) ln cp] 66, .cells (B + 1 + 1 + 1) #[.int .i64 0, .int .i64 0, .int .i64 0, .slice none 0 0] 66, .cells (B + 1 + 1) #[.int .i64 r0, .int .i64 r1, .int .i64 r2, .int .i64 r3] 24, .cells (B + 1) #[.int .i64 qw, .int .i64 qh, .int .i64 qmx, .slice qa qn qc] 66, .cells B #[.int .i64 w, .int .i64 h, .int .i64 mx, .slice a n c] 66] [] wr) (fun i _ => (PW + r2 - intOf i).toNat)
                          case atStart => exact ⟨PW + r0, 0, ln, g, cp, by omega, by omega, by omega, rfl, by rw [HLN.out]; rfl, H128.out.pick [0, 1, 2, 3, 4, 5] rfl (by decide)⟩
                          case round =>
                            obtain ⟨x, j, ln, g, cp, hj, hx1, hx2, rfl, hln, hst⟩ := hrel
                            obtain ⟨u137, rfl⟩ : ∃ u137 : World, u137 = wr := ⟨_, rfl⟩
                            have H138 := hid hst
                            clear hst
                            clear HLN
                            have HLN := hid hln
                            clear hln
                            by_cases hjn : j < wd
                            · skip
                              have hjn' : (x : Int) < PW + r2 := by omega
                              have hwh := (pValid_iff.1 HV.out).2.1
                              rw [HLZ.out] at hwh
                              have hlt : x < n := by omega
                              clear hwh
                              obtain ⟨pbk, po, hpa⟩ := row_at (H138.out.old HS.out).row (by omega)
                              have cz := row_cell (by rw [← hpa]; exact (H138.out.old HS.out).row) (j := (x).toNat) (by omega)
                              obtain ⟨pz, hpz⟩ : ∃ z, zs.getD (x).toNat 0 = z := ⟨_, rfl⟩
                              have HPO := hid (show pixOk pz = true from by rw [← hpz]; exact pix_ok HV.out (by rw [HLZ.out]; omega))
                              rw [hpz] at cz
                              have HPZ := hid hpz
                              clear hpz
                              subst hpa
                              have hwq := (pValid_iff.1 HV2.out).2.1
                              rw [HLQ.out, show qw = w by omega, show qh = h by omega] at hwq
                              have hlq : x < qn := by have hwh := (pValid_iff.1 HV.out).2.1; rw [HLZ.out] at hwh; omega
                              clear hwq
                              obtain ⟨qbk, qo, hqa⟩ := row_at (H138.out.old HQ.out).row (by omega)
                              have cq := row_cell (by rw [← hqa]; exact (H138.out.old HQ.out).row) (j := (x).toNat) (by omega)
                              obtain ⟨qz, hqz⟩ : ∃ z, qs.getD (x).toNat 0 = z := ⟨_, rfl⟩
                              have HQO := hid (show pixOk qz = true from by rw [← hqz]; exact pix_ok HV2.out (by rw [HLQ.out]; omega))
                              rw [hqz] at cq
                              have HQZ := hid hqz
                              clear hqz
                              subst hqa
                              have HFX := hid (show clV (eGo ls [] pz qz).1 out = F k j from by rw [← HFV.out]; unfold pwP; rw [show (r1 + (k : Int)) * w + (r0 + (j : Int)) = x from by rw [show r1 + (k : Int) = y by omega, HPW.out]; omega]; show _ = clV (eGo ls [] (zs.getD (x).toNat 0) (qs.getD (x).toNat 0)).1 out; rw [HPZ.out, HQZ.out])
                              have z139 := H138.out.cell 5 rfl 0 rfl
                              have z140 := H138.out.cell 5 rfl 1 rfl
                              have z141 := H138.out.cell 5 rfl 2 rfl
                              have z142 := H138.out.cell 5 rfl 3 rfl
                              have z143 := H138.out.cell 3 rfl 0 rfl
                              have z144 := H138.out.cell 3 rfl 1 rfl
                              have z145 := H138.out.cell 3 rfl 2 rfl
                              have z146 := H138.out.cell 3 rfl 3 rfl
                              have z147 := H138.out.cell 4 rfl 0 rfl
                              have z148 := H138.out.cell 4 rfl 1 rfl
                              have z149 := H138.out.cell 4 rfl 2 rfl
                              have z150 := H138.out.cell 4 rfl 3 rfl
                              go_wp2_with fail
                              clear z139 z140 z141 z142 z143 z144 z145 z146 z147 z148 z149 z150
                              refine (prun_any _ _ _ ls _ _ _ (H138.out.oldPrs HO.out) HVT.out HPO.out HQO.out).mono ?_
                              rintro e w151 ⟨rfl, hb⟩
                              have H152 := hid (H138.out.call hb)
                              clear hb
                              obtain ⟨n153, hn153⟩ : ∃ xx', (eGo ls [] pz qz).1 = xx' := ⟨_, rfl⟩
                              rw [hn153]
                              have HNn153 := hid hn153
                              clear hn153
                              obtain ⟨n154, hn154⟩ : ∃ xx', (eGo ls [] pz qz).2 = xx' := ⟨_, rfl⟩
                              rw [hn154]
                              have HNn154 := hid hn154
                              clear hn154
                              go_upto_region 30 with fail
                              obtain ⟨fv, hfv⟩ : ∃ z, F k j = z := ⟨_, rfl⟩
                              rw [hfv] at HFX
                              have HGN := hid (show gridL F wd k j ++ [fv] = gridL F wd k (j + 1) from by rw [gridL_next, hfv])
                              clear hfv
                              have HLEN9 := hid (show (gridL F wd k (j + 1)).length = ln + 1 by rw [gridL_len, HLN.out]; omega)
                              have hln5 : ln ≤ 32768 := by have := HLN.out; have := Nat.mul_le_mul (show k ≤ 128 by omega) (show wd ≤ 128 by omega); omega
                              have H155 := hid H152.out.drew
                              refine wp_region_held_drew (S := (fun w' => w'.cell? ⟨D104, 0, none⟩ = some (.int .i64 (r2 - r0)) ∧ w'.cell? ⟨D104, 1, none⟩ = some (.int .i64 (r3 - r1)) ∧ w'.cell? ⟨D104, 2, none⟩ = some (.int .i64 out))) (by kernel_rfl) ⟨H155.out.cell 1 rfl 0 rfl, H155.out.cell 1 rfl 1 rfl, H155.out.cell 1 rfl 2 rfl⟩ (fun hHeld => ?_)
                              generalize w151.drew = k156 at *
                              refine tkA 0 ?_
                              try simp only [Act.put, p1, p2, p3, p4, p5, p6]
                              refine tkA 2 ?_
                              try simp only [Act.put, p1, p2, p3, p4, p5, p6]
                              refine tkA 3 ?_
                              try simp only [Act.put, p1, p2, p3, p4, p5, p6]
                              refine wpAnyH_ready (rs := [1, 4]) (by kernel_rfl) (by simp) (AllReadyH.cons (o := _) rfl (fun K hK => ?_) (AllReadyH.cons (o := _) rfl (fun K hK => ?_) AllReadyH.nil))
                              · have g157 := H155.out.cell 1 rfl 3 rfl
                                go_simp
                                refine hK.out _ _ ?_ (fun hHeld2 => ?_)
                                focus ((try dsimp only); (exact hHeld))
                                clear hK K
                                try simp only [Act.put, p1, p2, p3, p4, p5, p6]
                                clear hHeld2 g157
                                refine wpAnyH_ready (rs := [4]) (by kernel_rfl) (by simp) (AllReadyH.cons (o := _) rfl (fun K hK => ?_) AllReadyH.nil)
                                go_simp
                                go_at_call 83
                                refine (fclamp_any _ _ _).mono ?_
                                rintro e w158 ⟨rfl, hsw⟩
                                have hsw2 : k156 = w158 := by first | exact hsw | exact hsw.symm
                                clear hsw
                                subst hsw2
                                rw [show clV n153 out = fv from by rw [← HNn153.out]; exact HFX.out]
                                refine hK.out _ _ ?_ (fun hHeld2 => ?_)
                                focus ((try dsimp only); (exact ⟨H155.out.cell 1 rfl 0 rfl, H155.out.cell 1 rfl 1 rfl, H155.out.cell 1 rfl 2 rfl⟩))
                                clear hK K
                                try simp only [Act.put, p1, p2, p3, p4, p5, p6]
                                clear hHeld
                                have hHeld := hHeld2
                                clear hHeld2
                                refine wpAnyH_ready (rs := [5]) (by kernel_rfl) (by simp) (AllReadyH.cons (o := _) rfl (fun K hK => ?_) AllReadyH.nil)
                                obtain ⟨D159, hD159⟩ : ∃ D, k156.heap.size = D := ⟨_, rfl⟩
                                have H160 := hid (H155.out.alloc #[.int .i64 fv] 3 hD159)
                                go_simp
                                refine hK.out _ _ ?_ (fun hHeld2 => ?_)
                                focus ((try dsimp only); (exact ⟨H160.out.cell 2 rfl 0 rfl, H160.out.cell 2 rfl 1 rfl, H160.out.cell 2 rfl 2 rfl⟩))
                                clear hK K hHeld
                                try simp only [Act.put, p1, p2, p3, p4, p5, p6]
                                clear hD159
                                generalize (k156.alloc (.cells #[.int .i64 fv] 3)) = k161 at *
                                have hHeld := hHeld2
                                clear hHeld2
                                refine wpAnyH_ready (rs := [6]) (by kernel_rfl) (by simp) (AllReadyH.cons (o := _) rfl (fun K hK => ?_) AllReadyH.nil)
                                rw [if_pos (by rfl)]
                                refine oper_append_int _ _ rfl B _ (gridL F wd k j) fv D159 1 rfl rfl (H160.out.own 1 rfl) (H160.out.cell 0 rfl 0 rfl) (by first | omega | (rw [gridL_len]; omega) | (have := HLEN9.out; rw [gridL_len] at *; omega)) H160.out.size ?_
                                intro v9 k163 ho hg hv
                                have H162 := hid (H160.out.append 1 rfl ho hg hv)
                                clear hg hv
                                rw [HGN.out] at H162 ho
                                obtain ⟨g9, c9, rfl⟩ := ho.pos (by rw [HLEN9.out]; omega)
                                rw [HLEN9.out] at H162 ⊢
                                clear ho
                                refine hK.out _ _ ?_ (fun hHeld2 => ?_)
                                focus ((try dsimp only); (exact ⟨H162.out.cell 2 rfl 0 rfl, H162.out.cell 2 rfl 1 rfl, H162.out.cell 2 rfl 2 rfl⟩))
                                clear hK K
                                try simp only [Act.put, p1, p2, p3, p4, p5, p6]
                                clear hHeld
                                have hHeld := hHeld2
                                clear hHeld2
                                refine tkA 7 ?_
                                try simp only [Act.put, p1, p2, p3, p4, p5, p6]
                                refine wpAnyH_ready (rs := [8]) (by kernel_rfl) (by simp) (AllReadyH.cons (o := _) rfl (fun K hK => ?_) AllReadyH.nil)
                                have z164 := H162.out.cell 2 rfl 0 rfl
                                have z165 := H162.out.free 2 rfl 0
                                have z166 := H162.out.cell 2 rfl 1 rfl
                                have z167 := H162.out.free 2 rfl 1
                                have z168 := H162.out.cell 2 rfl 2 rfl
                                have z169 := H162.out.free 2 rfl 2
                                have z170 := H162.out.cell 2 rfl 3 rfl
                                have z171 := H162.out.free 2 rfl 3
                                have H172 := hid (show St B W [.cells D159 #[.int .i64 fv] 3, .own (.slice (some ⟨g9, 0, none⟩) (ln + 1) c9) (gridL F wd k (j + 1)), .cells D104 #[.int .i64 (r2 - r0), .int .i64 (r3 - r1), .int .i64 out, .slice (some ⟨g9, 0, none⟩) (ln + 1) c9] 66, .cells (B + 1 + 1 + 1) #[.int .i64 0, .int .i64 0, .int .i64 0, .slice none 0 0] 66, .cells (B + 1 + 1) #[.int .i64 r0, .int .i64 r1, .int .i64 r2, .int .i64 r3] 24, .cells (B + 1) #[.int .i64 qw, .int .i64 qh, .int .i64 qmx, .slice (some ⟨qbk, qo, none⟩) qn qc] 66, .cells B #[.int .i64 w, .int .i64 h, .int .i64 mx, .slice (some ⟨pbk, po, none⟩) n c] 66] [] (k163.setCell ⟨D104, 3, none⟩ (.slice (some ⟨g9, 0, none⟩) (ln + 1) c9)) from (H162.out.set 2 rfl 3 (.slice (some ⟨g9, 0, none⟩) (ln + 1) c9)))
                                go_simp
                                refine hK.out _ _ ?_ (fun hHeld2 => ?_)
                                focus ((try dsimp only); (exact ⟨H172.out.cell 2 rfl 0 rfl, H172.out.cell 2 rfl 1 rfl, H172.out.cell 2 rfl 2 rfl⟩))
                                clear hK K hHeld
                                try simp only [Act.put, p1, p2, p3, p4, p5, p6]
                                clear z164 z165 z166 z167 z168 z169 z170 z171
                                generalize (k163.setCell ⟨D104, 3, none⟩ (.slice (some ⟨g9, 0, none⟩) (ln + 1) c9)) = k173 at *
                                have hHeld := hHeld2
                                clear hHeld2
                                refine wpAnyH_done (by kernel_rfl) ?_ _
                                try clear hHeld
                                go_wp2_with fail
                                go_roundw
                                case rel => exact ⟨x + 1, j + 1, ln + 1, g9, c9, by omega, by omega, by omega, by go_num, by rw [HLN.out]; rfl, H172.out.pick [1, 2, 3, 4, 5, 6] rfl (by decide)⟩
                                case measure => first | (simp [intOf]; omega) | (simp [intOf]; done)
                              · go_simp
                                go_at_call 83
                                refine (fclamp_any _ _ _).mono ?_
                                rintro e w174 ⟨rfl, hsw⟩
                                have hsw2 : k156 = w174 := by first | exact hsw | exact hsw.symm
                                clear hsw
                                subst hsw2
                                rw [show clV n153 out = fv from by rw [← HNn153.out]; exact HFX.out]
                                refine hK.out _ _ ?_ (fun hHeld2 => ?_)
                                focus ((try dsimp only); (exact ⟨H155.out.cell 1 rfl 0 rfl, H155.out.cell 1 rfl 1 rfl, H155.out.cell 1 rfl 2 rfl⟩))
                                clear hK K
                                try simp only [Act.put, p1, p2, p3, p4, p5, p6]
                                clear hHeld
                                have hHeld := hHeld2
                                clear hHeld2
                                refine wpAnyH_ready (rs := [1, 5]) (by kernel_rfl) (by simp) (AllReadyH.cons (o := _) rfl (fun K hK => ?_) (AllReadyH.cons (o := _) rfl (fun K hK => ?_) AllReadyH.nil))
                                · have g175 := H155.out.cell 1 rfl 3 rfl
                                  go_simp
                                  refine hK.out _ _ ?_ (fun hHeld2 => ?_)
                                  focus ((try dsimp only); (exact hHeld))
                                  clear hK K
                                  try simp only [Act.put, p1, p2, p3, p4, p5, p6]
                                  clear hHeld2 g175
                                  refine wpAnyH_ready (rs := [5]) (by kernel_rfl) (by simp) (AllReadyH.cons (o := _) rfl (fun K hK => ?_) AllReadyH.nil)
                                  obtain ⟨D176, hD176⟩ : ∃ D, k156.heap.size = D := ⟨_, rfl⟩
                                  have H177 := hid (H155.out.alloc #[.int .i64 fv] 3 hD176)
                                  go_simp
                                  refine hK.out _ _ ?_ (fun hHeld2 => ?_)
                                  focus ((try dsimp only); (exact ⟨H177.out.cell 2 rfl 0 rfl, H177.out.cell 2 rfl 1 rfl, H177.out.cell 2 rfl 2 rfl⟩))
                                  clear hK K hHeld
                                  try simp only [Act.put, p1, p2, p3, p4, p5, p6]
                                  clear hD176
                                  generalize (k156.alloc (.cells #[.int .i64 fv] 3)) = k178 at *
                                  have hHeld := hHeld2
                                  clear hHeld2
                                  refine wpAnyH_ready (rs := [6]) (by kernel_rfl) (by simp) (AllReadyH.cons (o := _) rfl (fun K hK => ?_) AllReadyH.nil)
                                  rw [if_pos (by rfl)]
                                  refine oper_append_int _ _ rfl B _ (gridL F wd k j) fv D176 1 rfl rfl (H177.out.own 1 rfl) (H177.out.cell 0 rfl 0 rfl) (by first | omega | (rw [gridL_len]; omega) | (have := HLEN9.out; rw [gridL_len] at *; omega)) H177.out.size ?_
                                  intro v9 k180 ho hg hv
                                  have H179 := hid (H177.out.append 1 rfl ho hg hv)
                                  clear hg hv
                                  rw [HGN.out] at H179 ho
                                  obtain ⟨g9, c9, rfl⟩ := ho.pos (by rw [HLEN9.out]; omega)
                                  rw [HLEN9.out] at H179 ⊢
                                  clear ho
                                  refine hK.out _ _ ?_ (fun hHeld2 => ?_)
                                  focus ((try dsimp only); (exact ⟨H179.out.cell 2 rfl 0 rfl, H179.out.cell 2 rfl 1 rfl, H179.out.cell 2 rfl 2 rfl⟩))
                                  clear hK K
                                  try simp only [Act.put, p1, p2, p3, p4, p5, p6]
                                  clear hHeld
                                  have hHeld := hHeld2
                                  clear hHeld2
                                  refine tkA 7 ?_
                                  try simp only [Act.put, p1, p2, p3, p4, p5, p6]
                                  refine wpAnyH_ready (rs := [8]) (by kernel_rfl) (by simp) (AllReadyH.cons (o := _) rfl (fun K hK => ?_) AllReadyH.nil)
                                  have z181 := H179.out.cell 2 rfl 0 rfl
                                  have z182 := H179.out.free 2 rfl 0
                                  have z183 := H179.out.cell 2 rfl 1 rfl
                                  have z184 := H179.out.free 2 rfl 1
                                  have z185 := H179.out.cell 2 rfl 2 rfl
                                  have z186 := H179.out.free 2 rfl 2
                                  have z187 := H179.out.cell 2 rfl 3 rfl
                                  have z188 := H179.out.free 2 rfl 3
                                  have H189 := hid (show St B W [.cells D176 #[.int .i64 fv] 3, .own (.slice (some ⟨g9, 0, none⟩) (ln + 1) c9) (gridL F wd k (j + 1)), .cells D104 #[.int .i64 (r2 - r0), .int .i64 (r3 - r1), .int .i64 out, .slice (some ⟨g9, 0, none⟩) (ln + 1) c9] 66, .cells (B + 1 + 1 + 1) #[.int .i64 0, .int .i64 0, .int .i64 0, .slice none 0 0] 66, .cells (B + 1 + 1) #[.int .i64 r0, .int .i64 r1, .int .i64 r2, .int .i64 r3] 24, .cells (B + 1) #[.int .i64 qw, .int .i64 qh, .int .i64 qmx, .slice (some ⟨qbk, qo, none⟩) qn qc] 66, .cells B #[.int .i64 w, .int .i64 h, .int .i64 mx, .slice (some ⟨pbk, po, none⟩) n c] 66] [] (k180.setCell ⟨D104, 3, none⟩ (.slice (some ⟨g9, 0, none⟩) (ln + 1) c9)) from (H179.out.set 2 rfl 3 (.slice (some ⟨g9, 0, none⟩) (ln + 1) c9)))
                                  go_simp
                                  refine hK.out _ _ ?_ (fun hHeld2 => ?_)
                                  focus ((try dsimp only); (exact ⟨H189.out.cell 2 rfl 0 rfl, H189.out.cell 2 rfl 1 rfl, H189.out.cell 2 rfl 2 rfl⟩))
                                  clear hK K hHeld
                                  try simp only [Act.put, p1, p2, p3, p4, p5, p6]
                                  clear z181 z182 z183 z184 z185 z186 z187 z188
                                  generalize (k180.setCell ⟨D104, 3, none⟩ (.slice (some ⟨g9, 0, none⟩) (ln + 1) c9)) = k190 at *
                                  have hHeld := hHeld2
                                  clear hHeld2
                                  refine wpAnyH_done (by kernel_rfl) ?_ _
                                  try clear hHeld
                                  go_wp2_with fail
                                  go_roundw
                                  case rel => exact ⟨x + 1, j + 1, ln + 1, g9, c9, by omega, by omega, by omega, by go_num, by rw [HLN.out]; rfl, H189.out.pick [1, 2, 3, 4, 5, 6] rfl (by decide)⟩
                                  case measure => first | (simp [intOf]; omega) | (simp [intOf]; done)
                                · obtain ⟨D191, hD191⟩ : ∃ D, k156.heap.size = D := ⟨_, rfl⟩
                                  have H192 := hid (H155.out.alloc #[.int .i64 fv] 3 hD191)
                                  go_simp
                                  refine hK.out _ _ ?_ (fun hHeld2 => ?_)
                                  focus ((try dsimp only); (exact ⟨H192.out.cell 2 rfl 0 rfl, H192.out.cell 2 rfl 1 rfl, H192.out.cell 2 rfl 2 rfl⟩))
                                  clear hK K hHeld
                                  try simp only [Act.put, p1, p2, p3, p4, p5, p6]
                                  clear hD191
                                  generalize (k156.alloc (.cells #[.int .i64 fv] 3)) = k193 at *
                                  have hHeld := hHeld2
                                  clear hHeld2
                                  refine wpAnyH_ready (rs := [1]) (by kernel_rfl) (by simp) (AllReadyH.cons (o := _) rfl (fun K hK => ?_) AllReadyH.nil)
                                  have g194 := H192.out.cell 2 rfl 3 rfl
                                  go_simp
                                  refine hK.out _ _ ?_ (fun hHeld2 => ?_)
                                  focus ((try dsimp only); (exact hHeld))
                                  clear hK K
                                  try simp only [Act.put, p1, p2, p3, p4, p5, p6]
                                  clear hHeld2 g194
                                  refine wpAnyH_ready (rs := [6]) (by kernel_rfl) (by simp) (AllReadyH.cons (o := _) rfl (fun K hK => ?_) AllReadyH.nil)
                                  rw [if_pos (by rfl)]
                                  refine oper_append_int _ _ rfl B _ (gridL F wd k j) fv D191 1 rfl rfl (H192.out.own 1 rfl) (H192.out.cell 0 rfl 0 rfl) (by first | omega | (rw [gridL_len]; omega) | (have := HLEN9.out; rw [gridL_len] at *; omega)) H192.out.size ?_
                                  intro v9 k196 ho hg hv
                                  have H195 := hid (H192.out.append 1 rfl ho hg hv)
                                  clear hg hv
                                  rw [HGN.out] at H195 ho
                                  obtain ⟨g9, c9, rfl⟩ := ho.pos (by rw [HLEN9.out]; omega)
                                  rw [HLEN9.out] at H195 ⊢
                                  clear ho
                                  refine hK.out _ _ ?_ (fun hHeld2 => ?_)
                                  focus ((try dsimp only); (exact ⟨H195.out.cell 2 rfl 0 rfl, H195.out.cell 2 rfl 1 rfl, H195.out.cell 2 rfl 2 rfl⟩))
                                  clear hK K
                                  try simp only [Act.put, p1, p2, p3, p4, p5, p6]
                                  clear hHeld
                                  have hHeld := hHeld2
                                  clear hHeld2
                                  refine tkA 7 ?_
                                  try simp only [Act.put, p1, p2, p3, p4, p5, p6]
                                  refine wpAnyH_ready (rs := [8]) (by kernel_rfl) (by simp) (AllReadyH.cons (o := _) rfl (fun K hK => ?_) AllReadyH.nil)
                                  have z197 := H195.out.cell 2 rfl 0 rfl
                                  have z198 := H195.out.free 2 rfl 0
                                  have z199 := H195.out.cell 2 rfl 1 rfl
                                  have z200 := H195.out.free 2 rfl 1
                                  have z201 := H195.out.cell 2 rfl 2 rfl
                                  have z202 := H195.out.free 2 rfl 2
                                  have z203 := H195.out.cell 2 rfl 3 rfl
                                  have z204 := H195.out.free 2 rfl 3
                                  have H205 := hid (show St B W [.cells D191 #[.int .i64 fv] 3, .own (.slice (some ⟨g9, 0, none⟩) (ln + 1) c9) (gridL F wd k (j + 1)), .cells D104 #[.int .i64 (r2 - r0), .int .i64 (r3 - r1), .int .i64 out, .slice (some ⟨g9, 0, none⟩) (ln + 1) c9] 66, .cells (B + 1 + 1 + 1) #[.int .i64 0, .int .i64 0, .int .i64 0, .slice none 0 0] 66, .cells (B + 1 + 1) #[.int .i64 r0, .int .i64 r1, .int .i64 r2, .int .i64 r3] 24, .cells (B + 1) #[.int .i64 qw, .int .i64 qh, .int .i64 qmx, .slice (some ⟨qbk, qo, none⟩) qn qc] 66, .cells B #[.int .i64 w, .int .i64 h, .int .i64 mx, .slice (some ⟨pbk, po, none⟩) n c] 66] [] (k196.setCell ⟨D104, 3, none⟩ (.slice (some ⟨g9, 0, none⟩) (ln + 1) c9)) from (H195.out.set 2 rfl 3 (.slice (some ⟨g9, 0, none⟩) (ln + 1) c9)))
                                  go_simp
                                  refine hK.out _ _ ?_ (fun hHeld2 => ?_)
                                  focus ((try dsimp only); (exact ⟨H205.out.cell 2 rfl 0 rfl, H205.out.cell 2 rfl 1 rfl, H205.out.cell 2 rfl 2 rfl⟩))
                                  clear hK K hHeld
                                  try simp only [Act.put, p1, p2, p3, p4, p5, p6]
                                  clear z197 z198 z199 z200 z201 z202 z203 z204
                                  generalize (k196.setCell ⟨D104, 3, none⟩ (.slice (some ⟨g9, 0, none⟩) (ln + 1) c9)) = k206 at *
                                  have hHeld := hHeld2
                                  clear hHeld2
                                  refine wpAnyH_done (by kernel_rfl) ?_ _
                                  try clear hHeld
                                  go_wp2_with fail
                                  go_roundw
                                  case rel => exact ⟨x + 1, j + 1, ln + 1, g9, c9, by omega, by omega, by omega, by go_num, by rw [HLN.out]; rfl, H205.out.pick [1, 2, 3, 4, 5, 6] rfl (by decide)⟩
                                  case measure => first | (simp [intOf]; omega) | (simp [intOf]; done)
                            · skip
                              have hjn' : ¬ ((x : Int) < PW + r2) := by omega
                              have Hhjn := hid (show j = wd by omega)
                              have z207 := H138.out.cell 5 rfl 0 rfl
                              have z208 := H138.out.cell 5 rfl 1 rfl
                              have z209 := H138.out.cell 5 rfl 2 rfl
                              have z210 := H138.out.cell 5 rfl 3 rfl
                              have z211 := H138.out.cell 3 rfl 0 rfl
                              have z212 := H138.out.cell 3 rfl 1 rfl
                              have z213 := H138.out.cell 3 rfl 2 rfl
                              have z214 := H138.out.cell 3 rfl 3 rfl
                              go_wp2_with fail
                              clear z207 z208 z209 z210 z211 z212 z213 z214
                              go_roundw
                              case rel => exact ⟨y + 1, k + 1, ln, g, cp, by omega, by omega, by omega, by go_num, by rw [HLN.out, Hhjn.out, Nat.add_mul, Nat.one_mul], by rw [show gridL F wd (k + 1) 0 = gridL F wd k j by rw [← gridL_row, Hhjn.out]]; exact H138.out⟩
                              case measure => first | (simp [intOf]; omega) | (simp [intOf]; done)
                        · skip
                          have hkn' : ¬ ((y : Int) < r3) := by omega
                          have Hhkn := hid (show k = ht by omega)
                          have HKE := hid (show k = ht by omega)
                          have z215 := H128.out.cell 3 rfl 0 rfl
                          have z216 := H128.out.cell 3 rfl 1 rfl
                          have z217 := H128.out.cell 3 rfl 2 rfl
                          have z218 := H128.out.cell 3 rfl 3 rfl
                          have z219 := H128.out.cell 1 rfl 0 rfl
                          have z220 := H128.out.cell 1 rfl 1 rfl
                          have z221 := H128.out.cell 1 rfl 2 rfl
                          have z222 := H128.out.cell 1 rfl 3 rfl
                          have z223 := H128.out.cell 2 rfl 0 rfl
                          have z224 := H128.out.free 2 rfl 0
                          have z225 := H128.out.cell 2 rfl 1 rfl
                          have z226 := H128.out.free 2 rfl 1
                          have z227 := H128.out.cell 2 rfl 2 rfl
                          have z228 := H128.out.free 2 rfl 2
                          have z229 := H128.out.cell 2 rfl 3 rfl
                          have z230 := H128.out.free 2 rfl 3
                          go_wp2_with fail
                          clear z215 z216 z217 z218 z219 z220 z221 z222 z223 z224 z225 z226 z227 z228 z229 z230
                          have H231 := hid (show St B W [.own (.slice (some ⟨g, 0, none⟩) ln cp) (gridL F wd k 0), .cells D104 #[.int .i64 (r2 - r0), .int .i64 (r3 - r1), .int .i64 out, .slice (some ⟨g, 0, none⟩) ln cp] 66, .cells (B + 1 + 1 + 1) #[.int .i64 (r2 - r0), .int .i64 (r3 - r1), .int .i64 out, .slice (some ⟨g, 0, none⟩) ln cp] 66, .cells (B + 1 + 1) #[.int .i64 r0, .int .i64 r1, .int .i64 r2, .int .i64 r3] 24, .cells (B + 1) #[.int .i64 qw, .int .i64 qh, .int .i64 qmx, .slice qa qn qc] 66, .cells B #[.int .i64 w, .int .i64 h, .int .i64 mx, .slice a n c] 66] [] ((((u127.setCell ⟨B + 1 + 1 + 1, 0, none⟩ (.int .i64 (r2 - r0))).setCell ⟨B + 1 + 1 + 1, 1, none⟩ (.int .i64 (r3 - r1))).setCell ⟨B + 1 + 1 + 1, 2, none⟩ (.int .i64 out)).setCell ⟨B + 1 + 1 + 1, 3, none⟩ (.slice (some ⟨g, 0, none⟩) ln cp)) from (H128.out.set4 2 rfl (.int .i64 (r2 - r0)) (.int .i64 (r3 - r1)) (.int .i64 out) (.slice (some ⟨g, 0, none⟩) ln cp)))
                          have HRES := hid (show pwL w zs true qs ls out r0 r1 r2 r3 = gridL F wd k 0 from by unfold pwL rG; rw [HFF.out, HWD.out, HHT.out, Int.toNat_natCast, Int.toNat_natCast, ← HKE.out])
                          have q232 := H231.out.cell 2 rfl 0 rfl
                          have q233 := H231.out.cell 2 rfl 1 rfl
                          have q234 := H231.out.cell 2 rfl 2 rfl
                          have q235 := H231.out.cell 2 rfl 3 rfl
                          refine bodyPost_ret (v := .tuple #[.agg #[.int .i64 (r2 - r0), .int .i64 (r3 - r1), .int .i64 out, .slice (some ⟨g, 0, none⟩) ln cp], .int .i64 0]) ?_ rfl (TPost.yes HTC.out (by rw [hB, HRES.out]; exact H231.out.own 0 rfl) (by first | exact H231.out.below | exact H231.out.below'))
                          simp [results, Try.results46, go_sem, q232, q233, q234, q235]
                    | false =>
                      have z236 := H102.out.cell 0 rfl 0 rfl
                      have z237 := H102.out.free 0 rfl 0
                      have z238 := H102.out.cell 0 rfl 1 rfl
                      have z239 := H102.out.free 0 rfl 1
                      have z240 := H102.out.cell 0 rfl 2 rfl
                      have z241 := H102.out.free 0 rfl 2
                      have z242 := H102.out.cell 0 rfl 3 rfl
                      have z243 := H102.out.free 0 rfl 3
                      go_wp2_with fail
                      clear z236 z237 z238 z239 z240 z241 z242 z243
                      have H244 := hid (show St B W [.cells (B + 1 + 1 + 1) #[.int .i64 0, .int .i64 0, .int .i64 0, .slice none 0 0] 66, .cells (B + 1 + 1) #[.int .i64 r0, .int .i64 r1, .int .i64 r2, .int .i64 r3] 24, .cells (B + 1) #[.int .i64 qw, .int .i64 qh, .int .i64 qmx, .slice qa qn qc] 66, .cells B #[.int .i64 w, .int .i64 h, .int .i64 mx, .slice a n c] 66] [] ((((w101.setCell ⟨B + 1 + 1 + 1, 0, none⟩ (.int .i64 0)).setCell ⟨B + 1 + 1 + 1, 1, none⟩ (.int .i64 0)).setCell ⟨B + 1 + 1 + 1, 2, none⟩ (.int .i64 0)).setCell ⟨B + 1 + 1 + 1, 3, none⟩ (.slice none 0 0)) from (H102.out.set4 0 rfl (.int .i64 0) (.int .i64 0) (.int .i64 0) (.slice none 0 0)))
                      have q245 := H244.out.cell 0 rfl 0 rfl
                      have q246 := H244.out.cell 0 rfl 1 rfl
                      have q247 := H244.out.cell 0 rfl 2 rfl
                      have q248 := H244.out.cell 0 rfl 3 rfl
                      refine bodyPost_ret (v := .tuple #[.agg #[.int .i64 0, .int .i64 0, .int .i64 0, .slice none 0 0], .int .i64 8]) ?_ rfl (TPost.no (by unfold pwTC; rw [if_neg (fun hc => hc ⟨HNb9.out, fun _ => HNb16.out⟩), if_neg (show ¬ vCode ls true ≠ 0 from by rw [HNc19.out]; have := c20h.out; have := c62h.out; have := c63h.out; have := c64h.out; omega), if_neg (fun hc => hc (valOk_iff'.2 (by have := c20h.out; have := c62h.out; have := c63h.out; have := c64h.out; omega))), if_neg (show ¬ (ivR ls mx (pwS true qmx)).2.2 ≠ 0 from by rw [show pwS true qmx = qmx from rfl, HNc61.out]; have := c20h.out; have := c62h.out; have := c63h.out; have := c64h.out; omega), if_pos (by first | exact Or.inl ⟨rfl, by have := c20h.out; have := c62h.out; have := c63h.out; have := c64h.out; omega⟩ | exact Or.inr (by unfold rIs; rw [HNb103.out]; simp))]) (by have := c20h.out; have := c62h.out; have := c63h.out; have := c64h.out; omega) (by first | exact H244.out.below | exact H244.out.below'))
                      simp [results, Try.results46, go_sem, q245, q246, q247, q248]
                · have c64a : ((h : Int) == (qh)) = false := by simpa using c64
                  have c64b : ((h : Int) != (qh)) = true := by simpa using c64
                  have c64h := hid c64
                  clear c64
                  have z249 := H58.out.cell 3 rfl 0 rfl
                  have z250 := H58.out.cell 3 rfl 1 rfl
                  have z251 := H58.out.cell 3 rfl 2 rfl
                  have z252 := H58.out.cell 3 rfl 3 rfl
                  have z253 := H58.out.cell 2 rfl 0 rfl
                  have z254 := H58.out.cell 2 rfl 1 rfl
                  have z255 := H58.out.cell 2 rfl 2 rfl
                  have z256 := H58.out.cell 2 rfl 3 rfl
                  have z257 := H58.out.cell 0 rfl 0 rfl
                  have z258 := H58.out.free 0 rfl 0
                  have z259 := H58.out.cell 0 rfl 1 rfl
                  have z260 := H58.out.free 0 rfl 1
                  have z261 := H58.out.cell 0 rfl 2 rfl
                  have z262 := H58.out.free 0 rfl 2
                  have z263 := H58.out.cell 0 rfl 3 rfl
                  have z264 := H58.out.free 0 rfl 3
                  go_wp2_with fail
                  clear z249 z250 z251 z252 z253 z254 z255 z256 z257 z258 z259 z260 z261 z262 z263 z264
                  have H265 := hid (show St B W [.cells (B + 1 + 1 + 1) #[.int .i64 0, .int .i64 0, .int .i64 0, .slice none 0 0] 66, .cells (B + 1 + 1) #[.int .i64 r0, .int .i64 r1, .int .i64 r2, .int .i64 r3] 24, .cells (B + 1) #[.int .i64 qw, .int .i64 qh, .int .i64 qmx, .slice qa qn qc] 66, .cells B #[.int .i64 w, .int .i64 h, .int .i64 mx, .slice a n c] 66] [] ((((w57.setCell ⟨B + 1 + 1 + 1, 0, none⟩ (.int .i64 0)).setCell ⟨B + 1 + 1 + 1, 1, none⟩ (.int .i64 0)).setCell ⟨B + 1 + 1 + 1, 2, none⟩ (.int .i64 0)).setCell ⟨B + 1 + 1 + 1, 3, none⟩ (.slice none 0 0)) from (H58.out.set4 0 rfl (.int .i64 0) (.int .i64 0) (.int .i64 0) (.slice none 0 0)))
                  have q266 := H265.out.cell 0 rfl 0 rfl
                  have q267 := H265.out.cell 0 rfl 1 rfl
                  have q268 := H265.out.cell 0 rfl 2 rfl
                  have q269 := H265.out.cell 0 rfl 3 rfl
                  refine bodyPost_ret (v := .tuple #[.agg #[.int .i64 0, .int .i64 0, .int .i64 0, .slice none 0 0], .int .i64 8]) ?_ rfl (TPost.no (by unfold pwTC; rw [if_neg (fun hc => hc ⟨HNb9.out, fun _ => HNb16.out⟩), if_neg (show ¬ vCode ls true ≠ 0 from by rw [HNc19.out]; have := c20h.out; have := c62h.out; have := c63h.out; have := c64h.out; omega), if_neg (fun hc => hc (valOk_iff'.2 (by have := c20h.out; have := c62h.out; have := c63h.out; have := c64h.out; omega))), if_neg (show ¬ (ivR ls mx (pwS true qmx)).2.2 ≠ 0 from by rw [show pwS true qmx = qmx from rfl, HNc61.out]; have := c20h.out; have := c62h.out; have := c63h.out; have := c64h.out; omega), if_pos (by first | exact Or.inl ⟨rfl, by have := c20h.out; have := c62h.out; have := c63h.out; have := c64h.out; omega⟩ | exact Or.inr (by unfold rIs; exact absurd rfl))]) (by have := c20h.out; have := c62h.out; have := c63h.out; have := c64h.out; omega) (by first | exact H265.out.below | exact H265.out.below'))
                  simp [results, Try.results46, go_sem, q266, q267, q268, q269]
              · have c63a : ((w : Int) == (qw)) = false := by simpa using c63
                have c63b : ((w : Int) != (qw)) = true := by simpa using c63
                have c63h := hid c63
                clear c63
                have z270 := H58.out.cell 3 rfl 0 rfl
                have z271 := H58.out.cell 3 rfl 1 rfl
                have z272 := H58.out.cell 3 rfl 2 rfl
                have z273 := H58.out.cell 3 rfl 3 rfl
                have z274 := H58.out.cell 2 rfl 0 rfl
                have z275 := H58.out.cell 2 rfl 1 rfl
                have z276 := H58.out.cell 2 rfl 2 rfl
                have z277 := H58.out.cell 2 rfl 3 rfl
                have z278 := H58.out.cell 0 rfl 0 rfl
                have z279 := H58.out.free 0 rfl 0
                have z280 := H58.out.cell 0 rfl 1 rfl
                have z281 := H58.out.free 0 rfl 1
                have z282 := H58.out.cell 0 rfl 2 rfl
                have z283 := H58.out.free 0 rfl 2
                have z284 := H58.out.cell 0 rfl 3 rfl
                have z285 := H58.out.free 0 rfl 3
                go_wp2_with fail
                clear z270 z271 z272 z273 z274 z275 z276 z277 z278 z279 z280 z281 z282 z283 z284 z285
                have H286 := hid (show St B W [.cells (B + 1 + 1 + 1) #[.int .i64 0, .int .i64 0, .int .i64 0, .slice none 0 0] 66, .cells (B + 1 + 1) #[.int .i64 r0, .int .i64 r1, .int .i64 r2, .int .i64 r3] 24, .cells (B + 1) #[.int .i64 qw, .int .i64 qh, .int .i64 qmx, .slice qa qn qc] 66, .cells B #[.int .i64 w, .int .i64 h, .int .i64 mx, .slice a n c] 66] [] ((((w57.setCell ⟨B + 1 + 1 + 1, 0, none⟩ (.int .i64 0)).setCell ⟨B + 1 + 1 + 1, 1, none⟩ (.int .i64 0)).setCell ⟨B + 1 + 1 + 1, 2, none⟩ (.int .i64 0)).setCell ⟨B + 1 + 1 + 1, 3, none⟩ (.slice none 0 0)) from (H58.out.set4 0 rfl (.int .i64 0) (.int .i64 0) (.int .i64 0) (.slice none 0 0)))
                have q287 := H286.out.cell 0 rfl 0 rfl
                have q288 := H286.out.cell 0 rfl 1 rfl
                have q289 := H286.out.cell 0 rfl 2 rfl
                have q290 := H286.out.cell 0 rfl 3 rfl
                refine bodyPost_ret (v := .tuple #[.agg #[.int .i64 0, .int .i64 0, .int .i64 0, .slice none 0 0], .int .i64 8]) ?_ rfl (TPost.no (by unfold pwTC; rw [if_neg (fun hc => hc ⟨HNb9.out, fun _ => HNb16.out⟩), if_neg (show ¬ vCode ls true ≠ 0 from by rw [HNc19.out]; have := c20h.out; have := c62h.out; have := c63h.out; omega), if_neg (fun hc => hc (valOk_iff'.2 (by have := c20h.out; have := c62h.out; have := c63h.out; omega))), if_neg (show ¬ (ivR ls mx (pwS true qmx)).2.2 ≠ 0 from by rw [show pwS true qmx = qmx from rfl, HNc61.out]; have := c20h.out; have := c62h.out; have := c63h.out; omega), if_pos (by first | exact Or.inl ⟨rfl, by have := c20h.out; have := c62h.out; have := c63h.out; omega⟩ | exact Or.inr (by unfold rIs; exact absurd rfl))]) (by have := c20h.out; have := c62h.out; have := c63h.out; omega) (by first | exact H286.out.below | exact H286.out.below'))
                simp [results, Try.results46, go_sem, q287, q288, q289, q290]
            · have c62a : ((c61 : Int) == (0)) = false := by simpa using c62
              have c62b : ((c61 : Int) != (0)) = true := by simpa using c62
              have c62h := hid c62
              clear c62
              have z291 := H58.out.cell 0 rfl 0 rfl
              have z292 := H58.out.free 0 rfl 0
              have z293 := H58.out.cell 0 rfl 1 rfl
              have z294 := H58.out.free 0 rfl 1
              have z295 := H58.out.cell 0 rfl 2 rfl
              have z296 := H58.out.free 0 rfl 2
              have z297 := H58.out.cell 0 rfl 3 rfl
              have z298 := H58.out.free 0 rfl 3
              go_wp2_with fail
              clear z291 z292 z293 z294 z295 z296 z297 z298
              have H299 := hid (show St B W [.cells (B + 1 + 1 + 1) #[.int .i64 0, .int .i64 0, .int .i64 0, .slice none 0 0] 66, .cells (B + 1 + 1) #[.int .i64 r0, .int .i64 r1, .int .i64 r2, .int .i64 r3] 24, .cells (B + 1) #[.int .i64 qw, .int .i64 qh, .int .i64 qmx, .slice qa qn qc] 66, .cells B #[.int .i64 w, .int .i64 h, .int .i64 mx, .slice a n c] 66] [] ((((w57.setCell ⟨B + 1 + 1 + 1, 0, none⟩ (.int .i64 0)).setCell ⟨B + 1 + 1 + 1, 1, none⟩ (.int .i64 0)).setCell ⟨B + 1 + 1 + 1, 2, none⟩ (.int .i64 0)).setCell ⟨B + 1 + 1 + 1, 3, none⟩ (.slice none 0 0)) from (H58.out.set4 0 rfl (.int .i64 0) (.int .i64 0) (.int .i64 0) (.slice none 0 0)))
              have q300 := H299.out.cell 0 rfl 0 rfl
              have q301 := H299.out.cell 0 rfl 1 rfl
              have q302 := H299.out.cell 0 rfl 2 rfl
              have q303 := H299.out.cell 0 rfl 3 rfl
              refine bodyPost_ret (v := .tuple #[.agg #[.int .i64 0, .int .i64 0, .int .i64 0, .slice none 0 0], .int .i64 c61]) ?_ rfl (TPost.no (by unfold pwTC; rw [if_neg (fun hc => hc ⟨HNb9.out, fun _ => HNb16.out⟩), if_neg (show ¬ vCode ls true ≠ 0 from by rw [HNc19.out]; have := c20h.out; have := c62h.out; omega), if_neg (fun hc => hc (valOk_iff'.2 (by have := c20h.out; have := c62h.out; omega))), if_pos (show (ivR ls mx (pwS true qmx)).2.2 ≠ 0 from by rw [show pwS true qmx = qmx from rfl, HNc61.out]; have := c20h.out; have := c62h.out; omega)]; exact HNc61.out) (by have := c20h.out; have := c62h.out; omega) (by first | exact H299.out.below | exact H299.out.below'))
              simp [results, Try.results46, go_sem, q300, q301, q302, q303]
      · have c20a : ((c19 : Int) == (0)) = false := by simpa using c20
        have c20b : ((c19 : Int) != (0)) = true := by simpa using c20
        have c20h := hid c20
        clear c20
        have z304 := H18.out.cell 0 rfl 0 rfl
        have z305 := H18.out.free 0 rfl 0
        have z306 := H18.out.cell 0 rfl 1 rfl
        have z307 := H18.out.free 0 rfl 1
        have z308 := H18.out.cell 0 rfl 2 rfl
        have z309 := H18.out.free 0 rfl 2
        have z310 := H18.out.cell 0 rfl 3 rfl
        have z311 := H18.out.free 0 rfl 3
        go_wp2_with fail
        clear z304 z305 z306 z307 z308 z309 z310 z311
        have H312 := hid (show St B W [.cells (B + 1 + 1 + 1) #[.int .i64 0, .int .i64 0, .int .i64 0, .slice none 0 0] 66, .cells (B + 1 + 1) #[.int .i64 r0, .int .i64 r1, .int .i64 r2, .int .i64 r3] 24, .cells (B + 1) #[.int .i64 qw, .int .i64 qh, .int .i64 qmx, .slice qa qn qc] 66, .cells B #[.int .i64 w, .int .i64 h, .int .i64 mx, .slice a n c] 66] [] ((((w17.setCell ⟨B + 1 + 1 + 1, 0, none⟩ (.int .i64 0)).setCell ⟨B + 1 + 1 + 1, 1, none⟩ (.int .i64 0)).setCell ⟨B + 1 + 1 + 1, 2, none⟩ (.int .i64 0)).setCell ⟨B + 1 + 1 + 1, 3, none⟩ (.slice none 0 0)) from (H18.out.set4 0 rfl (.int .i64 0) (.int .i64 0) (.int .i64 0) (.slice none 0 0)))
        have q313 := H312.out.cell 0 rfl 0 rfl
        have q314 := H312.out.cell 0 rfl 1 rfl
        have q315 := H312.out.cell 0 rfl 2 rfl
        have q316 := H312.out.cell 0 rfl 3 rfl
        refine bodyPost_ret (v := .tuple #[.agg #[.int .i64 0, .int .i64 0, .int .i64 0, .slice none 0 0], .int .i64 c19]) ?_ rfl (TPost.no (by unfold pwTC; rw [if_neg (fun hc => hc ⟨HNb9.out, fun _ => HNb16.out⟩), if_pos (show vCode ls true ≠ 0 from by rw [HNc19.out]; have := c20h.out; omega), HNc19.out]) (by have := c20h.out; omega) (by first | exact H312.out.below | exact H312.out.below'))
        simp [results, Try.results46, go_sem, q313, q314, q315, q316]
    | false =>
      have z317 := H15.out.cell 0 rfl 0 rfl
      have z318 := H15.out.free 0 rfl 0
      have z319 := H15.out.cell 0 rfl 1 rfl
      have z320 := H15.out.free 0 rfl 1
      have z321 := H15.out.cell 0 rfl 2 rfl
      have z322 := H15.out.free 0 rfl 2
      have z323 := H15.out.cell 0 rfl 3 rfl
      have z324 := H15.out.free 0 rfl 3
      go_wp2_with fail
      clear z317 z318 z319 z320 z321 z322 z323 z324
      have H325 := hid (show St B W [.cells (B + 1 + 1 + 1) #[.int .i64 0, .int .i64 0, .int .i64 0, .slice none 0 0] 66, .cells (B + 1 + 1) #[.int .i64 r0, .int .i64 r1, .int .i64 r2, .int .i64 r3] 24, .cells (B + 1) #[.int .i64 qw, .int .i64 qh, .int .i64 qmx, .slice qa qn qc] 66, .cells B #[.int .i64 w, .int .i64 h, .int .i64 mx, .slice a n c] 66] [] ((((w14.setCell ⟨B + 1 + 1 + 1, 0, none⟩ (.int .i64 0)).setCell ⟨B + 1 + 1 + 1, 1, none⟩ (.int .i64 0)).setCell ⟨B + 1 + 1 + 1, 2, none⟩ (.int .i64 0)).setCell ⟨B + 1 + 1 + 1, 3, none⟩ (.slice none 0 0)) from (H15.out.set4 0 rfl (.int .i64 0) (.int .i64 0) (.int .i64 0) (.slice none 0 0)))
      have q326 := H325.out.cell 0 rfl 0 rfl
      have q327 := H325.out.cell 0 rfl 1 rfl
      have q328 := H325.out.cell 0 rfl 2 rfl
      have q329 := H325.out.cell 0 rfl 3 rfl
      refine bodyPost_ret (v := .tuple #[.agg #[.int .i64 0, .int .i64 0, .int .i64 0, .slice none 0 0], .int .i64 1]) ?_ rfl (TPost.no (by unfold pwTC; rw [if_pos (by intro hc; have h1 := hc.1; have h2 := hc.2; first | (rw [HNb16.out] at h1; cases h1) | (have h3 := h2 rfl; rw [HNb16.out] at h3; cases h3))]) (by omega) (by first | exact H325.out.below | exact H325.out.below'))
      simp [results, Try.results46, go_sem, q326, q327, q328, q329]
  | false =>
    have z330 := H8.out.cell 0 rfl 0 rfl
    have z331 := H8.out.free 0 rfl 0
    have z332 := H8.out.cell 0 rfl 1 rfl
    have z333 := H8.out.free 0 rfl 1
    have z334 := H8.out.cell 0 rfl 2 rfl
    have z335 := H8.out.free 0 rfl 2
    have z336 := H8.out.cell 0 rfl 3 rfl
    have z337 := H8.out.free 0 rfl 3
    go_wp2_with fail
    clear z330 z331 z332 z333 z334 z335 z336 z337
    have H338 := hid (show St B W [.cells (B + 1 + 1 + 1) #[.int .i64 0, .int .i64 0, .int .i64 0, .slice none 0 0] 66, .cells (B + 1 + 1) #[.int .i64 r0, .int .i64 r1, .int .i64 r2, .int .i64 r3] 24, .cells (B + 1) #[.int .i64 qw, .int .i64 qh, .int .i64 qmx, .slice qa qn qc] 66, .cells B #[.int .i64 w, .int .i64 h, .int .i64 mx, .slice a n c] 66] [] ((((w7.setCell ⟨B + 1 + 1 + 1, 0, none⟩ (.int .i64 0)).setCell ⟨B + 1 + 1 + 1, 1, none⟩ (.int .i64 0)).setCell ⟨B + 1 + 1 + 1, 2, none⟩ (.int .i64 0)).setCell ⟨B + 1 + 1 + 1, 3, none⟩ (.slice none 0 0)) from (H8.out.set4 0 rfl (.int .i64 0) (.int .i64 0) (.int .i64 0) (.slice none 0 0)))
    have q339 := H338.out.cell 0 rfl 0 rfl
    have q340 := H338.out.cell 0 rfl 1 rfl
    have q341 := H338.out.cell 0 rfl 2 rfl
    have q342 := H338.out.cell 0 rfl 3 rfl
    refine bodyPost_ret (v := .tuple #[.agg #[.int .i64 0, .int .i64 0, .int .i64 0, .slice none 0 0], .int .i64 1]) ?_ rfl (TPost.no (by unfold pwTC; rw [if_pos (by intro hc; have h1 := hc.1; have h2 := hc.2; first | (rw [HNb9.out] at h1; cases h1) | (have h3 := h2 rfl; rw [HNb9.out] at h3; cases h3))]) (by omega) (by first | exact H338.out.below | exact H338.out.below'))
    simp [results, Try.results46, go_sem, q339, q340, q341, q342]

set_option maxRecDepth 100000 in
set_option maxHeartbeats 12800000 in
theorem ptile14_false (w h mx : Int) (a : Option Addr) (n c : Nat) (zs : List Int) (qw qh qmx : Int) (qa : Option Addr) (qn qc : Nat) (qs : List Int) (la : Option Addr) (lx lc : Nat) (ls : List (Int × Int)) (out r0 r1 r2 r3 : Int) (W : World) (hs : Slc W a n c zs) (hq : Slc W qa qn qc qs) (ho : Prs W la lx lc ls) :
    Calls Try.prog 46 #[.agg #[.int .i64 w, .int .i64 h, .int .i64 mx, .slice a n c], .agg #[.int .i64 qw, .int .i64 qh, .int .i64 qmx, .slice qa qn qc], .bool false, .slice la lx lc, .int .i64 out, .agg #[.int .i64 r0, .int .i64 r1, .int .i64 r2, .int .i64 r3]] W (TPost (pwTC w h mx zs qw qh qmx qs false ls out r0 r1 r2 r3) (r2 - r0) (r3 - r1) out (pwL w zs false qs ls out r0 r1 r2 r3) W) := by
  obtain ⟨B, hB⟩ : ∃ B, W.heap.size = B := ⟨_, rfl⟩
  have HI0 := hid (St.init hB)
  have HS := hid hs
  have HQ := hid hq
  have HO := hid ho
  have HLZ := hid hs.len
  have HLQ := hid hq.len
  clear hs hq ho
  go_enter Try.func46, Try.ntmps46
  go_upto_region 1 with fail
  have H343 := hid (show St B W [.cells (B + 1 + 1 + 1) #[.int .i64 0, .int .i64 0, .int .i64 0, .slice none 0 0] 66, .cells (B + 1 + 1) #[.int .i64 r0, .int .i64 r1, .int .i64 r2, .int .i64 r3] 24, .cells (B + 1) #[.int .i64 qw, .int .i64 qh, .int .i64 qmx, .slice qa qn qc] 66, .cells B #[.int .i64 w, .int .i64 h, .int .i64 mx, .slice a n c] 66] [] ((((W.alloc (.cells #[.int .i64 w, .int .i64 h, .int .i64 mx, .slice a n c] 66)).alloc (.cells #[.int .i64 qw, .int .i64 qh, .int .i64 qmx, .slice qa qn qc] 66)).alloc (.cells #[.int .i64 r0, .int .i64 r1, .int .i64 r2, .int .i64 r3] 24)).alloc (.cells #[.int .i64 0, .int .i64 0, .int .i64 0, .slice none 0 0] 66)) from ((((HI0.out.alloc #[.int .i64 w, .int .i64 h, .int .i64 mx, .slice a n c] 66 hB).alloc #[.int .i64 qw, .int .i64 qh, .int .i64 qmx, .slice qa qn qc] 66 (by first | exact hB | simp [hB])).alloc #[.int .i64 r0, .int .i64 r1, .int .i64 r2, .int .i64 r3] 24 (by first | exact hB | simp [hB])).alloc #[.int .i64 0, .int .i64 0, .int .i64 0, .slice none 0 0] 66 (by first | exact hB | simp [hB])))
  first | refine gen_code H343.out ?_ | refine gen_list H343.out ?_ | refine gen_calls H343.out ?_
  intro w344 hG
  clear H343
  have H343 := hid hG
  clear hG
  have z345 := H343.out.cell 3 rfl 0 rfl
  have z346 := H343.out.cell 3 rfl 1 rfl
  have z347 := H343.out.cell 3 rfl 2 rfl
  have z348 := H343.out.cell 3 rfl 3 rfl
  go_wp2_with fail
  clear z345 z346 z347 z348
  refine (pvalid_any _ _ _ _ _ _ _ _ (by have := HS.out.nc; have := HS.out.cap; omega) (H343.out.old HS.out).row).mono ?_
  rintro e w349 ⟨rfl, hb⟩
  have H350 := hid (H343.out.call hb)
  clear hb
  obtain ⟨b351, hb351⟩ : ∃ xx', pValid w h mx zs = xx' := ⟨_, rfl⟩
  rw [hb351]
  have HNb351 := hid hb351
  clear hb351
  cases b351 with
  | true =>
    go_wp2_with fail
    refine (pvalid_any14 _ _ _ ls false _ (H350.out.oldPrs HO.out)).mono ?_
    rintro e w352 ⟨rfl, hb⟩
    have H353 := hid (H350.out.call hb)
    clear hb
    obtain ⟨c354, hc354⟩ : ∃ xx', vCode ls false = xx' := ⟨_, rfl⟩
    rw [hc354]
    have HNc354 := hid hc354
    clear hc354
    by_cases c355 : (c354 : Int) = 0
    · obtain ⟨c355c, c355d⟩ : (c354 : Int) ≤ 0 ∧ (0 : Int) ≤ c354 := by omega
      have c355a : ((c354 : Int) == (0)) = true := by simpa using c355
      have c355b : ((c354 : Int) != (0)) = false := by simpa using c355
      have c355h := hid c355
      clear c355
      by_cases c356 : (out : Int) < 1
      · skip
        have z357 := H353.out.cell 0 rfl 0 rfl
        have z358 := H353.out.free 0 rfl 0
        have z359 := H353.out.cell 0 rfl 1 rfl
        have z360 := H353.out.free 0 rfl 1
        have z361 := H353.out.cell 0 rfl 2 rfl
        have z362 := H353.out.free 0 rfl 2
        have z363 := H353.out.cell 0 rfl 3 rfl
        have z364 := H353.out.free 0 rfl 3
        go_wp2_with fail
        clear z357 z358 z359 z360 z361 z362 z363 z364
        have H365 := hid (show St B W [.cells (B + 1 + 1 + 1) #[.int .i64 0, .int .i64 0, .int .i64 0, .slice none 0 0] 66, .cells (B + 1 + 1) #[.int .i64 r0, .int .i64 r1, .int .i64 r2, .int .i64 r3] 24, .cells (B + 1) #[.int .i64 qw, .int .i64 qh, .int .i64 qmx, .slice qa qn qc] 66, .cells B #[.int .i64 w, .int .i64 h, .int .i64 mx, .slice a n c] 66] [] ((((w352.setCell ⟨B + 1 + 1 + 1, 0, none⟩ (.int .i64 0)).setCell ⟨B + 1 + 1 + 1, 1, none⟩ (.int .i64 0)).setCell ⟨B + 1 + 1 + 1, 2, none⟩ (.int .i64 0)).setCell ⟨B + 1 + 1 + 1, 3, none⟩ (.slice none 0 0)) from (H353.out.set4 0 rfl (.int .i64 0) (.int .i64 0) (.int .i64 0) (.slice none 0 0)))
        have q366 := H365.out.cell 0 rfl 0 rfl
        have q367 := H365.out.cell 0 rfl 1 rfl
        have q368 := H365.out.cell 0 rfl 2 rfl
        have q369 := H365.out.cell 0 rfl 3 rfl
        refine bodyPost_ret (v := .tuple #[.agg #[.int .i64 0, .int .i64 0, .int .i64 0, .slice none 0 0], .int .i64 2]) ?_ rfl (TPost.no (by unfold pwTC; rw [if_neg (fun hc => hc ⟨HNb351.out, fun e => by cases e⟩), if_neg (show ¬ vCode ls false ≠ 0 from by rw [HNc354.out]; have := c355h.out; omega), if_pos (by rw [valOk_iff']; have := c355h.out; omega)]) (by have := c355h.out; omega) (by first | exact H365.out.below | exact H365.out.below'))
        simp [results, Try.results46, go_sem, q366, q367, q368, q369]
      · skip
        by_cases c370 : (4294967296 : Int) < out
        · skip
          have z371 := H353.out.cell 0 rfl 0 rfl
          have z372 := H353.out.free 0 rfl 0
          have z373 := H353.out.cell 0 rfl 1 rfl
          have z374 := H353.out.free 0 rfl 1
          have z375 := H353.out.cell 0 rfl 2 rfl
          have z376 := H353.out.free 0 rfl 2
          have z377 := H353.out.cell 0 rfl 3 rfl
          have z378 := H353.out.free 0 rfl 3
          go_wp2_with fail
          clear z371 z372 z373 z374 z375 z376 z377 z378
          have H379 := hid (show St B W [.cells (B + 1 + 1 + 1) #[.int .i64 0, .int .i64 0, .int .i64 0, .slice none 0 0] 66, .cells (B + 1 + 1) #[.int .i64 r0, .int .i64 r1, .int .i64 r2, .int .i64 r3] 24, .cells (B + 1) #[.int .i64 qw, .int .i64 qh, .int .i64 qmx, .slice qa qn qc] 66, .cells B #[.int .i64 w, .int .i64 h, .int .i64 mx, .slice a n c] 66] [] ((((w352.setCell ⟨B + 1 + 1 + 1, 0, none⟩ (.int .i64 0)).setCell ⟨B + 1 + 1 + 1, 1, none⟩ (.int .i64 0)).setCell ⟨B + 1 + 1 + 1, 2, none⟩ (.int .i64 0)).setCell ⟨B + 1 + 1 + 1, 3, none⟩ (.slice none 0 0)) from (H353.out.set4 0 rfl (.int .i64 0) (.int .i64 0) (.int .i64 0) (.slice none 0 0)))
          have q380 := H379.out.cell 0 rfl 0 rfl
          have q381 := H379.out.cell 0 rfl 1 rfl
          have q382 := H379.out.cell 0 rfl 2 rfl
          have q383 := H379.out.cell 0 rfl 3 rfl
          refine bodyPost_ret (v := .tuple #[.agg #[.int .i64 0, .int .i64 0, .int .i64 0, .slice none 0 0], .int .i64 2]) ?_ rfl (TPost.no (by unfold pwTC; rw [if_neg (fun hc => hc ⟨HNb351.out, fun e => by cases e⟩), if_neg (show ¬ vCode ls false ≠ 0 from by rw [HNc354.out]; have := c355h.out; omega), if_pos (by rw [valOk_iff']; have := c355h.out; omega)]) (by have := c355h.out; omega) (by first | exact H379.out.below | exact H379.out.below'))
          simp [results, Try.results46, go_sem, q380, q381, q382, q383]
        · skip
          have z384 := H353.out.cell 3 rfl 0 rfl
          have z385 := H353.out.cell 3 rfl 1 rfl
          have z386 := H353.out.cell 3 rfl 2 rfl
          have z387 := H353.out.cell 3 rfl 3 rfl
          go_wp2_with fail
          clear z384 z385 z386 z387
          refine (pinterval_any _ _ _ ls _ _ _ (H353.out.oldPrs HO.out)).mono ?_
          rintro e w388 ⟨rfl, hb⟩
          have H389 := hid (H353.out.call hb)
          clear hb
          obtain ⟨n390, hn390⟩ : ∃ xx', (ivR ls mx 1).1 = xx' := ⟨_, rfl⟩
          rw [hn390]
          have HNn390 := hid hn390
          clear hn390
          obtain ⟨n391, hn391⟩ : ∃ xx', (ivR ls mx 1).2.1 = xx' := ⟨_, rfl⟩
          rw [hn391]
          have HNn391 := hid hn391
          clear hn391
          obtain ⟨c392, hc392⟩ : ∃ xx', (ivR ls mx 1).2.2 = xx' := ⟨_, rfl⟩
          rw [hc392]
          have HNc392 := hid hc392
          clear hc392
          by_cases c393 : (c392 : Int) = 0
          · obtain ⟨c393c, c393d⟩ : (c392 : Int) ≤ 0 ∧ (0 : Int) ≤ c392 := by omega
            have c393a : ((c392 : Int) == (0)) = true := by simpa using c393
            have c393b : ((c392 : Int) != (0)) = false := by simpa using c393
            have c393h := hid c393
            clear c393
            have z394 := H389.out.cell 1 rfl 0 rfl
            have z395 := H389.out.cell 1 rfl 1 rfl
            have z396 := H389.out.cell 1 rfl 2 rfl
            have z397 := H389.out.cell 1 rfl 3 rfl
            go_wp2_with fail
            clear z394 z395 z396 z397
            refine (rempty_any _ _ _ _ _).mono ?_
            rintro e w398 ⟨rfl, hb⟩
            have H399 := hid (H389.out.call hb)
            clear hb
            obtain ⟨b400, hb400⟩ : ∃ xx', rEmpty r0 r1 r2 r3 = xx' := ⟨_, rfl⟩
            rw [hb400]
            have HNb400 := hid hb400
            clear hb400
            cases b400 with
            | true =>
              have z401 := H399.out.cell 0 rfl 0 rfl
              have z402 := H399.out.free 0 rfl 0
              have z403 := H399.out.cell 0 rfl 1 rfl
              have z404 := H399.out.free 0 rfl 1
              have z405 := H399.out.cell 0 rfl 2 rfl
              have z406 := H399.out.free 0 rfl 2
              have z407 := H399.out.cell 0 rfl 3 rfl
              have z408 := H399.out.free 0 rfl 3
              go_wp2_with fail
              clear z401 z402 z403 z404 z405 z406 z407 z408
              have H409 := hid (show St B W [.cells (B + 1 + 1 + 1) #[.int .i64 0, .int .i64 0, .int .i64 0, .slice none 0 0] 66, .cells (B + 1 + 1) #[.int .i64 r0, .int .i64 r1, .int .i64 r2, .int .i64 r3] 24, .cells (B + 1) #[.int .i64 qw, .int .i64 qh, .int .i64 qmx, .slice qa qn qc] 66, .cells B #[.int .i64 w, .int .i64 h, .int .i64 mx, .slice a n c] 66] [] ((((w398.setCell ⟨B + 1 + 1 + 1, 0, none⟩ (.int .i64 0)).setCell ⟨B + 1 + 1 + 1, 1, none⟩ (.int .i64 0)).setCell ⟨B + 1 + 1 + 1, 2, none⟩ (.int .i64 0)).setCell ⟨B + 1 + 1 + 1, 3, none⟩ (.slice none 0 0)) from (H399.out.set4 0 rfl (.int .i64 0) (.int .i64 0) (.int .i64 0) (.slice none 0 0)))
              have q410 := H409.out.cell 0 rfl 0 rfl
              have q411 := H409.out.cell 0 rfl 1 rfl
              have q412 := H409.out.cell 0 rfl 2 rfl
              have q413 := H409.out.cell 0 rfl 3 rfl
              refine bodyPost_ret (v := .tuple #[.agg #[.int .i64 0, .int .i64 0, .int .i64 0, .slice none 0 0], .int .i64 8]) ?_ rfl (TPost.no (by unfold pwTC; rw [if_neg (fun hc => hc ⟨HNb351.out, fun e => by cases e⟩), if_neg (show ¬ vCode ls false ≠ 0 from by rw [HNc354.out]; have := c355h.out; have := c393h.out; omega), if_neg (fun hc => hc (valOk_iff'.2 (by have := c355h.out; have := c393h.out; omega))), if_neg (show ¬ (ivR ls mx (pwS false qmx)).2.2 ≠ 0 from by rw [show pwS false qmx = 1 from rfl, HNc392.out]; have := c355h.out; have := c393h.out; omega), if_pos (by first | exact Or.inl ⟨rfl, by have := c355h.out; have := c393h.out; omega⟩ | exact Or.inr (by unfold rIs; rw [HNb400.out]; simp))]) (by have := c355h.out; have := c393h.out; omega) (by first | exact H409.out.below | exact H409.out.below'))
              simp [results, Try.results46, go_sem, q410, q411, q412, q413]
            | false =>
              have z414 := H399.out.cell 1 rfl 0 rfl
              have z415 := H399.out.cell 1 rfl 1 rfl
              have z416 := H399.out.cell 1 rfl 2 rfl
              have z417 := H399.out.cell 1 rfl 3 rfl
              have z418 := H399.out.cell 3 rfl 0 rfl
              have z419 := H399.out.cell 3 rfl 1 rfl
              have z420 := H399.out.cell 3 rfl 2 rfl
              have z421 := H399.out.cell 3 rfl 3 rfl
              go_wp2_with fail
              clear z414 z415 z416 z417 z418 z419 z420 z421
              refine (rinside_any _ _ _ _ _ _ _ _ _).mono ?_
              rintro e w422 ⟨rfl, hb⟩
              have H423 := hid (H399.out.call hb)
              clear hb
              obtain ⟨b424, hb424⟩ : ∃ xx', rInside r0 r1 r2 r3 0 0 w h = xx' := ⟨_, rfl⟩
              rw [hb424]
              have HNb424 := hid hb424
              clear hb424
              cases b424 with
              | true =>
                have HV := hid HNb351.out
                obtain ⟨p1, p2, p3, p4, p5, p6, p7⟩ := pOk_iff.1 (pValid_iff.1 HNb351.out).1
                have HVC := hid (show vCode ls false = 0 from by rw [HNc354.out]; have := c355h.out; have := c393h.out; omega)
                have HVT := hid (vCode_two HVC.out)
                have HIN := hid (show rIs r0 r1 r2 r3 w h = true from by unfold rIs; rw [HNb400.out, HNb424.out]; rfl)
                obtain ⟨i1, i2, i3, i4, i5, i6⟩ := (rIs_iff p1 p2 p3 p4).1 HIN.out
                obtain ⟨o1, o2⟩ : 1 ≤ out ∧ out ≤ 4294967296 := by have := c355h.out; have := c393h.out; omega
                have HTC := hid (show pwTC w h mx zs qw qh qmx qs false ls out r0 r1 r2 r3 = 0 from by unfold pwTC; rw [if_neg (fun hc => hc ⟨HNb351.out, fun e => by cases e⟩), if_neg (show ¬ vCode ls false ≠ 0 from by rw [HNc354.out]; have := c355h.out; have := c393h.out; omega), if_neg (fun hc => hc (valOk_iff'.2 (by have := c355h.out; have := c393h.out; omega))), if_neg (show ¬ (ivR ls mx (pwS false qmx)).2.2 ≠ 0 from by rw [show pwS false qmx = 1 from rfl, HNc392.out]; have := c355h.out; have := c393h.out; omega), if_neg (by rintro (hc | hc); exact absurd hc.1 (by simp) <;> done; exact hc HIN.out)])
                obtain ⟨wd, hwd⟩ : ∃ m : Nat, r2 - r0 = m := ⟨(r2 - r0).toNat, by omega⟩
                obtain ⟨ht, hht⟩ : ∃ m : Nat, r3 - r1 = m := ⟨(r3 - r1).toNat, by omega⟩
                have HWD := hid hwd
                have HHT := hid hht
                obtain ⟨wd1, wd2, ht1, ht2⟩ : (wd : Int) ≤ r2 - r0 ∧ r2 - r0 ≤ wd ∧ (ht : Int) ≤ r3 - r1 ∧ r3 - r1 ≤ ht := by omega
                have pq0 := Int.mul_nonneg (a := r2 - r0) (b := r3 - r1) (by omega) (by omega)
                have pq1 := Int.mul_le_mul (a := r2 - r0) (c := w) (b := r3 - r1) (d := h) (by omega) (by omega) (by omega) (by omega)
                obtain ⟨NN, hNN⟩ : ∃ N : Nat, (r2 - r0) * (r3 - r1) = N := ⟨((r2 - r0) * (r3 - r1)).toNat, by omega⟩
                rw [hNN] at pq0 pq1
                have HNN := hid (show ht * wd = NN from by have := hNN; rw [hwd, hht, ← Int.natCast_mul, Nat.mul_comm] at this; omega)
                clear hwd hht
                obtain ⟨F, hF⟩ : ∃ F : Nat → Nat → Int, (fun (k j : Nat) => pwP w zs false qs ls out (r0 + (j : Int)) (r1 + (k : Int))) = F := ⟨_, rfl⟩
                have HFV := hid (show ∀ k j : Nat, pwP w zs false qs ls out (r0 + (j : Int)) (r1 + (k : Int)) = F k j from fun k j => by rw [← hF])
                have HFF := hid hF
                clear hF
                have hnn2 : IntKind.i64.wrap (NN : Int) = NN := IntWalk.i64_in _ (by omega)
                obtain ⟨D425, hD425⟩ : ∃ D, w422.heap.size = D := ⟨_, rfl⟩
                have z426 := H423.out.cell 1 rfl 0 rfl
                have z427 := H423.out.cell 1 rfl 1 rfl
                have z428 := H423.out.cell 1 rfl 2 rfl
                have z429 := H423.out.cell 1 rfl 3 rfl
                go_upto_region 19 with fail
                clear z426 z427 z428 z429
                have H430 := hid (show St B W [.cells D425 #[.int .i64 (r2 - r0), .int .i64 (r3 - r1), .int .i64 out, .slice none 0 0] 66, .cells (B + 1 + 1 + 1) #[.int .i64 0, .int .i64 0, .int .i64 0, .slice none 0 0] 66, .cells (B + 1 + 1) #[.int .i64 r0, .int .i64 r1, .int .i64 r2, .int .i64 r3] 24, .cells (B + 1) #[.int .i64 qw, .int .i64 qh, .int .i64 qmx, .slice qa qn qc] 66, .cells B #[.int .i64 w, .int .i64 h, .int .i64 mx, .slice a n c] 66] [] (w422.alloc (.cells #[.int .i64 (r2 - r0), .int .i64 (r3 - r1), .int .i64 out, .slice none 0 0] 66)) from (H423.out.alloc #[.int .i64 (r2 - r0), .int .i64 (r3 - r1), .int .i64 out, .slice none 0 0] 66 hD425))
                first | refine gen_code H430.out ?_ | refine gen_list H430.out ?_ | refine gen_calls H430.out ?_
                intro w431 hG
                clear H430
                have H430 := hid hG
                clear hG
                clear hD425
                obtain ⟨D3, hD3⟩ : ∃ D, w431.heap.size = D := ⟨_, rfl⟩
                have hBD3 : B ≤ D3 := by have := H430.out.size; omega
                have z432 := H430.out.cell 0 rfl 0 rfl
                have z433 := H430.out.free 0 rfl 0
                have z434 := H430.out.cell 0 rfl 1 rfl
                have z435 := H430.out.free 0 rfl 1
                have z436 := H430.out.cell 0 rfl 2 rfl
                have z437 := H430.out.free 0 rfl 2
                have z438 := H430.out.cell 0 rfl 3 rfl
                have z439 := H430.out.free 0 rfl 3
                go_upto_region 20 with (first | (at_make; refine make_cap rfl _ _ rfl D3 _ NN rfl rfl (by first | rfl | exact hNN) (by omega) (by omega) ?_; intro w441 ho hb; rw [hD3] at ho ⊢; have H440 := hid (H430.out.grow hb (by rw [hD3]; exact ho)); clear ho hb z432 z433 z434 z435 z436 z437 z438 z439; have g3 := H440.out.cell 1 rfl 3 rfl; have g4 := H440.out.free 1 rfl 3))
                have H442 := hid (H440.out.set 1 rfl 3 (.slice (some ⟨D3, 0, none⟩) 0 NN))
                clear g3 g4 H440 hD3
                generalize World.setCell w441 _ _ = w443 at *
                clear hNN hnn2
                have z444 := H442.out.cell 3 rfl 0 rfl
                have z445 := H442.out.cell 3 rfl 1 rfl
                have z446 := H442.out.cell 3 rfl 2 rfl
                have z447 := H442.out.cell 3 rfl 3 rfl
                go_wp2_with fail
                clear z444 z445 z446 z447
                go_loopw [20] (fun i wr => ∃ (y : Int) (k ln g cp : Nat), k ≤ ht ∧ y ≤ r1 + k ∧ r1 + k ≤ y ∧ i = .int .i64 y ∧ ln = k * wd ∧ St B W [.own (.slice (some ⟨g, 0, none⟩) ln cp) (gridL F wd k 0), .cells D425 #[.int .i64 (r2 - r0), .int .i64 (r3 - r1), .int .i64 out, .slice (some ⟨g, 0, none⟩) ln cp] 66, .cells (B + 1 + 1 + 1) #[.int .i64 0, .int .i64 0, .int .i64 0, .slice none 0 0] 66, .cells (B + 1 + 1) #[.int .i64 r0, .int .i64 r1, .int .i64 r2, .int .i64 r3] 24, .cells (B + 1) #[.int .i64 qw, .int .i64 qh, .int .i64 qmx, .slice qa qn qc] 66, .cells B #[.int .i64 w, .int .i64 h, .int .i64 mx, .slice a n c] 66] [] wr) (fun i _ => (r3 - intOf i).toNat)
                case atStart => exact ⟨r1, 0, 0, D3, NN, by omega, by omega, by omega, rfl, by omega, H442.out.pick [0, 1, 2, 3, 4, 5] rfl (by decide)⟩
                case round =>
                  obtain ⟨y, k, ln, g, cp, hk, hy1, hy2, rfl, hln, hst⟩ := hrel
                  obtain ⟨u448, rfl⟩ : ∃ u448 : World, u448 = wr := ⟨_, rfl⟩
                  have H449 := hid hst
                  clear hst
                  have HLN := hid hln
                  clear hln
                  by_cases hkn : k < ht
                  · skip
                    have hkn' : (y : Int) < r3 := by omega
                    obtain ⟨PW, hPW⟩ : ∃ P, y * w = P := ⟨_, rfl⟩
                    have pw0 := Int.mul_nonneg (a := y) (b := w) (by omega) (by omega)
                    have pw1 := Int.mul_le_mul (a := y + 1) (c := h) (b := w) (d := w) (by omega) (by omega) (by omega) (by omega)
                    rw [Int.add_mul, Int.one_mul, hPW, Int.mul_comm h w] at pw1
                    rw [hPW] at pw0
                    have HPW := hid hPW
                    have z450 := H449.out.cell 3 rfl 0 rfl
                    have z451 := H449.out.cell 3 rfl 1 rfl
                    have z452 := H449.out.cell 3 rfl 2 rfl
                    have z453 := H449.out.cell 3 rfl 3 rfl
                    have z454 := H449.out.cell 5 rfl 0 rfl
                    have z455 := H449.out.cell 5 rfl 1 rfl
                    have z456 := H449.out.cell 5 rfl 2 rfl
                    have z457 := H449.out.cell 5 rfl 3 rfl
                    go_wp2_with fail
                    clear z450 z451 z452 z453 z454 z455 z456 z457
                    go_loopw [21] (fun i wr => ∃ (x : Int) (j ln g cp : Nat), j ≤ wd ∧ x ≤ PW + r0 + j ∧ PW + r0 + j ≤ x ∧ i = .int .i64 x ∧ ln = k * wd + j ∧ St B W [.own (.slice (some ⟨g, 0, none⟩) ln cp) (gridL F wd k j), .cells D425 #[.int .i64 (r2 - r0), .int .i64 (r3 - r1), .int .i64 out, .slice (some ⟨g, 0, none⟩) ln cp] 66, .cells (B + 1 + 1 + 1) #[.int .i64 0, .int .i64 0, .int .i64 0, .slice none 0 0] 66, .cells (B + 1 + 1) #[.int .i64 r0, .int .i64 r1, .int .i64 r2, .int .i64 r3] 24, .cells (B + 1) #[.int .i64 qw, .int .i64 qh, .int .i64 qmx, .slice qa qn qc] 66, .cells B #[.int .i64 w, .int .i64 h, .int .i64 mx, .slice a n c] 66] [] wr) (fun i _ => (PW + r2 - intOf i).toNat)
                    case atStart => exact ⟨PW + r0, 0, ln, g, cp, by omega, by omega, by omega, rfl, by rw [HLN.out]; rfl, H449.out.pick [0, 1, 2, 3, 4, 5] rfl (by decide)⟩
                    case round =>
                      obtain ⟨x, j, ln, g, cp, hj, hx1, hx2, rfl, hln, hst⟩ := hrel
                      obtain ⟨u458, rfl⟩ : ∃ u458 : World, u458 = wr := ⟨_, rfl⟩
                      have H459 := hid hst
                      clear hst
                      clear HLN
                      have HLN := hid hln
                      clear hln
                      by_cases hjn : j < wd
                      · skip
                        have hjn' : (x : Int) < PW + r2 := by omega
                        have hwh := (pValid_iff.1 HV.out).2.1
                        rw [HLZ.out] at hwh
                        have hlt : x < n := by omega
                        clear hwh
                        obtain ⟨pbk, po, hpa⟩ := row_at (H459.out.old HS.out).row (by omega)
                        have cz := row_cell (by rw [← hpa]; exact (H459.out.old HS.out).row) (j := (x).toNat) (by omega)
                        obtain ⟨pz, hpz⟩ : ∃ z, zs.getD (x).toNat 0 = z := ⟨_, rfl⟩
                        have HPO := hid (show pixOk pz = true from by rw [← hpz]; exact pix_ok HV.out (by rw [HLZ.out]; omega))
                        rw [hpz] at cz
                        have HPZ := hid hpz
                        clear hpz
                        subst hpa
                        have HFX := hid (show clV (eGo ls [] pz 0).1 out = F k j from by rw [← HFV.out]; unfold pwP; rw [show (r1 + (k : Int)) * w + (r0 + (j : Int)) = x from by rw [show r1 + (k : Int) = y by omega, HPW.out]; omega]; show _ = clV (eGo ls [] (zs.getD (x).toNat 0) 0).1 out; rw [HPZ.out])
                        have z460 := H459.out.cell 5 rfl 0 rfl
                        have z461 := H459.out.cell 5 rfl 1 rfl
                        have z462 := H459.out.cell 5 rfl 2 rfl
                        have z463 := H459.out.cell 5 rfl 3 rfl
                        have z464 := H459.out.cell 3 rfl 0 rfl
                        have z465 := H459.out.cell 3 rfl 1 rfl
                        have z466 := H459.out.cell 3 rfl 2 rfl
                        have z467 := H459.out.cell 3 rfl 3 rfl
                        go_wp2_with fail
                        clear z460 z461 z462 z463 z464 z465 z466 z467
                        refine (prun_any _ _ _ ls _ _ _ (H459.out.oldPrs HO.out) HVT.out HPO.out (by decide)).mono ?_
                        rintro e w468 ⟨rfl, hb⟩
                        have H469 := hid (H459.out.call hb)
                        clear hb
                        obtain ⟨n470, hn470⟩ : ∃ xx', (eGo ls [] pz 0).1 = xx' := ⟨_, rfl⟩
                        rw [hn470]
                        have HNn470 := hid hn470
                        clear hn470
                        obtain ⟨n471, hn471⟩ : ∃ xx', (eGo ls [] pz 0).2 = xx' := ⟨_, rfl⟩
                        rw [hn471]
                        have HNn471 := hid hn471
                        clear hn471
                        go_upto_region 30 with fail
                        obtain ⟨fv, hfv⟩ : ∃ z, F k j = z := ⟨_, rfl⟩
                        rw [hfv] at HFX
                        have HGN := hid (show gridL F wd k j ++ [fv] = gridL F wd k (j + 1) from by rw [gridL_next, hfv])
                        clear hfv
                        have HLEN9 := hid (show (gridL F wd k (j + 1)).length = ln + 1 by rw [gridL_len, HLN.out]; omega)
                        have hln5 : ln ≤ 32768 := by have := HLN.out; have := Nat.mul_le_mul (show k ≤ 128 by omega) (show wd ≤ 128 by omega); omega
                        have H472 := hid H469.out.drew
                        refine wp_region_held_drew (S := (fun w' => w'.cell? ⟨D425, 0, none⟩ = some (.int .i64 (r2 - r0)) ∧ w'.cell? ⟨D425, 1, none⟩ = some (.int .i64 (r3 - r1)) ∧ w'.cell? ⟨D425, 2, none⟩ = some (.int .i64 out))) (by kernel_rfl) ⟨H472.out.cell 1 rfl 0 rfl, H472.out.cell 1 rfl 1 rfl, H472.out.cell 1 rfl 2 rfl⟩ (fun hHeld => ?_)
                        generalize w468.drew = k473 at *
                        refine tkA 0 ?_
                        try simp only [Act.put, p1, p2, p3, p4, p5, p6]
                        refine tkA 2 ?_
                        try simp only [Act.put, p1, p2, p3, p4, p5, p6]
                        refine tkA 3 ?_
                        try simp only [Act.put, p1, p2, p3, p4, p5, p6]
                        refine wpAnyH_ready (rs := [1, 4]) (by kernel_rfl) (by simp) (AllReadyH.cons (o := _) rfl (fun K hK => ?_) (AllReadyH.cons (o := _) rfl (fun K hK => ?_) AllReadyH.nil))
                        · have g474 := H472.out.cell 1 rfl 3 rfl
                          go_simp
                          refine hK.out _ _ ?_ (fun hHeld2 => ?_)
                          focus ((try dsimp only); (exact hHeld))
                          clear hK K
                          try simp only [Act.put, p1, p2, p3, p4, p5, p6]
                          clear hHeld2 g474
                          refine wpAnyH_ready (rs := [4]) (by kernel_rfl) (by simp) (AllReadyH.cons (o := _) rfl (fun K hK => ?_) AllReadyH.nil)
                          go_simp
                          go_at_call 83
                          refine (fclamp_any _ _ _).mono ?_
                          rintro e w475 ⟨rfl, hsw⟩
                          have hsw2 : k473 = w475 := by first | exact hsw | exact hsw.symm
                          clear hsw
                          subst hsw2
                          rw [show clV n470 out = fv from by rw [← HNn470.out]; exact HFX.out]
                          refine hK.out _ _ ?_ (fun hHeld2 => ?_)
                          focus ((try dsimp only); (exact ⟨H472.out.cell 1 rfl 0 rfl, H472.out.cell 1 rfl 1 rfl, H472.out.cell 1 rfl 2 rfl⟩))
                          clear hK K
                          try simp only [Act.put, p1, p2, p3, p4, p5, p6]
                          clear hHeld
                          have hHeld := hHeld2
                          clear hHeld2
                          refine wpAnyH_ready (rs := [5]) (by kernel_rfl) (by simp) (AllReadyH.cons (o := _) rfl (fun K hK => ?_) AllReadyH.nil)
                          obtain ⟨D476, hD476⟩ : ∃ D, k473.heap.size = D := ⟨_, rfl⟩
                          have H477 := hid (H472.out.alloc #[.int .i64 fv] 3 hD476)
                          go_simp
                          refine hK.out _ _ ?_ (fun hHeld2 => ?_)
                          focus ((try dsimp only); (exact ⟨H477.out.cell 2 rfl 0 rfl, H477.out.cell 2 rfl 1 rfl, H477.out.cell 2 rfl 2 rfl⟩))
                          clear hK K hHeld
                          try simp only [Act.put, p1, p2, p3, p4, p5, p6]
                          clear hD476
                          generalize (k473.alloc (.cells #[.int .i64 fv] 3)) = k478 at *
                          have hHeld := hHeld2
                          clear hHeld2
                          refine wpAnyH_ready (rs := [6]) (by kernel_rfl) (by simp) (AllReadyH.cons (o := _) rfl (fun K hK => ?_) AllReadyH.nil)
                          rw [if_pos (by rfl)]
                          refine oper_append_int _ _ rfl B _ (gridL F wd k j) fv D476 1 rfl rfl (H477.out.own 1 rfl) (H477.out.cell 0 rfl 0 rfl) (by first | omega | (rw [gridL_len]; omega) | (have := HLEN9.out; rw [gridL_len] at *; omega)) H477.out.size ?_
                          intro v9 k480 ho hg hv
                          have H479 := hid (H477.out.append 1 rfl ho hg hv)
                          clear hg hv
                          rw [HGN.out] at H479 ho
                          obtain ⟨g9, c9, rfl⟩ := ho.pos (by rw [HLEN9.out]; omega)
                          rw [HLEN9.out] at H479 ⊢
                          clear ho
                          refine hK.out _ _ ?_ (fun hHeld2 => ?_)
                          focus ((try dsimp only); (exact ⟨H479.out.cell 2 rfl 0 rfl, H479.out.cell 2 rfl 1 rfl, H479.out.cell 2 rfl 2 rfl⟩))
                          clear hK K
                          try simp only [Act.put, p1, p2, p3, p4, p5, p6]
                          clear hHeld
                          have hHeld := hHeld2
                          clear hHeld2
                          refine tkA 7 ?_
                          try simp only [Act.put, p1, p2, p3, p4, p5, p6]
                          refine wpAnyH_ready (rs := [8]) (by kernel_rfl) (by simp) (AllReadyH.cons (o := _) rfl (fun K hK => ?_) AllReadyH.nil)
                          have z481 := H479.out.cell 2 rfl 0 rfl
                          have z482 := H479.out.free 2 rfl 0
                          have z483 := H479.out.cell 2 rfl 1 rfl
                          have z484 := H479.out.free 2 rfl 1
                          have z485 := H479.out.cell 2 rfl 2 rfl
                          have z486 := H479.out.free 2 rfl 2
                          have z487 := H479.out.cell 2 rfl 3 rfl
                          have z488 := H479.out.free 2 rfl 3
                          have H489 := hid (show St B W [.cells D476 #[.int .i64 fv] 3, .own (.slice (some ⟨g9, 0, none⟩) (ln + 1) c9) (gridL F wd k (j + 1)), .cells D425 #[.int .i64 (r2 - r0), .int .i64 (r3 - r1), .int .i64 out, .slice (some ⟨g9, 0, none⟩) (ln + 1) c9] 66, .cells (B + 1 + 1 + 1) #[.int .i64 0, .int .i64 0, .int .i64 0, .slice none 0 0] 66, .cells (B + 1 + 1) #[.int .i64 r0, .int .i64 r1, .int .i64 r2, .int .i64 r3] 24, .cells (B + 1) #[.int .i64 qw, .int .i64 qh, .int .i64 qmx, .slice qa qn qc] 66, .cells B #[.int .i64 w, .int .i64 h, .int .i64 mx, .slice (some ⟨pbk, po, none⟩) n c] 66] [] (k480.setCell ⟨D425, 3, none⟩ (.slice (some ⟨g9, 0, none⟩) (ln + 1) c9)) from (H479.out.set 2 rfl 3 (.slice (some ⟨g9, 0, none⟩) (ln + 1) c9)))
                          go_simp
                          refine hK.out _ _ ?_ (fun hHeld2 => ?_)
                          focus ((try dsimp only); (exact ⟨H489.out.cell 2 rfl 0 rfl, H489.out.cell 2 rfl 1 rfl, H489.out.cell 2 rfl 2 rfl⟩))
                          clear hK K hHeld
                          try simp only [Act.put, p1, p2, p3, p4, p5, p6]
                          clear z481 z482 z483 z484 z485 z486 z487 z488
                          generalize (k480.setCell ⟨D425, 3, none⟩ (.slice (some ⟨g9, 0, none⟩) (ln + 1) c9)) = k490 at *
                          have hHeld := hHeld2
                          clear hHeld2
                          refine wpAnyH_done (by kernel_rfl) ?_ _
                          try clear hHeld
                          go_wp2_with fail
                          go_roundw
                          case rel => exact ⟨x + 1, j + 1, ln + 1, g9, c9, by omega, by omega, by omega, by go_num, by rw [HLN.out]; rfl, H489.out.pick [1, 2, 3, 4, 5, 6] rfl (by decide)⟩
                          case measure => first | (simp [intOf]; omega) | (simp [intOf]; done)
                        · go_simp
                          go_at_call 83
                          refine (fclamp_any _ _ _).mono ?_
                          rintro e w491 ⟨rfl, hsw⟩
                          have hsw2 : k473 = w491 := by first | exact hsw | exact hsw.symm
                          clear hsw
                          subst hsw2
                          rw [show clV n470 out = fv from by rw [← HNn470.out]; exact HFX.out]
                          refine hK.out _ _ ?_ (fun hHeld2 => ?_)
                          focus ((try dsimp only); (exact ⟨H472.out.cell 1 rfl 0 rfl, H472.out.cell 1 rfl 1 rfl, H472.out.cell 1 rfl 2 rfl⟩))
                          clear hK K
                          try simp only [Act.put, p1, p2, p3, p4, p5, p6]
                          clear hHeld
                          have hHeld := hHeld2
                          clear hHeld2
                          refine wpAnyH_ready (rs := [1, 5]) (by kernel_rfl) (by simp) (AllReadyH.cons (o := _) rfl (fun K hK => ?_) (AllReadyH.cons (o := _) rfl (fun K hK => ?_) AllReadyH.nil))
                          · have g492 := H472.out.cell 1 rfl 3 rfl
                            go_simp
                            refine hK.out _ _ ?_ (fun hHeld2 => ?_)
                            focus ((try dsimp only); (exact hHeld))
                            clear hK K
                            try simp only [Act.put, p1, p2, p3, p4, p5, p6]
                            clear hHeld2 g492
                            refine wpAnyH_ready (rs := [5]) (by kernel_rfl) (by simp) (AllReadyH.cons (o := _) rfl (fun K hK => ?_) AllReadyH.nil)
                            obtain ⟨D493, hD493⟩ : ∃ D, k473.heap.size = D := ⟨_, rfl⟩
                            have H494 := hid (H472.out.alloc #[.int .i64 fv] 3 hD493)
                            go_simp
                            refine hK.out _ _ ?_ (fun hHeld2 => ?_)
                            focus ((try dsimp only); (exact ⟨H494.out.cell 2 rfl 0 rfl, H494.out.cell 2 rfl 1 rfl, H494.out.cell 2 rfl 2 rfl⟩))
                            clear hK K hHeld
                            try simp only [Act.put, p1, p2, p3, p4, p5, p6]
                            clear hD493
                            generalize (k473.alloc (.cells #[.int .i64 fv] 3)) = k495 at *
                            have hHeld := hHeld2
                            clear hHeld2
                            refine wpAnyH_ready (rs := [6]) (by kernel_rfl) (by simp) (AllReadyH.cons (o := _) rfl (fun K hK => ?_) AllReadyH.nil)
                            rw [if_pos (by rfl)]
                            refine oper_append_int _ _ rfl B _ (gridL F wd k j) fv D493 1 rfl rfl (H494.out.own 1 rfl) (H494.out.cell 0 rfl 0 rfl) (by first | omega | (rw [gridL_len]; omega) | (have := HLEN9.out; rw [gridL_len] at *; omega)) H494.out.size ?_
                            intro v9 k497 ho hg hv
                            have H496 := hid (H494.out.append 1 rfl ho hg hv)
                            clear hg hv
                            rw [HGN.out] at H496 ho
                            obtain ⟨g9, c9, rfl⟩ := ho.pos (by rw [HLEN9.out]; omega)
                            rw [HLEN9.out] at H496 ⊢
                            clear ho
                            refine hK.out _ _ ?_ (fun hHeld2 => ?_)
                            focus ((try dsimp only); (exact ⟨H496.out.cell 2 rfl 0 rfl, H496.out.cell 2 rfl 1 rfl, H496.out.cell 2 rfl 2 rfl⟩))
                            clear hK K
                            try simp only [Act.put, p1, p2, p3, p4, p5, p6]
                            clear hHeld
                            have hHeld := hHeld2
                            clear hHeld2
                            refine tkA 7 ?_
                            try simp only [Act.put, p1, p2, p3, p4, p5, p6]
                            refine wpAnyH_ready (rs := [8]) (by kernel_rfl) (by simp) (AllReadyH.cons (o := _) rfl (fun K hK => ?_) AllReadyH.nil)
                            have z498 := H496.out.cell 2 rfl 0 rfl
                            have z499 := H496.out.free 2 rfl 0
                            have z500 := H496.out.cell 2 rfl 1 rfl
                            have z501 := H496.out.free 2 rfl 1
                            have z502 := H496.out.cell 2 rfl 2 rfl
                            have z503 := H496.out.free 2 rfl 2
                            have z504 := H496.out.cell 2 rfl 3 rfl
                            have z505 := H496.out.free 2 rfl 3
                            have H506 := hid (show St B W [.cells D493 #[.int .i64 fv] 3, .own (.slice (some ⟨g9, 0, none⟩) (ln + 1) c9) (gridL F wd k (j + 1)), .cells D425 #[.int .i64 (r2 - r0), .int .i64 (r3 - r1), .int .i64 out, .slice (some ⟨g9, 0, none⟩) (ln + 1) c9] 66, .cells (B + 1 + 1 + 1) #[.int .i64 0, .int .i64 0, .int .i64 0, .slice none 0 0] 66, .cells (B + 1 + 1) #[.int .i64 r0, .int .i64 r1, .int .i64 r2, .int .i64 r3] 24, .cells (B + 1) #[.int .i64 qw, .int .i64 qh, .int .i64 qmx, .slice qa qn qc] 66, .cells B #[.int .i64 w, .int .i64 h, .int .i64 mx, .slice (some ⟨pbk, po, none⟩) n c] 66] [] (k497.setCell ⟨D425, 3, none⟩ (.slice (some ⟨g9, 0, none⟩) (ln + 1) c9)) from (H496.out.set 2 rfl 3 (.slice (some ⟨g9, 0, none⟩) (ln + 1) c9)))
                            go_simp
                            refine hK.out _ _ ?_ (fun hHeld2 => ?_)
                            focus ((try dsimp only); (exact ⟨H506.out.cell 2 rfl 0 rfl, H506.out.cell 2 rfl 1 rfl, H506.out.cell 2 rfl 2 rfl⟩))
                            clear hK K hHeld
                            try simp only [Act.put, p1, p2, p3, p4, p5, p6]
                            clear z498 z499 z500 z501 z502 z503 z504 z505
                            generalize (k497.setCell ⟨D425, 3, none⟩ (.slice (some ⟨g9, 0, none⟩) (ln + 1) c9)) = k507 at *
                            have hHeld := hHeld2
                            clear hHeld2
                            refine wpAnyH_done (by kernel_rfl) ?_ _
                            try clear hHeld
                            go_wp2_with fail
                            go_roundw
                            case rel => exact ⟨x + 1, j + 1, ln + 1, g9, c9, by omega, by omega, by omega, by go_num, by rw [HLN.out]; rfl, H506.out.pick [1, 2, 3, 4, 5, 6] rfl (by decide)⟩
                            case measure => first | (simp [intOf]; omega) | (simp [intOf]; done)
                          · obtain ⟨D508, hD508⟩ : ∃ D, k473.heap.size = D := ⟨_, rfl⟩
                            have H509 := hid (H472.out.alloc #[.int .i64 fv] 3 hD508)
                            go_simp
                            refine hK.out _ _ ?_ (fun hHeld2 => ?_)
                            focus ((try dsimp only); (exact ⟨H509.out.cell 2 rfl 0 rfl, H509.out.cell 2 rfl 1 rfl, H509.out.cell 2 rfl 2 rfl⟩))
                            clear hK K hHeld
                            try simp only [Act.put, p1, p2, p3, p4, p5, p6]
                            clear hD508
                            generalize (k473.alloc (.cells #[.int .i64 fv] 3)) = k510 at *
                            have hHeld := hHeld2
                            clear hHeld2
                            refine wpAnyH_ready (rs := [1]) (by kernel_rfl) (by simp) (AllReadyH.cons (o := _) rfl (fun K hK => ?_) AllReadyH.nil)
                            have g511 := H509.out.cell 2 rfl 3 rfl
                            go_simp
                            refine hK.out _ _ ?_ (fun hHeld2 => ?_)
                            focus ((try dsimp only); (exact hHeld))
                            clear hK K
                            try simp only [Act.put, p1, p2, p3, p4, p5, p6]
                            clear hHeld2 g511
                            refine wpAnyH_ready (rs := [6]) (by kernel_rfl) (by simp) (AllReadyH.cons (o := _) rfl (fun K hK => ?_) AllReadyH.nil)
                            rw [if_pos (by rfl)]
                            refine oper_append_int _ _ rfl B _ (gridL F wd k j) fv D508 1 rfl rfl (H509.out.own 1 rfl) (H509.out.cell 0 rfl 0 rfl) (by first | omega | (rw [gridL_len]; omega) | (have := HLEN9.out; rw [gridL_len] at *; omega)) H509.out.size ?_
                            intro v9 k513 ho hg hv
                            have H512 := hid (H509.out.append 1 rfl ho hg hv)
                            clear hg hv
                            rw [HGN.out] at H512 ho
                            obtain ⟨g9, c9, rfl⟩ := ho.pos (by rw [HLEN9.out]; omega)
                            rw [HLEN9.out] at H512 ⊢
                            clear ho
                            refine hK.out _ _ ?_ (fun hHeld2 => ?_)
                            focus ((try dsimp only); (exact ⟨H512.out.cell 2 rfl 0 rfl, H512.out.cell 2 rfl 1 rfl, H512.out.cell 2 rfl 2 rfl⟩))
                            clear hK K
                            try simp only [Act.put, p1, p2, p3, p4, p5, p6]
                            clear hHeld
                            have hHeld := hHeld2
                            clear hHeld2
                            refine tkA 7 ?_
                            try simp only [Act.put, p1, p2, p3, p4, p5, p6]
                            refine wpAnyH_ready (rs := [8]) (by kernel_rfl) (by simp) (AllReadyH.cons (o := _) rfl (fun K hK => ?_) AllReadyH.nil)
                            have z514 := H512.out.cell 2 rfl 0 rfl
                            have z515 := H512.out.free 2 rfl 0
                            have z516 := H512.out.cell 2 rfl 1 rfl
                            have z517 := H512.out.free 2 rfl 1
                            have z518 := H512.out.cell 2 rfl 2 rfl
                            have z519 := H512.out.free 2 rfl 2
                            have z520 := H512.out.cell 2 rfl 3 rfl
                            have z521 := H512.out.free 2 rfl 3
                            have H522 := hid (show St B W [.cells D508 #[.int .i64 fv] 3, .own (.slice (some ⟨g9, 0, none⟩) (ln + 1) c9) (gridL F wd k (j + 1)), .cells D425 #[.int .i64 (r2 - r0), .int .i64 (r3 - r1), .int .i64 out, .slice (some ⟨g9, 0, none⟩) (ln + 1) c9] 66, .cells (B + 1 + 1 + 1) #[.int .i64 0, .int .i64 0, .int .i64 0, .slice none 0 0] 66, .cells (B + 1 + 1) #[.int .i64 r0, .int .i64 r1, .int .i64 r2, .int .i64 r3] 24, .cells (B + 1) #[.int .i64 qw, .int .i64 qh, .int .i64 qmx, .slice qa qn qc] 66, .cells B #[.int .i64 w, .int .i64 h, .int .i64 mx, .slice (some ⟨pbk, po, none⟩) n c] 66] [] (k513.setCell ⟨D425, 3, none⟩ (.slice (some ⟨g9, 0, none⟩) (ln + 1) c9)) from (H512.out.set 2 rfl 3 (.slice (some ⟨g9, 0, none⟩) (ln + 1) c9)))
                            go_simp
                            refine hK.out _ _ ?_ (fun hHeld2 => ?_)
                            focus ((try dsimp only); (exact ⟨H522.out.cell 2 rfl 0 rfl, H522.out.cell 2 rfl 1 rfl, H522.out.cell 2 rfl 2 rfl⟩))
                            clear hK K hHeld
                            try simp only [Act.put, p1, p2, p3, p4, p5, p6]
                            clear z514 z515 z516 z517 z518 z519 z520 z521
                            generalize (k513.setCell ⟨D425, 3, none⟩ (.slice (some ⟨g9, 0, none⟩) (ln + 1) c9)) = k523 at *
                            have hHeld := hHeld2
                            clear hHeld2
                            refine wpAnyH_done (by kernel_rfl) ?_ _
                            try clear hHeld
                            go_wp2_with fail
                            go_roundw
                            case rel => exact ⟨x + 1, j + 1, ln + 1, g9, c9, by omega, by omega, by omega, by go_num, by rw [HLN.out]; rfl, H522.out.pick [1, 2, 3, 4, 5, 6] rfl (by decide)⟩
                            case measure => first | (simp [intOf]; omega) | (simp [intOf]; done)
                      · skip
                        have hjn' : ¬ ((x : Int) < PW + r2) := by omega
                        have Hhjn := hid (show j = wd by omega)
                        have z524 := H459.out.cell 5 rfl 0 rfl
                        have z525 := H459.out.cell 5 rfl 1 rfl
                        have z526 := H459.out.cell 5 rfl 2 rfl
                        have z527 := H459.out.cell 5 rfl 3 rfl
                        have z528 := H459.out.cell 3 rfl 0 rfl
                        have z529 := H459.out.cell 3 rfl 1 rfl
                        have z530 := H459.out.cell 3 rfl 2 rfl
                        have z531 := H459.out.cell 3 rfl 3 rfl
                        go_wp2_with fail
                        clear z524 z525 z526 z527 z528 z529 z530 z531
                        go_roundw
                        case rel => exact ⟨y + 1, k + 1, ln, g, cp, by omega, by omega, by omega, by go_num, by rw [HLN.out, Hhjn.out, Nat.add_mul, Nat.one_mul], by rw [show gridL F wd (k + 1) 0 = gridL F wd k j by rw [← gridL_row, Hhjn.out]]; exact H459.out⟩
                        case measure => first | (simp [intOf]; omega) | (simp [intOf]; done)
                  · skip
                    have hkn' : ¬ ((y : Int) < r3) := by omega
                    have Hhkn := hid (show k = ht by omega)
                    have HKE := hid (show k = ht by omega)
                    have z532 := H449.out.cell 3 rfl 0 rfl
                    have z533 := H449.out.cell 3 rfl 1 rfl
                    have z534 := H449.out.cell 3 rfl 2 rfl
                    have z535 := H449.out.cell 3 rfl 3 rfl
                    have z536 := H449.out.cell 1 rfl 0 rfl
                    have z537 := H449.out.cell 1 rfl 1 rfl
                    have z538 := H449.out.cell 1 rfl 2 rfl
                    have z539 := H449.out.cell 1 rfl 3 rfl
                    have z540 := H449.out.cell 2 rfl 0 rfl
                    have z541 := H449.out.free 2 rfl 0
                    have z542 := H449.out.cell 2 rfl 1 rfl
                    have z543 := H449.out.free 2 rfl 1
                    have z544 := H449.out.cell 2 rfl 2 rfl
                    have z545 := H449.out.free 2 rfl 2
                    have z546 := H449.out.cell 2 rfl 3 rfl
                    have z547 := H449.out.free 2 rfl 3
                    go_wp2_with fail
                    clear z532 z533 z534 z535 z536 z537 z538 z539 z540 z541 z542 z543 z544 z545 z546 z547
                    have H548 := hid (show St B W [.own (.slice (some ⟨g, 0, none⟩) ln cp) (gridL F wd k 0), .cells D425 #[.int .i64 (r2 - r0), .int .i64 (r3 - r1), .int .i64 out, .slice (some ⟨g, 0, none⟩) ln cp] 66, .cells (B + 1 + 1 + 1) #[.int .i64 (r2 - r0), .int .i64 (r3 - r1), .int .i64 out, .slice (some ⟨g, 0, none⟩) ln cp] 66, .cells (B + 1 + 1) #[.int .i64 r0, .int .i64 r1, .int .i64 r2, .int .i64 r3] 24, .cells (B + 1) #[.int .i64 qw, .int .i64 qh, .int .i64 qmx, .slice qa qn qc] 66, .cells B #[.int .i64 w, .int .i64 h, .int .i64 mx, .slice a n c] 66] [] ((((u448.setCell ⟨B + 1 + 1 + 1, 0, none⟩ (.int .i64 (r2 - r0))).setCell ⟨B + 1 + 1 + 1, 1, none⟩ (.int .i64 (r3 - r1))).setCell ⟨B + 1 + 1 + 1, 2, none⟩ (.int .i64 out)).setCell ⟨B + 1 + 1 + 1, 3, none⟩ (.slice (some ⟨g, 0, none⟩) ln cp)) from (H449.out.set4 2 rfl (.int .i64 (r2 - r0)) (.int .i64 (r3 - r1)) (.int .i64 out) (.slice (some ⟨g, 0, none⟩) ln cp)))
                    have HRES := hid (show pwL w zs false qs ls out r0 r1 r2 r3 = gridL F wd k 0 from by unfold pwL rG; rw [HFF.out, HWD.out, HHT.out, Int.toNat_natCast, Int.toNat_natCast, ← HKE.out])
                    have q549 := H548.out.cell 2 rfl 0 rfl
                    have q550 := H548.out.cell 2 rfl 1 rfl
                    have q551 := H548.out.cell 2 rfl 2 rfl
                    have q552 := H548.out.cell 2 rfl 3 rfl
                    refine bodyPost_ret (v := .tuple #[.agg #[.int .i64 (r2 - r0), .int .i64 (r3 - r1), .int .i64 out, .slice (some ⟨g, 0, none⟩) ln cp], .int .i64 0]) ?_ rfl (TPost.yes HTC.out (by rw [hB, HRES.out]; exact H548.out.own 0 rfl) (by first | exact H548.out.below | exact H548.out.below'))
                    simp [results, Try.results46, go_sem, q549, q550, q551, q552]
              | false =>
                have z553 := H423.out.cell 0 rfl 0 rfl
                have z554 := H423.out.free 0 rfl 0
                have z555 := H423.out.cell 0 rfl 1 rfl
                have z556 := H423.out.free 0 rfl 1
                have z557 := H423.out.cell 0 rfl 2 rfl
                have z558 := H423.out.free 0 rfl 2
                have z559 := H423.out.cell 0 rfl 3 rfl
                have z560 := H423.out.free 0 rfl 3
                go_wp2_with fail
                clear z553 z554 z555 z556 z557 z558 z559 z560
                have H561 := hid (show St B W [.cells (B + 1 + 1 + 1) #[.int .i64 0, .int .i64 0, .int .i64 0, .slice none 0 0] 66, .cells (B + 1 + 1) #[.int .i64 r0, .int .i64 r1, .int .i64 r2, .int .i64 r3] 24, .cells (B + 1) #[.int .i64 qw, .int .i64 qh, .int .i64 qmx, .slice qa qn qc] 66, .cells B #[.int .i64 w, .int .i64 h, .int .i64 mx, .slice a n c] 66] [] ((((w422.setCell ⟨B + 1 + 1 + 1, 0, none⟩ (.int .i64 0)).setCell ⟨B + 1 + 1 + 1, 1, none⟩ (.int .i64 0)).setCell ⟨B + 1 + 1 + 1, 2, none⟩ (.int .i64 0)).setCell ⟨B + 1 + 1 + 1, 3, none⟩ (.slice none 0 0)) from (H423.out.set4 0 rfl (.int .i64 0) (.int .i64 0) (.int .i64 0) (.slice none 0 0)))
                have q562 := H561.out.cell 0 rfl 0 rfl
                have q563 := H561.out.cell 0 rfl 1 rfl
                have q564 := H561.out.cell 0 rfl 2 rfl
                have q565 := H561.out.cell 0 rfl 3 rfl
                refine bodyPost_ret (v := .tuple #[.agg #[.int .i64 0, .int .i64 0, .int .i64 0, .slice none 0 0], .int .i64 8]) ?_ rfl (TPost.no (by unfold pwTC; rw [if_neg (fun hc => hc ⟨HNb351.out, fun e => by cases e⟩), if_neg (show ¬ vCode ls false ≠ 0 from by rw [HNc354.out]; have := c355h.out; have := c393h.out; omega), if_neg (fun hc => hc (valOk_iff'.2 (by have := c355h.out; have := c393h.out; omega))), if_neg (show ¬ (ivR ls mx (pwS false qmx)).2.2 ≠ 0 from by rw [show pwS false qmx = 1 from rfl, HNc392.out]; have := c355h.out; have := c393h.out; omega), if_pos (by first | exact Or.inl ⟨rfl, by have := c355h.out; have := c393h.out; omega⟩ | exact Or.inr (by unfold rIs; rw [HNb424.out]; simp))]) (by have := c355h.out; have := c393h.out; omega) (by first | exact H561.out.below | exact H561.out.below'))
                simp [results, Try.results46, go_sem, q562, q563, q564, q565]
          · have c393a : ((c392 : Int) == (0)) = false := by simpa using c393
            have c393b : ((c392 : Int) != (0)) = true := by simpa using c393
            have c393h := hid c393
            clear c393
            have z566 := H389.out.cell 0 rfl 0 rfl
            have z567 := H389.out.free 0 rfl 0
            have z568 := H389.out.cell 0 rfl 1 rfl
            have z569 := H389.out.free 0 rfl 1
            have z570 := H389.out.cell 0 rfl 2 rfl
            have z571 := H389.out.free 0 rfl 2
            have z572 := H389.out.cell 0 rfl 3 rfl
            have z573 := H389.out.free 0 rfl 3
            go_wp2_with fail
            clear z566 z567 z568 z569 z570 z571 z572 z573
            have H574 := hid (show St B W [.cells (B + 1 + 1 + 1) #[.int .i64 0, .int .i64 0, .int .i64 0, .slice none 0 0] 66, .cells (B + 1 + 1) #[.int .i64 r0, .int .i64 r1, .int .i64 r2, .int .i64 r3] 24, .cells (B + 1) #[.int .i64 qw, .int .i64 qh, .int .i64 qmx, .slice qa qn qc] 66, .cells B #[.int .i64 w, .int .i64 h, .int .i64 mx, .slice a n c] 66] [] ((((w388.setCell ⟨B + 1 + 1 + 1, 0, none⟩ (.int .i64 0)).setCell ⟨B + 1 + 1 + 1, 1, none⟩ (.int .i64 0)).setCell ⟨B + 1 + 1 + 1, 2, none⟩ (.int .i64 0)).setCell ⟨B + 1 + 1 + 1, 3, none⟩ (.slice none 0 0)) from (H389.out.set4 0 rfl (.int .i64 0) (.int .i64 0) (.int .i64 0) (.slice none 0 0)))
            have q575 := H574.out.cell 0 rfl 0 rfl
            have q576 := H574.out.cell 0 rfl 1 rfl
            have q577 := H574.out.cell 0 rfl 2 rfl
            have q578 := H574.out.cell 0 rfl 3 rfl
            refine bodyPost_ret (v := .tuple #[.agg #[.int .i64 0, .int .i64 0, .int .i64 0, .slice none 0 0], .int .i64 c392]) ?_ rfl (TPost.no (by unfold pwTC; rw [if_neg (fun hc => hc ⟨HNb351.out, fun e => by cases e⟩), if_neg (show ¬ vCode ls false ≠ 0 from by rw [HNc354.out]; have := c355h.out; have := c393h.out; omega), if_neg (fun hc => hc (valOk_iff'.2 (by have := c355h.out; have := c393h.out; omega))), if_pos (show (ivR ls mx (pwS false qmx)).2.2 ≠ 0 from by rw [show pwS false qmx = 1 from rfl, HNc392.out]; have := c355h.out; have := c393h.out; omega)]; exact HNc392.out) (by have := c355h.out; have := c393h.out; omega) (by first | exact H574.out.below | exact H574.out.below'))
            simp [results, Try.results46, go_sem, q575, q576, q577, q578]
    · have c355a : ((c354 : Int) == (0)) = false := by simpa using c355
      have c355b : ((c354 : Int) != (0)) = true := by simpa using c355
      have c355h := hid c355
      clear c355
      have z579 := H353.out.cell 0 rfl 0 rfl
      have z580 := H353.out.free 0 rfl 0
      have z581 := H353.out.cell 0 rfl 1 rfl
      have z582 := H353.out.free 0 rfl 1
      have z583 := H353.out.cell 0 rfl 2 rfl
      have z584 := H353.out.free 0 rfl 2
      have z585 := H353.out.cell 0 rfl 3 rfl
      have z586 := H353.out.free 0 rfl 3
      go_wp2_with fail
      clear z579 z580 z581 z582 z583 z584 z585 z586
      have H587 := hid (show St B W [.cells (B + 1 + 1 + 1) #[.int .i64 0, .int .i64 0, .int .i64 0, .slice none 0 0] 66, .cells (B + 1 + 1) #[.int .i64 r0, .int .i64 r1, .int .i64 r2, .int .i64 r3] 24, .cells (B + 1) #[.int .i64 qw, .int .i64 qh, .int .i64 qmx, .slice qa qn qc] 66, .cells B #[.int .i64 w, .int .i64 h, .int .i64 mx, .slice a n c] 66] [] ((((w352.setCell ⟨B + 1 + 1 + 1, 0, none⟩ (.int .i64 0)).setCell ⟨B + 1 + 1 + 1, 1, none⟩ (.int .i64 0)).setCell ⟨B + 1 + 1 + 1, 2, none⟩ (.int .i64 0)).setCell ⟨B + 1 + 1 + 1, 3, none⟩ (.slice none 0 0)) from (H353.out.set4 0 rfl (.int .i64 0) (.int .i64 0) (.int .i64 0) (.slice none 0 0)))
      have q588 := H587.out.cell 0 rfl 0 rfl
      have q589 := H587.out.cell 0 rfl 1 rfl
      have q590 := H587.out.cell 0 rfl 2 rfl
      have q591 := H587.out.cell 0 rfl 3 rfl
      refine bodyPost_ret (v := .tuple #[.agg #[.int .i64 0, .int .i64 0, .int .i64 0, .slice none 0 0], .int .i64 c354]) ?_ rfl (TPost.no (by unfold pwTC; rw [if_neg (fun hc => hc ⟨HNb351.out, fun e => by cases e⟩), if_pos (show vCode ls false ≠ 0 from by rw [HNc354.out]; have := c355h.out; omega), HNc354.out]) (by have := c355h.out; omega) (by first | exact H587.out.below | exact H587.out.below'))
      simp [results, Try.results46, go_sem, q588, q589, q590, q591]
  | false =>
    have z592 := H350.out.cell 0 rfl 0 rfl
    have z593 := H350.out.free 0 rfl 0
    have z594 := H350.out.cell 0 rfl 1 rfl
    have z595 := H350.out.free 0 rfl 1
    have z596 := H350.out.cell 0 rfl 2 rfl
    have z597 := H350.out.free 0 rfl 2
    have z598 := H350.out.cell 0 rfl 3 rfl
    have z599 := H350.out.free 0 rfl 3
    go_wp2_with fail
    clear z592 z593 z594 z595 z596 z597 z598 z599
    have H600 := hid (show St B W [.cells (B + 1 + 1 + 1) #[.int .i64 0, .int .i64 0, .int .i64 0, .slice none 0 0] 66, .cells (B + 1 + 1) #[.int .i64 r0, .int .i64 r1, .int .i64 r2, .int .i64 r3] 24, .cells (B + 1) #[.int .i64 qw, .int .i64 qh, .int .i64 qmx, .slice qa qn qc] 66, .cells B #[.int .i64 w, .int .i64 h, .int .i64 mx, .slice a n c] 66] [] ((((w349.setCell ⟨B + 1 + 1 + 1, 0, none⟩ (.int .i64 0)).setCell ⟨B + 1 + 1 + 1, 1, none⟩ (.int .i64 0)).setCell ⟨B + 1 + 1 + 1, 2, none⟩ (.int .i64 0)).setCell ⟨B + 1 + 1 + 1, 3, none⟩ (.slice none 0 0)) from (H350.out.set4 0 rfl (.int .i64 0) (.int .i64 0) (.int .i64 0) (.slice none 0 0)))
    have q601 := H600.out.cell 0 rfl 0 rfl
    have q602 := H600.out.cell 0 rfl 1 rfl
    have q603 := H600.out.cell 0 rfl 2 rfl
    have q604 := H600.out.cell 0 rfl 3 rfl
    refine bodyPost_ret (v := .tuple #[.agg #[.int .i64 0, .int .i64 0, .int .i64 0, .slice none 0 0], .int .i64 1]) ?_ rfl (TPost.no (by unfold pwTC; rw [if_pos (by intro hc; have h1 := hc.1; have h2 := hc.2; first | (rw [HNb351.out] at h1; cases h1) | (have h3 := h2 rfl; rw [HNb351.out] at h3; cases h3))]) (by omega) (by first | exact H600.out.below | exact H600.out.below'))
    simp [results, Try.results46, go_sem, q601, q602, q603, q604]
theorem ptile14 (w h mx : Int) (a : Option Addr) (n c : Nat) (zs : List Int) (qw qh qmx : Int) (qa : Option Addr) (qn qc : Nat) (qs : List Int) (two : Bool) (la : Option Addr) (lx lc : Nat) (ls : List (Int × Int)) (out r0 r1 r2 r3 : Int) (W : World) (hs : Slc W a n c zs) (hq : Slc W qa qn qc qs) (ho : Prs W la lx lc ls) :
    Calls Try.prog 46 #[.agg #[.int .i64 w, .int .i64 h, .int .i64 mx, .slice a n c], .agg #[.int .i64 qw, .int .i64 qh, .int .i64 qmx, .slice qa qn qc], .bool two, .slice la lx lc, .int .i64 out, .agg #[.int .i64 r0, .int .i64 r1, .int .i64 r2, .int .i64 r3]] W (TPost (pwTC w h mx zs qw qh qmx qs two ls out r0 r1 r2 r3) (r2 - r0) (r3 - r1) out (pwL w zs two qs ls out r0 r1 r2 r3) W) := by
  cases two with
  | true => exact ptile14_true w h mx a n c zs qw qh qmx qa qn qc qs la lx lc ls out r0 r1 r2 r3 W hs hq ho
  | false => exact ptile14_false w h mx a n c zs qw qh qmx qa qn qc qs la lx lc ls out r0 r1 r2 r3 W hs hq ho
end Go.Proofs.Ytnnpnljdefmmcaa
