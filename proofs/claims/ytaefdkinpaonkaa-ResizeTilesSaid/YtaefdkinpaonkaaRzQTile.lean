/-
  Contract: the tiles of resizes, in the reference.
-/
import Derived.Test.YtaefdkinpaonkaaRzPix
import Derived.Test.YtaefdkinpaonkaaRzChk
import Derived.Test.YtaefdkinpaonkaaKE
import Derived.Test.YtaefdkinpaonkaaKB
namespace Go.Proofs.Ytaefdkinpaonkaa
open Go.RowKit
attribute [local go_sem ↓] Go.wp_at_zero Go.wp_at_succ
set_option linter.unusedVariables false
set_option linter.unusedSimpArgs false

set_option maxRecDepth 100000 in
set_option maxHeartbeats 12800000 in
theorem rrztile_any (w h mx : Int) (a : Option Addr) (n c : Nat) (zs : List Int) (p f : Int) (xa : Option Addr) (xm xc : Nat) (xs : Tbl) (ya : Option Addr) (ym yc : Nat) (ys : Tbl) (shift shift2 out r0 r1 r2 r3 : Int) (W : World) (hs : Slc W a n c zs) (hx : Tps W xa xm xc xs) (hy : Tps W ya ym yc ys) :
    Calls Try.prog 20 #[.agg #[.int .i64 w, .int .i64 h, .int .i64 mx, .slice a n c], .agg #[.int .i64 p, .int .i64 f], .slice xa xm xc, .slice ya ym yc, .int .i64 shift, .int .i64 shift2, .int .i64 out, .agg #[.int .i64 r0, .int .i64 r1, .int .i64 r2, .int .i64 r3]] W (TPost (rzTC w h mx zs p f xs ys shift shift2 out r0 r1 r2 r3) (r2 - r0) (r3 - r1) out (rzL w h zs p f xs ys shift shift2 out r0 r1 r2 r3) W) := by
  obtain ⟨B, hB⟩ : ∃ B, W.heap.size = B := ⟨_, rfl⟩
  have HI0 := hid (St.init hB)
  have HS := hid hs
  have HX := hid hx
  have HY := hid hy
  have HLX := hid hx.len
  have HLY := hid hy.len
  have xmx : (xm : Int) ≤ 9223372036854775807 := by have := hx.nc; have := hx.cap; omega
  have ymx : (ym : Int) ≤ 9223372036854775807 := by have := hy.nc; have := hy.cap; omega
  clear hs hx hy
  go_enter Try.func20, Try.ntmps20
  go_upto_region 1 with fail
  have H1 := hid (show St B W [.cells (B + 1 + 1 + 1) #[.int .i64 0, .int .i64 0, .int .i64 0, .slice none 0 0] 40, .cells (B + 1 + 1) #[.int .i64 r0, .int .i64 r1, .int .i64 r2, .int .i64 r3] 38, .cells (B + 1) #[.int .i64 p, .int .i64 f] 43, .cells B #[.int .i64 w, .int .i64 h, .int .i64 mx, .slice a n c] 40] [] ((((W.alloc (.cells #[.int .i64 w, .int .i64 h, .int .i64 mx, .slice a n c] 40)).alloc (.cells #[.int .i64 p, .int .i64 f] 43)).alloc (.cells #[.int .i64 r0, .int .i64 r1, .int .i64 r2, .int .i64 r3] 38)).alloc (.cells #[.int .i64 0, .int .i64 0, .int .i64 0, .slice none 0 0] 40)) from ((((HI0.out.alloc #[.int .i64 w, .int .i64 h, .int .i64 mx, .slice a n c] 40 hB).alloc #[.int .i64 p, .int .i64 f] 43 (by first | exact hB | simp [hB])).alloc #[.int .i64 r0, .int .i64 r1, .int .i64 r2, .int .i64 r3] 38 (by first | exact hB | simp [hB])).alloc #[.int .i64 0, .int .i64 0, .int .i64 0, .slice none 0 0] 40 (by first | exact hB | simp [hB])))
  first | refine gen_code H1.out ?_ | refine gen_list H1.out ?_ | refine gen_calls H1.out ?_
  intro w2 hG
  clear H1
  have H1 := hid hG
  clear hG
  have z3 := H1.out.cell 3 rfl 0 rfl
  have z4 := H1.out.cell 3 rfl 1 rfl
  have z5 := H1.out.cell 3 rfl 2 rfl
  have z6 := H1.out.cell 3 rfl 3 rfl
  go_wp2_with fail
  clear z3 z4 z5 z6
  refine (qpvalid_any _ _ _ _ _ _ _ _ (by have := HS.out.nc; have := HS.out.cap; omega) (H1.out.old HS.out).row).mono ?_
  rintro e w7 ⟨rfl, hb⟩
  have H8 := hid (H1.out.call hb)
  clear hb
  obtain ⟨b9, hb9⟩ : ∃ xx', pValid w h mx zs = xx' := ⟨_, rfl⟩
  rw [hb9]
  have HNb9 := hid hb9
  clear hb9
  cases b9 with
  | true =>
    have z10 := H8.out.cell 2 rfl 0 rfl
    have z11 := H8.out.cell 2 rfl 1 rfl
    have z12 := H8.out.cell 3 rfl 0 rfl
    have z13 := H8.out.cell 3 rfl 1 rfl
    have z14 := H8.out.cell 3 rfl 2 rfl
    have z15 := H8.out.cell 3 rfl 3 rfl
    go_wp2_with fail
    clear z10 z11 z12 z13 z14 z15
    refine (rbvalid_any _ _ _ _).mono ?_
    rintro e w16 ⟨rfl, hb⟩
    have H17 := hid (H8.out.call hb)
    clear hb
    obtain ⟨b18, hb18⟩ : ∃ xx', bValid p f mx = xx' := ⟨_, rfl⟩
    rw [hb18]
    have HNb18 := hid hb18
    clear hb18
    cases b18 with
    | true =>
      have z19 := H17.out.cell 3 rfl 0 rfl
      have z20 := H17.out.cell 3 rfl 1 rfl
      have z21 := H17.out.cell 3 rfl 2 rfl
      have z22 := H17.out.cell 3 rfl 3 rfl
      go_wp2_with fail
      clear z19 z20 z21 z22
      refine (rrzcheck_any _ _ _ _ _ _ _ _ _ _ _ _ _ _ _ (H17.out.oldTps HX.out) (H17.out.oldTps HY.out)).mono ?_
      rintro e w23 ⟨rfl, hb⟩
      have H24 := hid (H17.out.call hb)
      clear hb
      obtain ⟨k25, hk25⟩ : ∃ xx', rzCode w h mx xs ys shift shift2 out = xx' := ⟨_, rfl⟩
      rw [hk25]
      have HNk25 := hid hk25
      clear hk25
      by_cases c26 : (k25 : Int) = 0
      · obtain ⟨c26c, c26d⟩ : (k25 : Int) ≤ 0 ∧ (0 : Int) ≤ k25 := by omega
        have c26a : ((k25 : Int) == (0)) = true := by simpa using c26
        have c26b : ((k25 : Int) != (0)) = false := by simpa using c26
        have c26h := hid c26
        clear c26
        have z27 := H24.out.cell 1 rfl 0 rfl
        have z28 := H24.out.cell 1 rfl 1 rfl
        have z29 := H24.out.cell 1 rfl 2 rfl
        have z30 := H24.out.cell 1 rfl 3 rfl
        go_wp2_with fail
        clear z27 z28 z29 z30
        refine (qfull_any _ _ _ _ _).mono ?_
        rintro e w31 ⟨rfl, hb⟩
        have H32 := hid (H24.out.call hb)
        clear hb
        obtain ⟨b33, hb33⟩ : ∃ xx', rFull r0 r1 r2 r3 = xx' := ⟨_, rfl⟩
        rw [hb33]
        have HNb33 := hid hb33
        clear hb33
        cases b33 with
        | true =>
          have z34 := H32.out.cell 1 rfl 0 rfl
          have z35 := H32.out.cell 1 rfl 1 rfl
          have z36 := H32.out.cell 1 rfl 2 rfl
          have z37 := H32.out.cell 1 rfl 3 rfl
          go_wp2_with fail
          clear z34 z35 z36 z37
          refine (qinside_any _ _ _ _ _ _ _ _ _).mono ?_
          rintro e w38 ⟨rfl, hb⟩
          have H39 := hid (H32.out.call hb)
          clear hb
          obtain ⟨b40, hb40⟩ : ∃ xx', rInside r0 r1 r2 r3 0 0 (xm : Int) (ym : Int) = xx' := ⟨_, rfl⟩
          rw [hb40]
          have HNb40 := hid hb40
          clear hb40
          cases b40 with
          | true =>
            have HCK := hid (show rzCode w h mx xs ys shift shift2 out = 0 from by rw [HNk25.out]; have := c26h.out; omega)
            have HV := hid HNb9.out
            have HB := hid HNb18.out
            obtain ⟨p1, p2, p3, p4, p5, p6, p7⟩ := pOk_iff.1 (pValid_iff.1 HNb9.out).1
            obtain ⟨tv1, tv2, tv3, sh1, sh2, sh3, sh4, _, _, o1, o2, _⟩ := rz_zero HCK.out
            obtain ⟨xl1, xl2, _, _⟩ := tv_pos tv1
            obtain ⟨yl1, yl2, _, _⟩ := tv_pos tv2
            rw [← HLX.out] at xl1 xl2 tv3
            rw [← HLY.out] at yl1 yl2 tv3
            have HTX := hid (fun (i : Nat) (hi : i < xm) => tvOne_zero (tv_all tv1 (j := i) (by rw [← HLX.out]; exact hi)))
            have HTY := hid (fun (i : Nat) (hi : i < ym) => tvOne_zero (tv_all tv2 (j := i) (by rw [← HLY.out]; exact hi)))
            clear tv1 tv2
            have HIN := hid (show rIs r0 r1 r2 r3 (xm : Int) (ym : Int) = true from by unfold rIs; rw [← fullInside, HNb33.out, HNb40.out]; rfl)
            obtain ⟨i1, i2, i3, i4, i5, i6⟩ := (rIs_iff (w := (xm : Int)) (h := (ym : Int)) (by omega) (by omega) (by omega) (by omega)).1 HIN.out
            have HTC := hid (show rzTC w h mx zs p f xs ys shift shift2 out r0 r1 r2 r3 = 0 from by unfold rzTC; rw [if_neg (fun hc => hc ⟨HV.out, HB.out⟩), if_neg (by rw [HCK.out]; simp), if_neg (by rw [← HLX.out, ← HLY.out, HIN.out]; simp)])
            obtain ⟨wd, hwd⟩ : ∃ m : Nat, r2 - r0 = m := ⟨(r2 - r0).toNat, by omega⟩
            obtain ⟨ht, hht⟩ : ∃ m : Nat, r3 - r1 = m := ⟨(r3 - r1).toNat, by omega⟩
            have HWD := hid hwd
            have HHT := hid hht
            obtain ⟨wd1, wd2, ht1, ht2⟩ : (wd : Int) ≤ r2 - r0 ∧ r2 - r0 ≤ wd ∧ (ht : Int) ≤ r3 - r1 ∧ r3 - r1 ≤ ht := by omega
            have pq0 := Int.mul_nonneg (a := r2 - r0) (b := r3 - r1) (by omega) (by omega)
            have pq1 := Int.mul_le_mul (a := r2 - r0) (c := (xm : Int)) (b := r3 - r1) (d := (ym : Int)) (by omega) (by omega) (by omega) (by omega)
            obtain ⟨NN, hNN⟩ : ∃ N : Nat, (r2 - r0) * (r3 - r1) = N := ⟨((r2 - r0) * (r3 - r1)).toNat, by omega⟩
            rw [hNN] at pq0 pq1
            have HNN := hid (show ht * wd = NN from by have := hNN; rw [hwd, hht, ← Int.natCast_mul, Nat.mul_comm] at this; omega)
            have nn9 : (NN : Int) ≤ 4096 := by omega
            clear hwd hht pq1 tv3
            obtain ⟨F, hF⟩ : ∃ F : Nat → Nat → Int, (fun (k j : Nat) => rzP w h zs p f xs ys shift shift2 out (r0 + (j : Int)) (r1 + (k : Int))) = F := ⟨_, rfl⟩
            have HFV := hid (show ∀ k j : Nat, rzP w h zs p f xs ys shift shift2 out (r0 + (j : Int)) (r1 + (k : Int)) = F k j from fun k j => by rw [← hF])
            have HFF := hid hF
            clear hF
            have hnn2 : IntKind.i64.wrap (NN : Int) = NN := IntWalk.i64_in _ (by omega)
            have hNP : pOk (r2 - r0) (r3 - r1) out = true := pOk_iff.2 ⟨by omega, by omega, by omega, by omega, by rw [hNN]; omega, o1, o2⟩
            have HNP := hid hNP
            have HNI := hid (show ∀ x, nIf (r2 - r0) (r3 - r1) out x = x from fun x => by unfold nIf; rw [if_pos hNP])
            have HNL := hid (show nList (r2 - r0) (r3 - r1) out = List.replicate NN 0 from by unfold nList; rw [if_pos hNP, hNN]; rfl)
            clear hNP hNN hnn2
            have z41 := H39.out.cell 1 rfl 0 rfl
            have z42 := H39.out.cell 1 rfl 1 rfl
            have z43 := H39.out.cell 1 rfl 2 rfl
            have z44 := H39.out.cell 1 rfl 3 rfl
            go_wp2_with fail
            clear z41 z42 z43 z44
            refine (qnew_any _ _ _ _).mono ?_
            rintro e w45 ⟨v46, rfl, ho, hb⟩
            have H47 := hid (H39.out.grow hb ho)
            obtain ⟨v46a, v46c, rfl, _⟩ := ho.slc
            clear ho hb
            have hnl := HNL.out
            rw [hnl] at H47 ⊢
            simp only [List.length_replicate] at H47 ⊢
            rw [HNI.out, HNI.out, HNI.out, HNP.out]
            clear hnl
            obtain ⟨g0, g1, hg0⟩ := (H47.out.own 0 rfl).pos (by rw [List.length_replicate]; have h1 := HNN.out; have h2 := Nat.mul_le_mul (show 1 ≤ ht by omega) (show 1 ≤ wd by omega); omega)
            simp only [List.length_replicate] at hg0
            injection hg0 with e1 e2 e3
            subst e1
            clear e2 e3
            obtain ⟨D48, hD48⟩ : ∃ D, w45.heap.size = D := ⟨_, rfl⟩
            go_upto_region 9 with fail
            have H49 := hid (show St B W [.cells D48 #[.int .i64 (r2 - r0), .int .i64 (r3 - r1), .int .i64 out, .slice (some ⟨g0, 0, none⟩) NN v46c] 40, .own (.slice (some ⟨g0, 0, none⟩) NN v46c) (List.replicate NN 0), .cells (B + 1 + 1 + 1) #[.int .i64 0, .int .i64 0, .int .i64 0, .slice none 0 0] 40, .cells (B + 1 + 1) #[.int .i64 r0, .int .i64 r1, .int .i64 r2, .int .i64 r3] 38, .cells (B + 1) #[.int .i64 p, .int .i64 f] 43, .cells B #[.int .i64 w, .int .i64 h, .int .i64 mx, .slice a n c] 40] [] (w45.alloc (.cells #[.int .i64 (r2 - r0), .int .i64 (r3 - r1), .int .i64 out, .slice (some ⟨g0, 0, none⟩) NN v46c] 40)) from (H47.out.alloc #[.int .i64 (r2 - r0), .int .i64 (r3 - r1), .int .i64 out, .slice (some ⟨g0, 0, none⟩) NN v46c] 40 hD48))
            first | refine gen_code H49.out ?_ | refine gen_list H49.out ?_ | refine gen_calls H49.out ?_
            intro w50 hG
            clear H49
            have H49 := hid hG
            clear hG
            clear hD48
            obtain ⟨xb, xo, hxa⟩ := HX.out.at (by omega)
            subst hxa
            obtain ⟨yb, yo, hya⟩ := HY.out.at (by omega)
            subst hya
            have z51 := H49.out.cell 3 rfl 0 rfl
            have z52 := H49.out.cell 3 rfl 1 rfl
            have z53 := H49.out.cell 3 rfl 2 rfl
            have z54 := H49.out.cell 3 rfl 3 rfl
            go_wp2_with fail
            clear z51 z52 z53 z54
            obtain ⟨R1, hR1⟩ : ∃ m : Nat, r1 = m := ⟨r1.toNat, by omega⟩
            obtain ⟨R0, hR0⟩ : ∃ m : Nat, r0 = m := ⟨r0.toNat, by omega⟩
            have HR1 := hid hR1
            have HR0 := hid hR0
            obtain ⟨ra1, ra2, ra3, ra4⟩ : (R1 : Int) ≤ r1 ∧ r1 ≤ R1 ∧ (R0 : Int) ≤ r0 ∧ r0 ≤ R0 := by omega
            clear hR1 hR0
            go_loopw [21] (fun i wr => ∃ (V k : Nat), k ≤ ht ∧ (V : Int) ≤ r1 + k ∧ r1 + k ≤ V ∧ i = .int .i64 V ∧ St B W [.own (.slice (some ⟨g0, 0, none⟩) NN v46c) (fillL F wd k 0 NN), .cells D48 #[.int .i64 (r2 - r0), .int .i64 (r3 - r1), .int .i64 out, .slice (some ⟨g0, 0, none⟩) NN v46c] 40, .cells (B + 1 + 1 + 1) #[.int .i64 0, .int .i64 0, .int .i64 0, .slice none 0 0] 40, .cells (B + 1 + 1) #[.int .i64 r0, .int .i64 r1, .int .i64 r2, .int .i64 r3] 38, .cells (B + 1) #[.int .i64 p, .int .i64 f] 43, .cells B #[.int .i64 w, .int .i64 h, .int .i64 mx, .slice a n c] 40] [] wr) (fun i _ => (r3 - intOf i).toNat)
            case atStart => exact ⟨R1, 0, by omega, by omega, by omega, by rw [HR1.out], by rw [fillL_zero]; exact H49.out.pick [1, 0, 2, 3, 4, 5] rfl (by decide)⟩
            case round =>
              obtain ⟨V, k, hk, hy1, hy2, rfl, hst⟩ := hrel
              obtain ⟨u55, rfl⟩ : ∃ u55 : World, u55 = wr := ⟨_, rfl⟩
              have H56 := hid hst
              clear hst
              by_cases hkn : k < ht
              · skip
                have hkn' : (V : Int) < r3 := by omega
                have hyx : V < ym := by omega
                have hyx' : (V : Int) < ym := by omega
                obtain ⟨yta, ytn, ytc, e1, e2, e3⟩ := HY.out.row (i := V) hyx
                have ht1 := HTY.out V hyx
                obtain ⟨p9, hp⟩ : ∃ p9, ys.getD V (0, []) = p9 := ⟨_, rfl⟩
                obtain ⟨yk, us⟩ := p9
                rw [hp] at e1 e3 ht1
                simp only at e1 e3 ht1
                have hl1 := e3.len
                rw [hl1] at ht1
                obtain ⟨yt1, yt2, yw1, yk1, yk2⟩ := ht1
                obtain ⟨ywb, ywo, hyta⟩ := row_at e3.row (by omega)
                subst hyta
                have HE1y := hid e1
                have HE2y := hid e2
                have HSLy := hid e3
                have HWLy := hid hl1
                have HWAy := hid yw1
                have ytnm : (ytn : Int) ≤ 8 := by omega
                have HPy := hid hp
                clear e1 e2 e3 hp hl1 yw1
                have z57 := H56.out.cell 3 rfl 0 rfl
                have z58 := H56.out.cell 3 rfl 1 rfl
                have z59 := H56.out.cell 3 rfl 2 rfl
                have z60 := H56.out.cell 3 rfl 3 rfl
                go_wp2_with fail
                clear z57 z58 z59 z60
                go_loopw [22] (fun i wr => ∃ (U j : Nat), j ≤ wd ∧ (U : Int) ≤ r0 + j ∧ r0 + j ≤ U ∧ i = .int .i64 U ∧ St B W [.own (.slice (some ⟨g0, 0, none⟩) NN v46c) (fillL F wd k j NN), .cells D48 #[.int .i64 (r2 - r0), .int .i64 (r3 - r1), .int .i64 out, .slice (some ⟨g0, 0, none⟩) NN v46c] 40, .cells (B + 1 + 1 + 1) #[.int .i64 0, .int .i64 0, .int .i64 0, .slice none 0 0] 40, .cells (B + 1 + 1) #[.int .i64 r0, .int .i64 r1, .int .i64 r2, .int .i64 r3] 38, .cells (B + 1) #[.int .i64 p, .int .i64 f] 43, .cells B #[.int .i64 w, .int .i64 h, .int .i64 mx, .slice a n c] 40] [] wr) (fun i _ => (r2 - intOf i).toNat)
                case atStart => exact ⟨R0, 0, by omega, by omega, by omega, by rw [HR0.out], H56.out⟩
                case round =>
                  obtain ⟨U, j, hj, hx1, hx2, rfl, hst⟩ := hrel
                  obtain ⟨u61, rfl⟩ : ∃ u61 : World, u61 = wr := ⟨_, rfl⟩
                  have H62 := hid hst
                  clear hst
                  by_cases hjn : j < wd
                  · skip
                    have hjn' : (U : Int) < r2 := by omega
                    have hxx : U < xm := by omega
                    have hxx' : (U : Int) < xm := by omega
                    obtain ⟨xta, xtn, xtc, e1, e2, e3⟩ := HX.out.row (i := U) hxx
                    have ht1 := HTX.out U hxx
                    obtain ⟨p9, hp⟩ : ∃ p9, xs.getD U (0, []) = p9 := ⟨_, rfl⟩
                    obtain ⟨xk, ws⟩ := p9
                    rw [hp] at e1 e3 ht1
                    simp only at e1 e3 ht1
                    have hl1 := e3.len
                    rw [hl1] at ht1
                    obtain ⟨xt1, xt2, xw1, xk1, xk2⟩ := ht1
                    obtain ⟨xwb, xwo, hxta⟩ := row_at e3.row (by omega)
                    subst hxta
                    have HE1x := hid e1
                    have HE2x := hid e2
                    have HSLx := hid e3
                    have HWLx := hid hl1
                    have HWAx := hid xw1
                    have xtnm : (xtn : Int) ≤ 8 := by omega
                    have HPx := hid hp
                    clear e1 e2 e3 hp hl1 xw1
                    have z63 := H62.out.cell 3 rfl 0 rfl
                    have z64 := H62.out.cell 3 rfl 1 rfl
                    have z65 := H62.out.cell 3 rfl 2 rfl
                    have z66 := H62.out.cell 3 rfl 3 rfl
                    go_wp2_with fail
                    clear z63 z64 z65 z66
                    go_loopw [24, 23] (fun i s wr => ∃ m : Nat, m ≤ ytn ∧ i = .int .i64 m ∧ s = .int .i64 (rzS w h zs p f (xk, ws) (yk, us) shift m) ∧ St B W [.own (.slice (some ⟨g0, 0, none⟩) NN v46c) (fillL F wd k j NN), .cells D48 #[.int .i64 (r2 - r0), .int .i64 (r3 - r1), .int .i64 out, .slice (some ⟨g0, 0, none⟩) NN v46c] 40, .cells (B + 1 + 1 + 1) #[.int .i64 0, .int .i64 0, .int .i64 0, .slice none 0 0] 40, .cells (B + 1 + 1) #[.int .i64 r0, .int .i64 r1, .int .i64 r2, .int .i64 r3] 38, .cells (B + 1) #[.int .i64 p, .int .i64 f] 43, .cells B #[.int .i64 w, .int .i64 h, .int .i64 mx, .slice a n c] 40] [] wr) (fun i _ _ => ytn - (intOf i).toNat)
                    case atStart => exact ⟨0, by omega, rfl, rfl, H62.out⟩
                    case round =>
                      obtain ⟨m, hm, rfl, rfl, hst⟩ := hrel
                      obtain ⟨u67, rfl⟩ : ∃ u67 : World, u67 = wr := ⟨_, rfl⟩
                      have H68 := hid hst
                      clear hst
                      obtain ⟨S2a, S2b⟩ := rzS_bd w h zs p f (xk, ws) (ty := (yk, us)) HWAy.out shift (n := m) (show m ≤ us.length by rw [HWLy.out]; exact hm) (show us.length ≤ 8 by rw [HWLy.out]; exact yt2)
                      have hsn := rzS_bd w h zs p f (xk, ws) (ty := (yk, us)) HWAy.out shift (n := m + 1)
                      obtain ⟨S2, hS2⟩ : ∃ xx', rzS w h zs p f (xk, ws) (yk, us) shift m = xx' := ⟨_, rfl⟩
                      rw [hS2] at S2a S2b ⊢
                      have HS2 := hid hS2
                      have HSB := hid hsn
                      clear hS2 hsn
                      have f2y := H68.out.oldCell HE2y.out
                      by_cases hmn : m < ytn
                      · skip
                        have hmn' : (m : Int) < ytn := by omega
                        go_upto_region 19 with fail
                        clear f2y
                        obtain ⟨wz, hwz⟩ : ∃ xx', us.getD m 0 = xx' := ⟨_, rfl⟩
                        have hzw := hid (show -32767 ≤ wz ∧ wz ≤ 32767 from by rw [← hwz]; exact wAll_iff.1 HWAy.out _ (by have := HWLy.out; omega))
                        have HWZ := hid hwz
                        clear hwz
                        have wa3 : IntKind.i64.wrap (yk + (m : Int)) = yk + m := IntWalk.i64_in _ (by omega)
                        go_upto_region 19 with fail
                        have H69 := hid H68.out.drew
                        refine wp_region_held_drew (S := (fun w' => w'.cell? ⟨B, 0, none⟩ = some (.int .i64 w) ∧ w'.cell? ⟨B, 1, none⟩ = some (.int .i64 h) ∧ w'.cell? ⟨B, 2, none⟩ = some (.int .i64 mx) ∧ w'.cell? ⟨B, 3, none⟩ = some (.slice a n c) ∧ w'.cell? ⟨B + 1, 0, none⟩ = some (.int .i64 p) ∧ w'.cell? ⟨B + 1, 1, none⟩ = some (.int .i64 f) ∧ w'.cell? ⟨xb, xo + U * 2, none⟩ = some (.int .i64 xk) ∧ w'.cell? ⟨xb, xo + U * 2 + 1, none⟩ = some (.slice (some ⟨xwb, xwo, none⟩) xtn xtc) ∧ w'.cell? ⟨yb, yo + V * 2, none⟩ = some (.int .i64 yk) ∧ w'.cell? ⟨yb, yo + V * 2 + 1, none⟩ = some (.slice (some ⟨ywb, ywo, none⟩) ytn ytc) ∧ w'.cell? ⟨ywb, ywo + m, none⟩ = some (.int .i64 wz))) (by kernel_rfl) ⟨H69.out.cell 5 rfl 0 rfl, H69.out.cell 5 rfl 1 rfl, H69.out.cell 5 rfl 2 rfl, H69.out.cell 5 rfl 3 rfl, H69.out.cell 4 rfl 0 rfl, H69.out.cell 4 rfl 1 rfl, (H69.out.oldCell HE1x.out), (H69.out.oldCell HE2x.out), (H69.out.oldCell HE1y.out), (H69.out.oldCell HE2y.out), (by have := row_cell (H69.out.old HSLy.out).row (j := m) hmn; rw [HWZ.out] at this; exact this)⟩ (fun hHeld => ?_)
                        generalize u67.drew = k70 at *
                        refine wpAnyH_take (i := 0) (oi := _) (v := ?_) rfl (by kernel_rfl) (by kernel_rfl) (by kernel_rfl) (fun _ _ _ h => h) (Or.inl ⟨by rfl, ?_⟩) (by assumption) ?_
                        rotate_left
                        focus (intro wS hSw; (try dsimp only at hSw); go_simp; (try with_reducible rfl))
                        try simp only [Act.put, List.getElem_toArray, List.getElem_cons_zero, List.getElem_cons_succ, List.setIfInBounds_toArray, List.set_cons_zero, List.set_cons_succ]
                        refine wpAnyH_take (i := 1) (oi := _) (v := ?_) rfl (by kernel_rfl) (by kernel_rfl) (by kernel_rfl) (fun _ _ _ h => h) (Or.inl ⟨by rfl, ?_⟩) (by assumption) ?_
                        rotate_left
                        focus (intro wS hSw; (try dsimp only at hSw); go_simp; (try with_reducible rfl))
                        try simp only [Act.put, List.getElem_toArray, List.getElem_cons_zero, List.getElem_cons_succ, List.setIfInBounds_toArray, List.set_cons_zero, List.set_cons_succ]
                        refine wpAnyH_take (i := 2) (oi := _) (v := ?_) rfl (by kernel_rfl) (by kernel_rfl) (by kernel_rfl) (fun _ _ _ h => h) (Or.inl ⟨by rfl, ?_⟩) (by assumption) ?_
                        rotate_left
                        focus (intro wS hSw; (try dsimp only at hSw); go_simp; (try with_reducible rfl))
                        try simp only [Act.put, List.getElem_toArray, List.getElem_cons_zero, List.getElem_cons_succ, List.setIfInBounds_toArray, List.set_cons_zero, List.set_cons_succ]
                        refine wpAnyH_take (i := 3) (oi := _) (v := ?_) rfl (by kernel_rfl) (by kernel_rfl) (by kernel_rfl) (fun _ _ _ h => h) (Or.inl ⟨by rfl, ?_⟩) (by assumption) ?_
                        rotate_left
                        focus (intro wS hSw; (try dsimp only at hSw); go_simp; (try with_reducible rfl))
                        try simp only [Act.put, List.getElem_toArray, List.getElem_cons_zero, List.getElem_cons_succ, List.setIfInBounds_toArray, List.set_cons_zero, List.set_cons_succ]
                        refine wpAnyH_take (i := 4) (oi := _) (v := ?_) rfl (by kernel_rfl) (by kernel_rfl) (by kernel_rfl) (fun _ _ _ h => h) (Or.inl ⟨by rfl, ?_⟩) (by assumption) ?_
                        rotate_left
                        focus (intro wS hSw; (try dsimp only at hSw); go_simp; (try with_reducible rfl))
                        try simp only [Act.put, List.getElem_toArray, List.getElem_cons_zero, List.getElem_cons_succ, List.setIfInBounds_toArray, List.set_cons_zero, List.set_cons_succ]
                        refine wpAnyH_take (i := 5) (oi := _) (v := ?_) rfl (by kernel_rfl) (by kernel_rfl) (by kernel_rfl) (fun _ _ _ h => h) (Or.inl ⟨by rfl, ?_⟩) (by assumption) ?_
                        rotate_left
                        focus (intro wS hSw; (try dsimp only at hSw); go_simp; (try with_reducible rfl))
                        try simp only [Act.put, List.getElem_toArray, List.getElem_cons_zero, List.getElem_cons_succ, List.setIfInBounds_toArray, List.set_cons_zero, List.set_cons_succ]
                        refine wpAnyH_take (i := 6) (oi := _) (v := ?_) rfl (by kernel_rfl) (by kernel_rfl) (by kernel_rfl) (fun _ _ _ h => h) (Or.inl ⟨by rfl, ?_⟩) (by assumption) ?_
                        rotate_left
                        focus (intro wS hSw; (try dsimp only at hSw); go_simp; (try with_reducible rfl))
                        try simp only [Act.put, List.getElem_toArray, List.getElem_cons_zero, List.getElem_cons_succ, List.setIfInBounds_toArray, List.set_cons_zero, List.set_cons_succ]
                        refine wpAnyH_take (i := 7) (oi := _) (v := ?_) rfl (by kernel_rfl) (by kernel_rfl) (by kernel_rfl) (fun _ _ _ h => h) (Or.inl ⟨by rfl, ?_⟩) (by assumption) ?_
                        rotate_left
                        focus (intro wS hSw; (try dsimp only at hSw); go_simp; (try with_reducible rfl))
                        try simp only [Act.put, List.getElem_toArray, List.getElem_cons_zero, List.getElem_cons_succ, List.setIfInBounds_toArray, List.set_cons_zero, List.set_cons_succ]
                        refine wpAnyH_take (i := 8) (oi := _) (v := ?_) rfl (by kernel_rfl) (by kernel_rfl) (by kernel_rfl) (fun _ _ _ h => h) (Or.inl ⟨by rfl, ?_⟩) (by assumption) ?_
                        rotate_left
                        focus (intro wS hSw; (try dsimp only at hSw); go_simp; (try with_reducible rfl))
                        try simp only [Act.put, List.getElem_toArray, List.getElem_cons_zero, List.getElem_cons_succ, List.setIfInBounds_toArray, List.set_cons_zero, List.set_cons_succ]
                        refine wpAnyH_take (i := 9) (oi := _) (v := ?_) rfl (by kernel_rfl) (by kernel_rfl) (by kernel_rfl) (fun _ _ _ h => h) (Or.inl ⟨by rfl, ?_⟩) (by assumption) ?_
                        rotate_left
                        focus (intro wS hSw; (try dsimp only at hSw); go_simp; (try with_reducible rfl))
                        try simp only [Act.put, List.getElem_toArray, List.getElem_cons_zero, List.getElem_cons_succ, List.setIfInBounds_toArray, List.set_cons_zero, List.set_cons_succ]
                        refine wpAnyH_take (i := 10) (oi := _) (v := ?_) rfl (by kernel_rfl) (by kernel_rfl) (by kernel_rfl) (fun _ _ _ h => h) (Or.inl ⟨by rfl, ?_⟩) (by assumption) ?_
                        rotate_left
                        focus (intro wS hSw; (try dsimp only at hSw); go_simp; (try with_reducible rfl))
                        try simp only [Act.put, List.getElem_toArray, List.getElem_cons_zero, List.getElem_cons_succ, List.setIfInBounds_toArray, List.set_cons_zero, List.set_cons_succ]
                        refine wpAnyH_take (i := 11) (oi := _) (v := ?_) rfl (by kernel_rfl) (by kernel_rfl) (by kernel_rfl) (fun _ _ _ h => h) (Or.inl ⟨by rfl, ?_⟩) (by assumption) ?_
                        rotate_left
                        focus (intro wS hSw; (try dsimp only at hSw); go_simp; (try with_reducible rfl))
                        try simp only [Act.put, List.getElem_toArray, List.getElem_cons_zero, List.getElem_cons_succ, List.setIfInBounds_toArray, List.set_cons_zero, List.set_cons_succ]
                        refine wpAnyH_take (i := 12) (oi := _) (v := ?_) rfl (by kernel_rfl) (by kernel_rfl) (by kernel_rfl) (fun _ _ _ h => h) (Or.inl ⟨by rfl, ?_⟩) (by assumption) ?_
                        rotate_left
                        focus (intro wS hSw; (try dsimp only at hSw); go_simp; (try with_reducible rfl))
                        try simp only [Act.put, List.getElem_toArray, List.getElem_cons_zero, List.getElem_cons_succ, List.setIfInBounds_toArray, List.set_cons_zero, List.set_cons_succ]
                        refine wpAnyH_take (i := 13) (oi := _) (v := ?_) rfl (by kernel_rfl) (by kernel_rfl) (by kernel_rfl) (fun _ _ _ h => h) (Or.inl ⟨by rfl, ?_⟩) (by assumption) ?_
                        rotate_left
                        focus (intro wS hSw; (try dsimp only at hSw); go_simp; (try with_reducible rfl))
                        try simp only [Act.put, List.getElem_toArray, List.getElem_cons_zero, List.getElem_cons_succ, List.setIfInBounds_toArray, List.set_cons_zero, List.set_cons_succ]
                        refine wpAnyH_take (i := 14) (oi := _) (v := ?_) rfl (by kernel_rfl) (by kernel_rfl) (by kernel_rfl) (fun _ _ _ h => h) (Or.inl ⟨by rfl, ?_⟩) (by assumption) ?_
                        rotate_left
                        focus (intro wS hSw; (try dsimp only at hSw); go_simp; (try with_reducible rfl))
                        try simp only [Act.put, List.getElem_toArray, List.getElem_cons_zero, List.getElem_cons_succ, List.setIfInBounds_toArray, List.set_cons_zero, List.set_cons_succ]
                        refine wpAnyH_take (i := 15) (oi := _) (v := ?_) rfl (by kernel_rfl) (by kernel_rfl) (by kernel_rfl) (fun _ _ _ h => h) (Or.inl ⟨by rfl, ?_⟩) (by assumption) ?_
                        rotate_left
                        focus (intro wS hSw; (try dsimp only at hSw); go_simp; (try with_reducible rfl))
                        try simp only [Act.put, List.getElem_toArray, List.getElem_cons_zero, List.getElem_cons_succ, List.setIfInBounds_toArray, List.set_cons_zero, List.set_cons_succ]
                        refine wpAnyH_take (i := 16) (oi := _) (v := ?_) rfl (by kernel_rfl) (by kernel_rfl) (by kernel_rfl) (fun _ _ _ h => h) (Or.inl ⟨by rfl, ?_⟩) (by assumption) ?_
                        rotate_left
                        focus (intro wS hSw; (try dsimp only at hSw); go_simp; (try with_reducible rfl))
                        try simp only [Act.put, List.getElem_toArray, List.getElem_cons_zero, List.getElem_cons_succ, List.setIfInBounds_toArray, List.set_cons_zero, List.set_cons_succ]
                        refine wpAnyH_take (i := 17) (oi := _) (v := ?_) rfl (by kernel_rfl) (by kernel_rfl) (by kernel_rfl) (fun _ _ _ h => h) (Or.inl ⟨by rfl, ?_⟩) (by assumption) ?_
                        rotate_left
                        focus (intro wS hSw; (try dsimp only at hSw); go_simp; (try with_reducible rfl))
                        try simp only [Act.put, List.getElem_toArray, List.getElem_cons_zero, List.getElem_cons_succ, List.setIfInBounds_toArray, List.set_cons_zero, List.set_cons_succ]
                        refine wpAnyH_take (i := 18) (oi := _) (v := ?_) rfl (by kernel_rfl) (by kernel_rfl) (by kernel_rfl) (fun _ _ _ h => h) (Or.inl ⟨by rfl, ?_⟩) (by assumption) ?_
                        rotate_left
                        focus (intro wS hSw; (try dsimp only at hSw); go_simp; (try with_reducible rfl))
                        try simp only [Act.put, List.getElem_toArray, List.getElem_cons_zero, List.getElem_cons_succ, List.setIfInBounds_toArray, List.set_cons_zero, List.set_cons_succ]
                        refine wpAnyH_take (i := 19) (oi := _) (v := ?_) rfl (by kernel_rfl) (by kernel_rfl) (by kernel_rfl) (fun _ _ _ h => h) (Or.inl ⟨by rfl, ?_⟩) (by assumption) ?_
                        rotate_left
                        focus (intro wS hSw; (try dsimp only at hSw); go_simp; (try with_reducible rfl))
                        try simp only [Act.put, List.getElem_toArray, List.getElem_cons_zero, List.getElem_cons_succ, List.setIfInBounds_toArray, List.set_cons_zero, List.set_cons_succ]
                        refine wpAnyH_take (i := 20) (oi := _) (v := ?_) rfl (by kernel_rfl) (by kernel_rfl) (by kernel_rfl) (fun _ _ _ h => h) (Or.inl ⟨by rfl, ?_⟩) (by assumption) ?_
                        rotate_left
                        focus (intro wS hSw; (try dsimp only at hSw); go_simp; (try with_reducible rfl))
                        try simp only [Act.put, List.getElem_toArray, List.getElem_cons_zero, List.getElem_cons_succ, List.setIfInBounds_toArray, List.set_cons_zero, List.set_cons_succ]
                        refine wpAnyH_take (i := 21) (oi := _) (v := ?_) rfl (by kernel_rfl) (by kernel_rfl) (by kernel_rfl) (fun _ _ _ h => h) (Or.inl ⟨by rfl, ?_⟩) (by assumption) ?_
                        rotate_left
                        focus (intro wS hSw; (try dsimp only at hSw); go_simp; (try with_reducible rfl))
                        try simp only [Act.put, List.getElem_toArray, List.getElem_cons_zero, List.getElem_cons_succ, List.setIfInBounds_toArray, List.set_cons_zero, List.set_cons_succ]
                        refine wpAnyH_take (i := 22) (oi := _) (v := ?_) rfl (by kernel_rfl) (by kernel_rfl) (by kernel_rfl) (fun _ _ _ h => h) (Or.inl ⟨by rfl, ?_⟩) (by assumption) ?_
                        rotate_left
                        focus (intro wS hSw; (try dsimp only at hSw); go_simp; (try with_reducible rfl))
                        try simp only [Act.put, List.getElem_toArray, List.getElem_cons_zero, List.getElem_cons_succ, List.setIfInBounds_toArray, List.set_cons_zero, List.set_cons_succ]
                        refine wpAnyH_ready (rs := [23]) (by kernel_rfl) (by simp) (AllReadyH.cons (o := _) rfl (fun K hK => ?_) AllReadyH.nil)
                        go_simp
                        go_at_call 51
                        refine (rrzmid_any _ _ _ _ _ _ _ _ _ _ _ _ _ ws _ _ _ (H69.out.old HS.out) (H69.out.old HSLx.out) HV.out HB.out ⟨by omega, by omega⟩ HWAx.out (by omega)).mono ?_
                        rintro e w71 ⟨rfl, hb⟩
                        have H72 := hid (H69.out.call hb)
                        clear hb
                        obtain ⟨mv73, hmv73⟩ : ∃ xx', rzM w h zs p f (xk, ws) shift (yk + m) = xx' := ⟨_, rfl⟩
                        rw [hmv73]
                        have HNmv73 := hid hmv73
                        clear hmv73
                        obtain ⟨pz1, pz2⟩ : -17592186044416 ≤ mv73 ∧ mv73 ≤ 17592186044416 := by rw [← HNmv73.out]; exact shV_bd _ _
                        obtain ⟨pr1, pr2⟩ := spT_bd hzw.out ⟨pz1, pz2⟩
                        have HSN0 := hid (show rzS w h zs p f (xk, ws) (yk, us) shift (m + 1) = S2 + wz * mv73 from by rw [← HS2.out]; show rzS w h zs p f (xk, ws) (yk, us) shift m + us.getD m 0 * rzM w h zs p f (xk, ws) shift (yk + (m : Int)) = _; rw [HWZ.out, HNmv73.out])
                        obtain ⟨PR, hPR⟩ : ∃ xx', wz * mv73 = xx' := ⟨_, rfl⟩
                        rw [hPR] at pr1 pr2 HSN0
                        have hsb := HSB.out (show m + 1 ≤ us.length by rw [HWLy.out]; omega) (show us.length ≤ 8 by rw [HWLy.out]; exact yt2)
                        rw [HSN0.out] at hsb
                        have w8 : IntKind.i64.wrap PR = PR := IntWalk.i64_in _ (by omega)
                        have w9 : IntKind.i64.wrap (S2 + PR) = S2 + PR := IntWalk.i64_in _ (by omega)
                        clear hsb
                        refine hK.out _ _ ?_ (fun hHeld2 => ?_)
                        focus ((try dsimp only); (exact ⟨H72.out.cell 5 rfl 0 rfl, H72.out.cell 5 rfl 1 rfl, H72.out.cell 5 rfl 2 rfl, H72.out.cell 5 rfl 3 rfl, H72.out.cell 4 rfl 0 rfl, H72.out.cell 4 rfl 1 rfl, (H72.out.oldCell HE1x.out), (H72.out.oldCell HE2x.out), (H72.out.oldCell HE1y.out), (H72.out.oldCell HE2y.out), (by have := row_cell (H72.out.old HSLy.out).row (j := m) hmn; rw [HWZ.out] at this; exact this)⟩))
                        clear hK K
                        try simp only [Act.put, List.getElem_toArray, List.getElem_cons_zero, List.getElem_cons_succ, List.setIfInBounds_toArray, List.set_cons_zero, List.set_cons_succ]
                        clear hHeld
                        have hHeld := hHeld2
                        clear hHeld2
                        refine wpAnyH_take (i := 24) (oi := _) (v := ?_) rfl (by kernel_rfl) (by kernel_rfl) (by kernel_rfl) (fun _ _ _ h => h) (Or.inl ⟨by rfl, ?_⟩) (by assumption) ?_
                        rotate_left
                        focus (intro wS hSw; (try dsimp only at hSw); go_simp; (try with_reducible rfl))
                        try simp only [Act.put, List.getElem_toArray, List.getElem_cons_zero, List.getElem_cons_succ, List.setIfInBounds_toArray, List.set_cons_zero, List.set_cons_succ]
                        refine wpAnyH_take (i := 25) (oi := _) (v := ?_) rfl (by kernel_rfl) (by kernel_rfl) (by kernel_rfl) (fun _ _ _ h => h) (Or.inl ⟨by rfl, ?_⟩) (by assumption) ?_
                        rotate_left
                        focus (intro wS hSw; (try dsimp only at hSw); go_simp; (try with_reducible rfl))
                        try simp only [Act.put, List.getElem_toArray, List.getElem_cons_zero, List.getElem_cons_succ, List.setIfInBounds_toArray, List.set_cons_zero, List.set_cons_succ]
                        refine wpAnyH_take (i := 26) (oi := _) (v := ?_) rfl (by kernel_rfl) (by kernel_rfl) (by kernel_rfl) (fun _ _ _ h => h) (Or.inl ⟨by rfl, ?_⟩) (by assumption) ?_
                        rotate_left
                        focus (intro wS hSw; (try dsimp only at hSw); go_simp; (try with_reducible rfl))
                        try simp only [Act.put, List.getElem_toArray, List.getElem_cons_zero, List.getElem_cons_succ, List.setIfInBounds_toArray, List.set_cons_zero, List.set_cons_succ]
                        refine wpAnyH_done (by kernel_rfl) ?_ _
                        try clear hHeld
                        clear w8 w9 wa3
                        go_wp2_with fail
                        go_roundw
                        case rel => exact ⟨m + 1, by omega, by go_num, by rw [HSN0.out], H72.out⟩
                        case measure => first | (simp [intOf]; omega) | (simp [intOf]; done)
                      · skip
                        have hmn' : ¬ ((m : Int) < ytn) := by omega
                        have Hhmn := hid (show m = ytn by omega)
                        go_upto_region 20 with fail
                        try clear f2y
                        have HFX := hid (show clV (shV S2 shift2) out = F k j from by rw [← HFV.out]; unfold rzP; rw [show (r0 + (j : Int)).toNat = U by omega, show (r1 + (k : Int)).toNat = V by omega, HPx.out, HPy.out]; show _ = clV (shV (rzS w h zs p f (xk, ws) (yk, us) shift us.length) shift2) out; rw [HWLy.out, ← Hhmn.out, HS2.out])
                        obtain ⟨fv, hfv⟩ : ∃ z, F k j = z := ⟨_, rfl⟩
                        rw [hfv] at HFX
                        obtain ⟨KN, hKN⟩ : ∃ K : Nat, k * wd = K := ⟨_, rfl⟩
                        have kn1 : KN + wd ≤ NN := by
                          have e1 := Nat.mul_le_mul_right wd (show k + 1 ≤ ht by omega)
                          rw [HNN.out, Nat.add_mul, Nat.one_mul, hKN] at e1
                          exact e1
                        obtain ⟨JX, hJX⟩ : ∃ K : Nat, KN + j = K := ⟨_, rfl⟩
                        have HNX := hid (show (fillL F wd k j NN).set JX fv = fillL F wd k (j + 1) NN from by rw [← hfv, ← hJX, ← hKN]; exact fillL_next (by omega))
                        have hyk : (V : Int) - r1 = (k : Int) := by omega
                        have hkm : (k : Int) * (r2 - r0) = (KN : Int) := by rw [HWD.out, ← hKN]; simp
                        have hxj : (KN : Int) + U - r0 = (JX : Int) := by omega
                        have jx1 : JX < NN := by omega
                        have HFL := hid (show (fillL F wd k j NN).length = NN from fillL_len (by omega))
                        have wk1 : IntKind.i64.wrap (k : Int) = k := IntWalk.i64_in _ (by omega)
                        have wk2 : IntKind.i64.wrap (KN : Int) = KN := IntWalk.i64_in _ (by omega)
                        have wk3 : IntKind.i64.wrap ((KN : Int) + U) = (KN : Int) + U := IntWalk.i64_in _ (by omega)
                        have wk4 : IntKind.i64.wrap (JX : Int) = JX := IntWalk.i64_in _ (by omega)
                        have jx2 : (JX : Int) < NN := by omega
                        clear hfv hKN hJX
                        have H74 := hid H68.out.drew
                        refine wp_region_held_drew (S := (fun w' => w'.cell? ⟨D48, 0, none⟩ = some (.int .i64 (r2 - r0)) ∧ w'.cell? ⟨D48, 1, none⟩ = some (.int .i64 (r3 - r1)) ∧ w'.cell? ⟨D48, 2, none⟩ = some (.int .i64 out) ∧ w'.cell? ⟨D48, 3, none⟩ = some (.slice (some ⟨g0, 0, none⟩) NN v46c) ∧ w'.cell? ⟨B + 1 + 1, 0, none⟩ = some (.int .i64 r0) ∧ w'.cell? ⟨B + 1 + 1, 1, none⟩ = some (.int .i64 r1) ∧ w'.cell? ⟨B + 1 + 1, 2, none⟩ = some (.int .i64 r2) ∧ w'.cell? ⟨B + 1 + 1, 3, none⟩ = some (.int .i64 r3))) (by kernel_rfl) ⟨H74.out.cell 1 rfl 0 rfl, H74.out.cell 1 rfl 1 rfl, H74.out.cell 1 rfl 2 rfl, H74.out.cell 1 rfl 3 rfl, H74.out.cell 3 rfl 0 rfl, H74.out.cell 3 rfl 1 rfl, H74.out.cell 3 rfl 2 rfl, H74.out.cell 3 rfl 3 rfl⟩ (fun hHeld => ?_)
                        generalize u67.drew = k75 at *
                        refine wpAnyH_take (i := 0) (oi := _) (v := ?_) rfl (by kernel_rfl) (by kernel_rfl) (by kernel_rfl) (fun _ _ _ h => h) (Or.inl ⟨by rfl, ?_⟩) (by assumption) ?_
                        rotate_left
                        focus (intro wS hSw; (try dsimp only at hSw); go_simp; (try with_reducible rfl))
                        try simp only [Act.put, List.getElem_toArray, List.getElem_cons_zero, List.getElem_cons_succ, List.setIfInBounds_toArray, List.set_cons_zero, List.set_cons_succ]
                        refine wpAnyH_take (i := 1) (oi := _) (v := ?_) rfl (by kernel_rfl) (by kernel_rfl) (by kernel_rfl) (fun _ _ _ h => h) (Or.inl ⟨by rfl, ?_⟩) (by assumption) ?_
                        rotate_left
                        focus (intro wS hSw; (try dsimp only at hSw); go_simp; (try with_reducible rfl))
                        try simp only [Act.put, List.getElem_toArray, List.getElem_cons_zero, List.getElem_cons_succ, List.setIfInBounds_toArray, List.set_cons_zero, List.set_cons_succ]
                        refine wpAnyH_take (i := 2) (oi := _) (v := ?_) rfl (by kernel_rfl) (by kernel_rfl) (by kernel_rfl) (fun _ _ _ h => h) (Or.inl ⟨by rfl, ?_⟩) (by assumption) ?_
                        rotate_left
                        focus (intro wS hSw; (try dsimp only at hSw); go_simp; (try with_reducible rfl))
                        try simp only [Act.put, List.getElem_toArray, List.getElem_cons_zero, List.getElem_cons_succ, List.setIfInBounds_toArray, List.set_cons_zero, List.set_cons_succ]
                        refine wpAnyH_take (i := 3) (oi := _) (v := ?_) rfl (by kernel_rfl) (by kernel_rfl) (by kernel_rfl) (fun _ _ _ h => h) (Or.inl ⟨by rfl, ?_⟩) (by assumption) ?_
                        rotate_left
                        focus (intro wS hSw; (try dsimp only at hSw); go_simp; (try with_reducible rfl))
                        try simp only [Act.put, List.getElem_toArray, List.getElem_cons_zero, List.getElem_cons_succ, List.setIfInBounds_toArray, List.set_cons_zero, List.set_cons_succ]
                        refine wpAnyH_take (i := 4) (oi := _) (v := ?_) rfl (by kernel_rfl) (by kernel_rfl) (by kernel_rfl) (fun _ _ _ h => h) (Or.inl ⟨by rfl, ?_⟩) (by assumption) ?_
                        rotate_left
                        focus (intro wS hSw; (try dsimp only at hSw); go_simp; (try with_reducible rfl))
                        try simp only [Act.put, List.getElem_toArray, List.getElem_cons_zero, List.getElem_cons_succ, List.setIfInBounds_toArray, List.set_cons_zero, List.set_cons_succ]
                        refine wpAnyH_take (i := 5) (oi := _) (v := ?_) rfl (by kernel_rfl) (by kernel_rfl) (by kernel_rfl) (fun _ _ _ h => h) (Or.inl ⟨by rfl, ?_⟩) (by assumption) ?_
                        rotate_left
                        focus (intro wS hSw; (try dsimp only at hSw); go_simp; (try with_reducible rfl))
                        try simp only [Act.put, List.getElem_toArray, List.getElem_cons_zero, List.getElem_cons_succ, List.setIfInBounds_toArray, List.set_cons_zero, List.set_cons_succ]
                        refine wpAnyH_take (i := 6) (oi := _) (v := ?_) rfl (by kernel_rfl) (by kernel_rfl) (by kernel_rfl) (fun _ _ _ h => h) (Or.inl ⟨by rfl, ?_⟩) (by assumption) ?_
                        rotate_left
                        focus (intro wS hSw; (try dsimp only at hSw); go_simp; (try with_reducible rfl))
                        try simp only [Act.put, List.getElem_toArray, List.getElem_cons_zero, List.getElem_cons_succ, List.setIfInBounds_toArray, List.set_cons_zero, List.set_cons_succ]
                        refine wpAnyH_take (i := 7) (oi := _) (v := ?_) rfl (by kernel_rfl) (by kernel_rfl) (by kernel_rfl) (fun _ _ _ h => h) (Or.inl ⟨by rfl, ?_⟩) (by assumption) ?_
                        rotate_left
                        focus (intro wS hSw; (try dsimp only at hSw); go_simp; (try with_reducible rfl))
                        try simp only [Act.put, List.getElem_toArray, List.getElem_cons_zero, List.getElem_cons_succ, List.setIfInBounds_toArray, List.set_cons_zero, List.set_cons_succ]
                        refine wpAnyH_take (i := 8) (oi := _) (v := ?_) rfl (by kernel_rfl) (by kernel_rfl) (by kernel_rfl) (fun _ _ _ h => h) (Or.inl ⟨by rfl, ?_⟩) (by assumption) ?_
                        rotate_left
                        focus (intro wS hSw; (try dsimp only at hSw); go_simp; (try with_reducible rfl))
                        try simp only [Act.put, List.getElem_toArray, List.getElem_cons_zero, List.getElem_cons_succ, List.setIfInBounds_toArray, List.set_cons_zero, List.set_cons_succ]
                        refine wpAnyH_take (i := 9) (oi := _) (v := ?_) rfl (by kernel_rfl) (by kernel_rfl) (by kernel_rfl) (fun _ _ _ h => h) (Or.inl ⟨by rfl, ?_⟩) (by assumption) ?_
                        rotate_left
                        focus (intro wS hSw; (try dsimp only at hSw); go_simp; (try with_reducible rfl))
                        try simp only [Act.put, List.getElem_toArray, List.getElem_cons_zero, List.getElem_cons_succ, List.setIfInBounds_toArray, List.set_cons_zero, List.set_cons_succ]
                        refine wpAnyH_take (i := 10) (oi := _) (v := ?_) rfl (by kernel_rfl) (by kernel_rfl) (by kernel_rfl) (fun _ _ _ h => h) (Or.inl ⟨by rfl, ?_⟩) (by assumption) ?_
                        rotate_left
                        focus (intro wS hSw; (try dsimp only at hSw); go_simp; (try with_reducible rfl))
                        try simp only [Act.put, List.getElem_toArray, List.getElem_cons_zero, List.getElem_cons_succ, List.setIfInBounds_toArray, List.set_cons_zero, List.set_cons_succ]
                        refine wpAnyH_take (i := 11) (oi := _) (v := ?_) rfl (by kernel_rfl) (by kernel_rfl) (by kernel_rfl) (fun _ _ _ h => h) (Or.inl ⟨by rfl, ?_⟩) (by assumption) ?_
                        rotate_left
                        focus (intro wS hSw; (try dsimp only at hSw); go_simp; (try with_reducible rfl))
                        try simp only [Act.put, List.getElem_toArray, List.getElem_cons_zero, List.getElem_cons_succ, List.setIfInBounds_toArray, List.set_cons_zero, List.set_cons_succ]
                        refine wpAnyH_take (i := 12) (oi := _) (v := ?_) rfl (by kernel_rfl) (by kernel_rfl) (by kernel_rfl) (fun _ _ _ h => h) (Or.inl ⟨by rfl, ?_⟩) (by assumption) ?_
                        rotate_left
                        focus (intro wS hSw; (try dsimp only at hSw); go_simp; (try with_reducible rfl))
                        try simp only [Act.put, List.getElem_toArray, List.getElem_cons_zero, List.getElem_cons_succ, List.setIfInBounds_toArray, List.set_cons_zero, List.set_cons_succ]
                        refine wpAnyH_take (i := 13) (oi := _) (v := ?_) rfl (by kernel_rfl) (by kernel_rfl) (by kernel_rfl) (fun _ _ _ h => h) (Or.inl ⟨by rfl, ?_⟩) (by assumption) ?_
                        rotate_left
                        focus (intro wS hSw; (try dsimp only at hSw); go_simp; (try with_reducible rfl))
                        try simp only [Act.put, List.getElem_toArray, List.getElem_cons_zero, List.getElem_cons_succ, List.setIfInBounds_toArray, List.set_cons_zero, List.set_cons_succ]
                        refine wpAnyH_take (i := 14) (oi := _) (v := ?_) rfl (by kernel_rfl) (by kernel_rfl) (by kernel_rfl) (fun _ _ _ h => h) (Or.inl ⟨by rfl, ?_⟩) (by assumption) ?_
                        rotate_left
                        focus (intro wS hSw; (try dsimp only at hSw); go_simp; (try with_reducible rfl))
                        try simp only [Act.put, List.getElem_toArray, List.getElem_cons_zero, List.getElem_cons_succ, List.setIfInBounds_toArray, List.set_cons_zero, List.set_cons_succ]
                        refine wpAnyH_take (i := 15) (oi := _) (v := ?_) rfl (by kernel_rfl) (by kernel_rfl) (by kernel_rfl) (fun _ _ _ h => h) (Or.inl ⟨by rfl, ?_⟩) (by assumption) ?_
                        rotate_left
                        focus (intro wS hSw; (try dsimp only at hSw); go_simp; (try with_reducible rfl))
                        try simp only [Act.put, List.getElem_toArray, List.getElem_cons_zero, List.getElem_cons_succ, List.setIfInBounds_toArray, List.set_cons_zero, List.set_cons_succ]
                        refine wpAnyH_take (i := 17) (oi := _) (v := ?_) rfl (by kernel_rfl) (by kernel_rfl) (by kernel_rfl) (fun _ _ _ h => h) (Or.inl ⟨by rfl, ?_⟩) (by assumption) ?_
                        rotate_left
                        focus (intro wS hSw; (try dsimp only at hSw); go_simp; (try with_reducible rfl))
                        try simp only [Act.put, List.getElem_toArray, List.getElem_cons_zero, List.getElem_cons_succ, List.setIfInBounds_toArray, List.set_cons_zero, List.set_cons_succ]
                        refine wpAnyH_ready (rs := [16]) (by kernel_rfl) (by simp) (AllReadyH.cons (o := _) rfl (fun K hK => ?_) AllReadyH.nil)
                        go_simp
                        go_at_call 53
                        refine (rshift_any _ _ _).mono ?_
                        rintro e w76 ⟨rfl, hsw⟩
                        have hsw2 : k75 = w76 := by first | exact hsw | exact hsw.symm
                        clear hsw
                        subst hsw2
                        obtain ⟨sv77, hsv77⟩ : ∃ xx', shV S2 shift2 = xx' := ⟨_, rfl⟩
                        rw [hsv77]
                        have HNsv77 := hid hsv77
                        clear hsv77
                        refine hK.out _ _ ?_ (fun hHeld2 => ?_)
                        focus ((try dsimp only); (exact ⟨H74.out.cell 1 rfl 0 rfl, H74.out.cell 1 rfl 1 rfl, H74.out.cell 1 rfl 2 rfl, H74.out.cell 1 rfl 3 rfl, H74.out.cell 3 rfl 0 rfl, H74.out.cell 3 rfl 1 rfl, H74.out.cell 3 rfl 2 rfl, H74.out.cell 3 rfl 3 rfl⟩))
                        clear hK K
                        try simp only [Act.put, List.getElem_toArray, List.getElem_cons_zero, List.getElem_cons_succ, List.setIfInBounds_toArray, List.set_cons_zero, List.set_cons_succ]
                        clear hHeld
                        have hHeld := hHeld2
                        clear hHeld2
                        refine wpAnyH_ready (rs := [18]) (by kernel_rfl) (by simp) (AllReadyH.cons (o := _) rfl (fun K hK => ?_) AllReadyH.nil)
                        go_simp
                        go_at_call 52
                        refine (rclamp_any _ _ _).mono ?_
                        rintro e w78 ⟨rfl, hsw⟩
                        have hsw2 : k75 = w78 := by first | exact hsw | exact hsw.symm
                        clear hsw
                        subst hsw2
                        rw [show clV sv77 out = fv from by rw [← HNsv77.out]; exact HFX.out]
                        refine hK.out _ _ ?_ (fun hHeld2 => ?_)
                        focus ((try dsimp only); (exact ⟨H74.out.cell 1 rfl 0 rfl, H74.out.cell 1 rfl 1 rfl, H74.out.cell 1 rfl 2 rfl, H74.out.cell 1 rfl 3 rfl, H74.out.cell 3 rfl 0 rfl, H74.out.cell 3 rfl 1 rfl, H74.out.cell 3 rfl 2 rfl, H74.out.cell 3 rfl 3 rfl⟩))
                        clear hK K
                        try simp only [Act.put, List.getElem_toArray, List.getElem_cons_zero, List.getElem_cons_succ, List.setIfInBounds_toArray, List.set_cons_zero, List.set_cons_succ]
                        clear hHeld
                        have hHeld := hHeld2
                        clear hHeld2
                        refine wpAnyH_take (i := 19) (oi := _) (v := ?_) rfl (by kernel_rfl) (by kernel_rfl) (by kernel_rfl) (fun _ _ _ h => h) (Or.inl ⟨by rfl, ?_⟩) (by assumption) ?_
                        rotate_left
                        focus (intro wS hSw; (try dsimp only at hSw); go_simp; (try with_reducible rfl))
                        try simp only [Act.put, List.getElem_toArray, List.getElem_cons_zero, List.getElem_cons_succ, List.setIfInBounds_toArray, List.set_cons_zero, List.set_cons_succ]
                        refine wpAnyH_ready (rs := [20]) (by kernel_rfl) (by simp) (AllReadyH.cons (o := _) rfl (fun K hK => ?_) AllReadyH.nil)
                        obtain ⟨s79, s80⟩ := H74.out.get 0 rfl (j := JX) (by rw [HFL.out]; exact jx1)
                        have H81 := hid (show St B W [.own (.slice (some ⟨g0, 0, none⟩) NN v46c) ((fillL F wd k j NN).set JX fv), .cells D48 #[.int .i64 (r2 - r0), .int .i64 (r3 - r1), .int .i64 out, .slice (some ⟨g0, 0, none⟩) NN v46c] 40, .cells (B + 1 + 1 + 1) #[.int .i64 0, .int .i64 0, .int .i64 0, .slice none 0 0] 40, .cells (B + 1 + 1) #[.int .i64 r0, .int .i64 r1, .int .i64 r2, .int .i64 r3] 38, .cells (B + 1) #[.int .i64 p, .int .i64 f] 43, .cells B #[.int .i64 w, .int .i64 h, .int .i64 mx, .slice a n c] 40] [] (k75.setCell ⟨g0, JX, none⟩ (.int .i64 fv)) from (H74.out.store 0 rfl JX fv))
                        go_simp
                        refine hK.out _ _ ?_ (fun hHeld2 => ?_)
                        focus ((try dsimp only); (exact ⟨H81.out.cell 1 rfl 0 rfl, H81.out.cell 1 rfl 1 rfl, H81.out.cell 1 rfl 2 rfl, H81.out.cell 1 rfl 3 rfl, H81.out.cell 3 rfl 0 rfl, H81.out.cell 3 rfl 1 rfl, H81.out.cell 3 rfl 2 rfl, H81.out.cell 3 rfl 3 rfl⟩))
                        clear hK K hHeld
                        try simp only [Act.put, List.getElem_toArray, List.getElem_cons_zero, List.getElem_cons_succ, List.setIfInBounds_toArray, List.set_cons_zero, List.set_cons_succ]
                        clear s79 s80
                        generalize (k75.setCell ⟨g0, JX, none⟩ (.int .i64 fv)) = k82 at *
                        have hHeld := hHeld2
                        clear hHeld2
                        refine wpAnyH_done (by kernel_rfl) ?_ _
                        try clear hHeld
                        clear hyk hkm hxj wk1 wk2 wk3 wk4
                        go_wp2_with fail
                        go_roundw
                        case rel => exact ⟨U + 1, j + 1, by omega, by omega, by omega, by go_num, by rw [← HNX.out]; exact H81.out⟩
                        case measure => first | (simp [intOf]; omega) | (simp [intOf]; done)
                  · skip
                    have hjn' : ¬ ((U : Int) < r2) := by omega
                    have Hhjn := hid (show j = wd by omega)
                    have z83 := H62.out.cell 3 rfl 0 rfl
                    have z84 := H62.out.cell 3 rfl 1 rfl
                    have z85 := H62.out.cell 3 rfl 2 rfl
                    have z86 := H62.out.cell 3 rfl 3 rfl
                    go_wp2_with fail
                    clear z83 z84 z85 z86
                    go_roundw
                    case rel => exact ⟨V + 1, k + 1, by omega, by omega, by omega, by go_num, by rw [show fillL F wd (k + 1) 0 NN = fillL F wd k j NN by rw [← fillL_row, Hhjn.out]]; exact H62.out⟩
                    case measure => first | (simp [intOf]; omega) | (simp [intOf]; done)
              · skip
                have hkn' : ¬ ((V : Int) < r3) := by omega
                have Hhkn := hid (show k = ht by omega)
                have HKE := hid (show k = ht by omega)
                have z87 := H56.out.cell 3 rfl 0 rfl
                have z88 := H56.out.cell 3 rfl 1 rfl
                have z89 := H56.out.cell 3 rfl 2 rfl
                have z90 := H56.out.cell 3 rfl 3 rfl
                have z91 := H56.out.cell 1 rfl 0 rfl
                have z92 := H56.out.cell 1 rfl 1 rfl
                have z93 := H56.out.cell 1 rfl 2 rfl
                have z94 := H56.out.cell 1 rfl 3 rfl
                have z95 := H56.out.cell 2 rfl 0 rfl
                have z96 := H56.out.free 2 rfl 0
                have z97 := H56.out.cell 2 rfl 1 rfl
                have z98 := H56.out.free 2 rfl 1
                have z99 := H56.out.cell 2 rfl 2 rfl
                have z100 := H56.out.free 2 rfl 2
                have z101 := H56.out.cell 2 rfl 3 rfl
                have z102 := H56.out.free 2 rfl 3
                go_wp2_with fail
                clear z87 z88 z89 z90 z91 z92 z93 z94 z95 z96 z97 z98 z99 z100 z101 z102
                have H103 := hid (show St B W [.own (.slice (some ⟨g0, 0, none⟩) NN v46c) (fillL F wd k 0 NN), .cells D48 #[.int .i64 (r2 - r0), .int .i64 (r3 - r1), .int .i64 out, .slice (some ⟨g0, 0, none⟩) NN v46c] 40, .cells (B + 1 + 1 + 1) #[.int .i64 (r2 - r0), .int .i64 (r3 - r1), .int .i64 out, .slice (some ⟨g0, 0, none⟩) NN v46c] 40, .cells (B + 1 + 1) #[.int .i64 r0, .int .i64 r1, .int .i64 r2, .int .i64 r3] 38, .cells (B + 1) #[.int .i64 p, .int .i64 f] 43, .cells B #[.int .i64 w, .int .i64 h, .int .i64 mx, .slice a n c] 40] [] ((((u55.setCell ⟨B + 1 + 1 + 1, 0, none⟩ (.int .i64 (r2 - r0))).setCell ⟨B + 1 + 1 + 1, 1, none⟩ (.int .i64 (r3 - r1))).setCell ⟨B + 1 + 1 + 1, 2, none⟩ (.int .i64 out)).setCell ⟨B + 1 + 1 + 1, 3, none⟩ (.slice (some ⟨g0, 0, none⟩) NN v46c)) from (H56.out.set4 2 rfl (.int .i64 (r2 - r0)) (.int .i64 (r3 - r1)) (.int .i64 out) (.slice (some ⟨g0, 0, none⟩) NN v46c)))
                have HFLL := hid (show fillL F wd k 0 NN = gridL F wd k 0 from by rw [← HNN.out, ← HKE.out]; exact fillL_all F wd k)
                have HRES := hid (show rzL w h zs p f xs ys shift shift2 out r0 r1 r2 r3 = fillL F wd k 0 NN from by rw [HFLL.out]; unfold rzL rG; rw [HFF.out, HWD.out, HHT.out, Int.toNat_natCast, Int.toNat_natCast, ← HKE.out])
                have q104 := H103.out.cell 2 rfl 0 rfl
                have q105 := H103.out.cell 2 rfl 1 rfl
                have q106 := H103.out.cell 2 rfl 2 rfl
                have q107 := H103.out.cell 2 rfl 3 rfl
                refine bodyPost_ret (v := .tuple #[.agg #[.int .i64 (r2 - r0), .int .i64 (r3 - r1), .int .i64 out, .slice (some ⟨g0, 0, none⟩) NN v46c], .int .i64 0]) ?_ rfl (TPost.yes HTC.out (by rw [hB, HRES.out]; exact H103.out.own 0 rfl) (by first | exact H103.out.below | exact H103.out.below'))
                simp [results, Try.results20, go_sem, q104, q105, q106, q107]
          | false =>
            have z108 := H39.out.cell 0 rfl 0 rfl
            have z109 := H39.out.free 0 rfl 0
            have z110 := H39.out.cell 0 rfl 1 rfl
            have z111 := H39.out.free 0 rfl 1
            have z112 := H39.out.cell 0 rfl 2 rfl
            have z113 := H39.out.free 0 rfl 2
            have z114 := H39.out.cell 0 rfl 3 rfl
            have z115 := H39.out.free 0 rfl 3
            go_wp2_with fail
            clear z108 z109 z110 z111 z112 z113 z114 z115
            have H116 := hid (show St B W [.cells (B + 1 + 1 + 1) #[.int .i64 0, .int .i64 0, .int .i64 0, .slice none 0 0] 40, .cells (B + 1 + 1) #[.int .i64 r0, .int .i64 r1, .int .i64 r2, .int .i64 r3] 38, .cells (B + 1) #[.int .i64 p, .int .i64 f] 43, .cells B #[.int .i64 w, .int .i64 h, .int .i64 mx, .slice a n c] 40] [] ((((w38.setCell ⟨B + 1 + 1 + 1, 0, none⟩ (.int .i64 0)).setCell ⟨B + 1 + 1 + 1, 1, none⟩ (.int .i64 0)).setCell ⟨B + 1 + 1 + 1, 2, none⟩ (.int .i64 0)).setCell ⟨B + 1 + 1 + 1, 3, none⟩ (.slice none 0 0)) from (H39.out.set4 0 rfl (.int .i64 0) (.int .i64 0) (.int .i64 0) (.slice none 0 0)))
            have q117 := H116.out.cell 0 rfl 0 rfl
            have q118 := H116.out.cell 0 rfl 1 rfl
            have q119 := H116.out.cell 0 rfl 2 rfl
            have q120 := H116.out.cell 0 rfl 3 rfl
            refine bodyPost_ret (v := .tuple #[.agg #[.int .i64 0, .int .i64 0, .int .i64 0, .slice none 0 0], .int .i64 8]) ?_ rfl (TPost.no (by unfold rzTC; rw [if_neg (fun hc => hc ⟨HNb9.out, HNb18.out⟩), if_neg (by rw [HNk25.out]; have := c26h.out; omega), if_pos (by rw [← HLX.out, ← HLY.out]; unfold rIs; exact fullInside' (.inr HNb40.out))]) (by omega) (by first | exact H116.out.below | exact H116.out.below'))
            simp [results, Try.results20, go_sem, q117, q118, q119, q120]
        | false =>
          have z121 := H32.out.cell 0 rfl 0 rfl
          have z122 := H32.out.free 0 rfl 0
          have z123 := H32.out.cell 0 rfl 1 rfl
          have z124 := H32.out.free 0 rfl 1
          have z125 := H32.out.cell 0 rfl 2 rfl
          have z126 := H32.out.free 0 rfl 2
          have z127 := H32.out.cell 0 rfl 3 rfl
          have z128 := H32.out.free 0 rfl 3
          go_wp2_with fail
          clear z121 z122 z123 z124 z125 z126 z127 z128
          have H129 := hid (show St B W [.cells (B + 1 + 1 + 1) #[.int .i64 0, .int .i64 0, .int .i64 0, .slice none 0 0] 40, .cells (B + 1 + 1) #[.int .i64 r0, .int .i64 r1, .int .i64 r2, .int .i64 r3] 38, .cells (B + 1) #[.int .i64 p, .int .i64 f] 43, .cells B #[.int .i64 w, .int .i64 h, .int .i64 mx, .slice a n c] 40] [] ((((w31.setCell ⟨B + 1 + 1 + 1, 0, none⟩ (.int .i64 0)).setCell ⟨B + 1 + 1 + 1, 1, none⟩ (.int .i64 0)).setCell ⟨B + 1 + 1 + 1, 2, none⟩ (.int .i64 0)).setCell ⟨B + 1 + 1 + 1, 3, none⟩ (.slice none 0 0)) from (H32.out.set4 0 rfl (.int .i64 0) (.int .i64 0) (.int .i64 0) (.slice none 0 0)))
          have q130 := H129.out.cell 0 rfl 0 rfl
          have q131 := H129.out.cell 0 rfl 1 rfl
          have q132 := H129.out.cell 0 rfl 2 rfl
          have q133 := H129.out.cell 0 rfl 3 rfl
          refine bodyPost_ret (v := .tuple #[.agg #[.int .i64 0, .int .i64 0, .int .i64 0, .slice none 0 0], .int .i64 8]) ?_ rfl (TPost.no (by unfold rzTC; rw [if_neg (fun hc => hc ⟨HNb9.out, HNb18.out⟩), if_neg (by rw [HNk25.out]; have := c26h.out; omega), if_pos (by rw [← HLX.out, ← HLY.out]; unfold rIs; exact fullInside' (.inl HNb33.out))]) (by omega) (by first | exact H129.out.below | exact H129.out.below'))
          simp [results, Try.results20, go_sem, q130, q131, q132, q133]
      · have c26a : ((k25 : Int) == (0)) = false := by simpa using c26
        have c26b : ((k25 : Int) != (0)) = true := by simpa using c26
        have c26h := hid c26
        clear c26
        have z134 := H24.out.cell 0 rfl 0 rfl
        have z135 := H24.out.free 0 rfl 0
        have z136 := H24.out.cell 0 rfl 1 rfl
        have z137 := H24.out.free 0 rfl 1
        have z138 := H24.out.cell 0 rfl 2 rfl
        have z139 := H24.out.free 0 rfl 2
        have z140 := H24.out.cell 0 rfl 3 rfl
        have z141 := H24.out.free 0 rfl 3
        go_wp2_with fail
        clear z134 z135 z136 z137 z138 z139 z140 z141
        have H142 := hid (show St B W [.cells (B + 1 + 1 + 1) #[.int .i64 0, .int .i64 0, .int .i64 0, .slice none 0 0] 40, .cells (B + 1 + 1) #[.int .i64 r0, .int .i64 r1, .int .i64 r2, .int .i64 r3] 38, .cells (B + 1) #[.int .i64 p, .int .i64 f] 43, .cells B #[.int .i64 w, .int .i64 h, .int .i64 mx, .slice a n c] 40] [] ((((w23.setCell ⟨B + 1 + 1 + 1, 0, none⟩ (.int .i64 0)).setCell ⟨B + 1 + 1 + 1, 1, none⟩ (.int .i64 0)).setCell ⟨B + 1 + 1 + 1, 2, none⟩ (.int .i64 0)).setCell ⟨B + 1 + 1 + 1, 3, none⟩ (.slice none 0 0)) from (H24.out.set4 0 rfl (.int .i64 0) (.int .i64 0) (.int .i64 0) (.slice none 0 0)))
        have q143 := H142.out.cell 0 rfl 0 rfl
        have q144 := H142.out.cell 0 rfl 1 rfl
        have q145 := H142.out.cell 0 rfl 2 rfl
        have q146 := H142.out.cell 0 rfl 3 rfl
        refine bodyPost_ret (v := .tuple #[.agg #[.int .i64 0, .int .i64 0, .int .i64 0, .slice none 0 0], .int .i64 k25]) ?_ rfl (TPost.no (by unfold rzTC; rw [if_neg (fun hc => hc ⟨HNb9.out, HNb18.out⟩), if_pos (by rw [HNk25.out]; exact c26h.out), HNk25.out]) c26h.out (by first | exact H142.out.below | exact H142.out.below'))
        simp [results, Try.results20, go_sem, q143, q144, q145, q146]
    | false =>
      have z147 := H17.out.cell 0 rfl 0 rfl
      have z148 := H17.out.free 0 rfl 0
      have z149 := H17.out.cell 0 rfl 1 rfl
      have z150 := H17.out.free 0 rfl 1
      have z151 := H17.out.cell 0 rfl 2 rfl
      have z152 := H17.out.free 0 rfl 2
      have z153 := H17.out.cell 0 rfl 3 rfl
      have z154 := H17.out.free 0 rfl 3
      go_wp2_with fail
      clear z147 z148 z149 z150 z151 z152 z153 z154
      have H155 := hid (show St B W [.cells (B + 1 + 1 + 1) #[.int .i64 0, .int .i64 0, .int .i64 0, .slice none 0 0] 40, .cells (B + 1 + 1) #[.int .i64 r0, .int .i64 r1, .int .i64 r2, .int .i64 r3] 38, .cells (B + 1) #[.int .i64 p, .int .i64 f] 43, .cells B #[.int .i64 w, .int .i64 h, .int .i64 mx, .slice a n c] 40] [] ((((w16.setCell ⟨B + 1 + 1 + 1, 0, none⟩ (.int .i64 0)).setCell ⟨B + 1 + 1 + 1, 1, none⟩ (.int .i64 0)).setCell ⟨B + 1 + 1 + 1, 2, none⟩ (.int .i64 0)).setCell ⟨B + 1 + 1 + 1, 3, none⟩ (.slice none 0 0)) from (H17.out.set4 0 rfl (.int .i64 0) (.int .i64 0) (.int .i64 0) (.slice none 0 0)))
      have q156 := H155.out.cell 0 rfl 0 rfl
      have q157 := H155.out.cell 0 rfl 1 rfl
      have q158 := H155.out.cell 0 rfl 2 rfl
      have q159 := H155.out.cell 0 rfl 3 rfl
      refine bodyPost_ret (v := .tuple #[.agg #[.int .i64 0, .int .i64 0, .int .i64 0, .slice none 0 0], .int .i64 1]) ?_ rfl (TPost.no (by unfold rzTC; rw [if_pos (by intro hc; rw [HNb18.out] at hc; simp at hc)]) (by omega) (by first | exact H155.out.below | exact H155.out.below'))
      simp [results, Try.results20, go_sem, q156, q157, q158, q159]
  | false =>
    have z160 := H8.out.cell 0 rfl 0 rfl
    have z161 := H8.out.free 0 rfl 0
    have z162 := H8.out.cell 0 rfl 1 rfl
    have z163 := H8.out.free 0 rfl 1
    have z164 := H8.out.cell 0 rfl 2 rfl
    have z165 := H8.out.free 0 rfl 2
    have z166 := H8.out.cell 0 rfl 3 rfl
    have z167 := H8.out.free 0 rfl 3
    go_wp2_with fail
    clear z160 z161 z162 z163 z164 z165 z166 z167
    have H168 := hid (show St B W [.cells (B + 1 + 1 + 1) #[.int .i64 0, .int .i64 0, .int .i64 0, .slice none 0 0] 40, .cells (B + 1 + 1) #[.int .i64 r0, .int .i64 r1, .int .i64 r2, .int .i64 r3] 38, .cells (B + 1) #[.int .i64 p, .int .i64 f] 43, .cells B #[.int .i64 w, .int .i64 h, .int .i64 mx, .slice a n c] 40] [] ((((w7.setCell ⟨B + 1 + 1 + 1, 0, none⟩ (.int .i64 0)).setCell ⟨B + 1 + 1 + 1, 1, none⟩ (.int .i64 0)).setCell ⟨B + 1 + 1 + 1, 2, none⟩ (.int .i64 0)).setCell ⟨B + 1 + 1 + 1, 3, none⟩ (.slice none 0 0)) from (H8.out.set4 0 rfl (.int .i64 0) (.int .i64 0) (.int .i64 0) (.slice none 0 0)))
    have q169 := H168.out.cell 0 rfl 0 rfl
    have q170 := H168.out.cell 0 rfl 1 rfl
    have q171 := H168.out.cell 0 rfl 2 rfl
    have q172 := H168.out.cell 0 rfl 3 rfl
    refine bodyPost_ret (v := .tuple #[.agg #[.int .i64 0, .int .i64 0, .int .i64 0, .slice none 0 0], .int .i64 1]) ?_ rfl (TPost.no (by unfold rzTC; rw [if_pos (by intro hc; rw [HNb9.out] at hc; simp at hc)]) (by omega) (by first | exact H168.out.below | exact H168.out.below'))
    simp [results, Try.results20, go_sem, q169, q170, q171, q172]
end Go.Proofs.Ytaefdkinpaonkaa
