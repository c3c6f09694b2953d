/-
  Contract: the tiles of resizes, in the program.
-/
import Derived.Test.YtaefdkinpaonkaaRzRow
import Derived.Test.YtaefdkinpaonkaaMp
import Derived.Test.YtaefdkinpaonkaaKB
import Derived.Test.YtaefdkinpaonkaaKA
namespace Go.Proofs.Ytaefdkinpaonkaa
open Go.RowKit
attribute [local go_sem ↓] Go.wp_at_zero Go.wp_at_succ
set_option linter.unusedVariables false
set_option linter.unusedSimpArgs false

theorem zrow (w : World) : (zeroValue 22).run Try.prog w = .ok nilV w := by kernel_rfl
def smL (S : Nat → Nat → Int) (wd m u : Nat) : List Int := (List.range wd).map fun i => if i < u then S i (m + 1) else S i m
theorem nil_is (w : World) : (binOp .eql 22 (.slice none 0 0) (.slice none 0 0)).run Try.prog w = .ok (.bool true) w := by kernel_rfl
theorem nil_not (rb ro n c : Nat) (w : World) : (binOp .eql 22 (.slice (some ⟨rb, ro, none⟩) n c) (.slice none 0 0)).run Try.prog w = .ok (.bool false) w := by kernel_rfl
attribute [local go_sem ↓] nil_is nil_not
theorem smL_len (S : Nat → Nat → Int) (wd m u : Nat) : (smL S wd m u).length = wd := by simp [smL]
theorem smL_zero {S : Nat → Nat → Int} (h : ∀ u, S u 0 = 0) (wd : Nat) : List.replicate wd 0 = smL S wd 0 0 := by
  refine List.ext_getElem (by simp [smL]) fun i h1 h2 => ?_
  simp [smL, h]
theorem smL_row (S : Nat → Nat → Int) (wd m : Nat) : smL S wd m wd = smL S wd (m + 1) 0 := by
  refine List.ext_getElem (by simp [smL]) fun i h1 h2 => ?_
  simp [smL] at h1
  simp [smL, h1]
theorem smL_get (S : Nat → Nat → Int) {wd m u : Nat} (h : u < wd) : (smL S wd m u).getD u 0 = S u m := by
  rw [List.getD_eq_getElem?_getD, smL, List.getElem?_map, List.getElem?_range h]; simp
theorem smL_get0 (S : Nat → Nat → Int) {wd m u : Nat} (h : u < wd) : (smL S wd m 0).getD u 0 = S u m := by
  rw [List.getD_eq_getElem?_getD, smL, List.getElem?_map, List.getElem?_range h]; simp
theorem smL_next (S : Nat → Nat → Int) {wd m u : Nat} (h : u < wd) {v : Int} (hv : S u (m + 1) = v) : (smL S wd m u).set u v = smL S wd m (u + 1) := by
  refine List.ext_getElem (by simp [smL]) fun i h1 h2 => ?_
  rw [List.getElem_set]
  by_cases e : u = i
  · subst e; simp [smL, hv]
  · rw [if_neg e]; simp only [smL, List.getElem_map, List.getElem_range]
    by_cases h3 : i < u
    · rw [if_pos h3, if_pos (by omega)]
    · rw [if_neg h3, if_neg (by omega)]
theorem rzRow_get (w h : Int) (zs : List Int) (p f : Int) (xs : Tbl) (shift : Int) (R0 : Nat) {wd u : Nat} (hu : u < wd) (k : Int) : (rzRow w h zs p f xs shift R0 wd k).getD u 0 = rzM w h zs p f (xs.getD (R0 + u) (0, [])) shift k := by
  rw [List.getD_eq_getElem?_getD, rzRow, List.getElem?_map, List.getElem?_range hu]; rfl

set_option maxRecDepth 100000 in
set_option maxHeartbeats 12800000 in
theorem rztile_any (w h mx : Int) (a : Option Addr) (n c : Nat) (zs : List Int) (p f : Int) (xa : Option Addr) (xm xc : Nat) (xs : Tbl) (ya : Option Addr) (ym yc : Nat) (ys : Tbl) (shift shift2 out r0 r1 r2 r3 : Int) (W : World) (hs : Slc W a n c zs) (hx : Tps W xa xm xc xs) (hy : Tps W ya ym yc ys) :
    Calls Try.prog 19 #[.agg #[.int .i64 w, .int .i64 h, .int .i64 mx, .slice a n c], .agg #[.int .i64 p, .int .i64 f], .slice xa xm xc, .slice ya ym yc, .int .i64 shift, .int .i64 shift2, .int .i64 out, .agg #[.int .i64 r0, .int .i64 r1, .int .i64 r2, .int .i64 r3]] W (TPost (rzTC w h mx zs p f xs ys shift shift2 out r0 r1 r2 r3) (r2 - r0) (r3 - r1) out (rzL w h zs p f xs ys shift shift2 out r0 r1 r2 r3) W) := by
  obtain ⟨B, hB⟩ : ∃ B, W.heap.size = B := ⟨_, rfl⟩
  have HI0 := hid (St.init hB)
  have HS := hid hs
  have HX := hid hx
  have HY := hid hy
  have HLX := hid hx.len
  have HLY := hid hy.len
  have xmx : (xm : Int) ≤ 9223372036854775807 := by have := hx.nc; have := hx.cap; omega
  have ymx : (ym : Int) ≤ 9223372036854775807 := by have := hy.nc; have := hy.cap; omega
  clear hs hx hy
  go_enter Try.func19, Try.ntmps19
  go_upto_region 1 with fail
  have H1 := hid (show St B W [.cells (B + 1 + 1 + 1 + 1 + 1) #[.int .i64 0, .int .i64 0, .int .i64 0, .slice none 0 0] 40, .cells (B + 1 + 1 + 1 + 1) #[.int .i64 r0, .int .i64 r1, .int .i64 r2, .int .i64 r3] 38, .cells (B + 1 + 1 + 1) #[.int .i64 shift] 3, .cells (B + 1 + 1) #[.slice xa xm xc] 25, .cells (B + 1) #[.int .i64 p, .int .i64 f] 43, .cells B #[.int .i64 w, .int .i64 h, .int .i64 mx, .slice a n c] 40] [] ((((((W.alloc (.cells #[.int .i64 w, .int .i64 h, .int .i64 mx, .slice a n c] 40)).alloc (.cells #[.int .i64 p, .int .i64 f] 43)).alloc (.cells #[.slice xa xm xc] 25)).alloc (.cells #[.int .i64 shift] 3)).alloc (.cells #[.int .i64 r0, .int .i64 r1, .int .i64 r2, .int .i64 r3] 38)).alloc (.cells #[.int .i64 0, .int .i64 0, .int .i64 0, .slice none 0 0] 40)) from ((((((HI0.out.alloc #[.int .i64 w, .int .i64 h, .int .i64 mx, .slice a n c] 40 hB).alloc #[.int .i64 p, .int .i64 f] 43 (by first | exact hB | simp [hB])).alloc #[.slice xa xm xc] 25 (by first | exact hB | simp [hB])).alloc #[.int .i64 shift] 3 (by first | exact hB | simp [hB])).alloc #[.int .i64 r0, .int .i64 r1, .int .i64 r2, .int .i64 r3] 38 (by first | exact hB | simp [hB])).alloc #[.int .i64 0, .int .i64 0, .int .i64 0, .slice none 0 0] 40 (by first | exact hB | simp [hB])))
  first | refine gen_code H1.out ?_ | refine gen_list H1.out ?_ | refine gen_calls H1.out ?_
  intro w2 hG
  clear H1
  have H1 := hid hG
  clear hG
  have z3 := H1.out.cell 5 rfl 0 rfl
  have z4 := H1.out.cell 5 rfl 1 rfl
  have z5 := H1.out.cell 5 rfl 2 rfl
  have z6 := H1.out.cell 5 rfl 3 rfl
  go_wp2_with fail
  clear z3 z4 z5 z6
  refine (pvalid_any _ _ _ _ _ _ _ _ (by have := HS.out.nc; have := HS.out.cap; omega) (H1.out.old HS.out).row).mono ?_
  rintro e w7 ⟨rfl, hb⟩
  have H8 := hid (H1.out.call hb)
  clear hb
  obtain ⟨b9, hb9⟩ : ∃ xx', pValid w h mx zs = xx' := ⟨_, rfl⟩
  rw [hb9]
  have HNb9 := hid hb9
  clear hb9
  cases b9 with
  | true =>
    have z10 := H8.out.cell 4 rfl 0 rfl
    have z11 := H8.out.cell 4 rfl 1 rfl
    have z12 := H8.out.cell 5 rfl 0 rfl
    have z13 := H8.out.cell 5 rfl 1 rfl
    have z14 := H8.out.cell 5 rfl 2 rfl
    have z15 := H8.out.cell 5 rfl 3 rfl
    go_wp2_with fail
    clear z10 z11 z12 z13 z14 z15
    refine (bvalid_any _ _ _ _).mono ?_
    rintro e w16 ⟨rfl, hb⟩
    have H17 := hid (H8.out.call hb)
    clear hb
    obtain ⟨b18, hb18⟩ : ∃ xx', bValid p f mx = xx' := ⟨_, rfl⟩
    rw [hb18]
    have HNb18 := hid hb18
    clear hb18
    cases b18 with
    | true =>
      obtain ⟨D19, hD19⟩ : ∃ D, w16.heap.size = D := ⟨_, rfl⟩
      have z20 := H17.out.cell 5 rfl 0 rfl
      have z21 := H17.out.cell 5 rfl 1 rfl
      have z22 := H17.out.cell 5 rfl 2 rfl
      have z23 := H17.out.cell 5 rfl 3 rfl
      go_upto_region 4 with fail
      clear z20 z21 z22 z23
      have H24 := hid (show St B W [.cells D19 #[.int .i64 w, .int .i64 h, .int .i64 mx] 24, .cells (B + 1 + 1 + 1 + 1 + 1) #[.int .i64 0, .int .i64 0, .int .i64 0, .slice none 0 0] 40, .cells (B + 1 + 1 + 1 + 1) #[.int .i64 r0, .int .i64 r1, .int .i64 r2, .int .i64 r3] 38, .cells (B + 1 + 1 + 1) #[.int .i64 shift] 3, .cells (B + 1 + 1) #[.slice xa xm xc] 25, .cells (B + 1) #[.int .i64 p, .int .i64 f] 43, .cells B #[.int .i64 w, .int .i64 h, .int .i64 mx, .slice a n c] 40] [] (w16.alloc (.cells #[.int .i64 w, .int .i64 h, .int .i64 mx] 24)) from (H17.out.alloc #[.int .i64 w, .int .i64 h, .int .i64 mx] 24 hD19))
      first | refine gen_code H24.out ?_ | refine gen_list H24.out ?_ | refine gen_calls H24.out ?_
      intro w25 hG
      clear H24
      have H24 := hid hG
      clear hG
      clear hD19
      have z26 := H24.out.cell 0 rfl 0 rfl
      have z27 := H24.out.cell 0 rfl 1 rfl
      have z28 := H24.out.cell 0 rfl 2 rfl
      have z29 := H24.out.cell 4 rfl 0 rfl
      have z30 := H24.out.cell 3 rfl 0 rfl
      go_wp2_with fail
      clear z26 z27 z28 z29 z30
      refine (rzcheck_any _ _ _ _ _ _ _ _ _ _ _ _ _ _ _ (H24.out.oldTps HX.out) (H24.out.oldTps HY.out)).mono ?_
      rintro e w31 ⟨rfl, hb⟩
      have H32 := hid (H24.out.call hb)
      clear hb
      obtain ⟨k33, hk33⟩ : ∃ xx', rzCode w h mx xs ys shift shift2 out = xx' := ⟨_, rfl⟩
      rw [hk33]
      have HNk33 := hid hk33
      clear hk33
      by_cases c34 : (k33 : Int) = 0
      · obtain ⟨c34c, c34d⟩ : (k33 : Int) ≤ 0 ∧ (0 : Int) ≤ k33 := by omega
        have c34a : ((k33 : Int) == (0)) = true := by simpa using c34
        have c34b : ((k33 : Int) != (0)) = false := by simpa using c34
        have c34h := hid c34
        clear c34
        have z35 := H32.out.cell 2 rfl 0 rfl
        have z36 := H32.out.cell 2 rfl 1 rfl
        have z37 := H32.out.cell 2 rfl 2 rfl
        have z38 := H32.out.cell 2 rfl 3 rfl
        go_wp2_with fail
        clear z35 z36 z37 z38
        refine (rempty_any _ _ _ _ _).mono ?_
        rintro e w39 ⟨rfl, hb⟩
        have H40 := hid (H32.out.call hb)
        clear hb
        obtain ⟨b41, hb41⟩ : ∃ xx', rEmpty r0 r1 r2 r3 = xx' := ⟨_, rfl⟩
        rw [hb41]
        have HNb41 := hid hb41
        clear hb41
        cases b41 with
        | true =>
          have z42 := H40.out.cell 1 rfl 0 rfl
          have z43 := H40.out.free 1 rfl 0
          have z44 := H40.out.cell 1 rfl 1 rfl
          have z45 := H40.out.free 1 rfl 1
          have z46 := H40.out.cell 1 rfl 2 rfl
          have z47 := H40.out.free 1 rfl 2
          have z48 := H40.out.cell 1 rfl 3 rfl
          have z49 := H40.out.free 1 rfl 3
          go_wp2_with fail
          clear z42 z43 z44 z45 z46 z47 z48 z49
          have H50 := hid (show St B W [.cells D19 #[.int .i64 w, .int .i64 h, .int .i64 mx] 24, .cells (B + 1 + 1 + 1 + 1 + 1) #[.int .i64 0, .int .i64 0, .int .i64 0, .slice none 0 0] 40, .cells (B + 1 + 1 + 1 + 1) #[.int .i64 r0, .int .i64 r1, .int .i64 r2, .int .i64 r3] 38, .cells (B + 1 + 1 + 1) #[.int .i64 shift] 3, .cells (B + 1 + 1) #[.slice xa xm xc] 25, .cells (B + 1) #[.int .i64 p, .int .i64 f] 43, .cells B #[.int .i64 w, .int .i64 h, .int .i64 mx, .slice a n c] 40] [] ((((w39.setCell ⟨B + 1 + 1 + 1 + 1 + 1, 0, none⟩ (.int .i64 0)).setCell ⟨B + 1 + 1 + 1 + 1 + 1, 1, none⟩ (.int .i64 0)).setCell ⟨B + 1 + 1 + 1 + 1 + 1, 2, none⟩ (.int .i64 0)).setCell ⟨B + 1 + 1 + 1 + 1 + 1, 3, none⟩ (.slice none 0 0)) from (H40.out.set4 1 rfl (.int .i64 0) (.int .i64 0) (.int .i64 0) (.slice none 0 0)))
          have q51 := H50.out.cell 1 rfl 0 rfl
          have q52 := H50.out.cell 1 rfl 1 rfl
          have q53 := H50.out.cell 1 rfl 2 rfl
          have q54 := H50.out.cell 1 rfl 3 rfl
          refine bodyPost_ret (v := .tuple #[.agg #[.int .i64 0, .int .i64 0, .int .i64 0, .slice none 0 0], .int .i64 8]) ?_ rfl (TPost.no (by unfold rzTC; rw [if_neg (fun hc => hc ⟨HNb9.out, HNb18.out⟩), if_neg (by rw [HNk33.out]; have := c34h.out; omega), if_pos (by rw [← HLX.out, ← HLY.out]; unfold rIs; rw [HNb41.out]; rfl)]) (by omega) (by first | exact H50.out.below | exact H50.out.below'))
          simp [results, Try.results19, go_sem, q51, q52, q53, q54]
        | false =>
          have z55 := H40.out.cell 2 rfl 0 rfl
          have z56 := H40.out.cell 2 rfl 1 rfl
          have z57 := H40.out.cell 2 rfl 2 rfl
          have z58 := H40.out.cell 2 rfl 3 rfl
          have z59 := H40.out.cell 4 rfl 0 rfl
          go_wp2_with fail
          clear z55 z56 z57 z58 z59
          refine (rinside_any _ _ _ _ _ _ _ _ _).mono ?_
          rintro e w60 ⟨rfl, hb⟩
          have H61 := hid (H40.out.call hb)
          clear hb
          obtain ⟨b62, hb62⟩ : ∃ xx', rInside r0 r1 r2 r3 0 0 (xm : Int) (ym : Int) = xx' := ⟨_, rfl⟩
          rw [hb62]
          have HNb62 := hid hb62
          clear hb62
          cases b62 with
          | true =>
            go_upto_region 9 with fail
            have HCK := hid (show rzCode w h mx xs ys shift shift2 out = 0 from by rw [HNk33.out]; have := c34h.out; omega)
            have HV := hid HNb9.out
            have HB := hid HNb18.out
            obtain ⟨p1, p2, p3, p4, p5, p6, p7⟩ := pOk_iff.1 (pValid_iff.1 HNb9.out).1
            obtain ⟨tv1, tv2, tv3, sh1, sh2, sh3, sh4, _, _, o1, o2, _⟩ := rz_zero HCK.out
            obtain ⟨xl1, xl2, _, _⟩ := tv_pos tv1
            obtain ⟨yl1, yl2, _, _⟩ := tv_pos tv2
            rw [← HLX.out] at xl1 xl2 tv3
            rw [← HLY.out] at yl1 yl2 tv3
            have HTX := hid (fun (i : Nat) (hi : i < xm) => tvOne_zero (tv_all tv1 (j := i) (by rw [← HLX.out]; exact hi)))
            have HTY := hid (fun (i : Nat) (hi : i < ym) => tvOne_zero (tv_all tv2 (j := i) (by rw [← HLY.out]; exact hi)))
            clear tv1 tv2
            have HIN := hid (show rIs r0 r1 r2 r3 (xm : Int) (ym : Int) = true from by unfold rIs; rw [HNb41.out, HNb62.out]; rfl)
            obtain ⟨i1, i2, i3, i4, i5, i6⟩ := (rIs_iff (w := (xm : Int)) (h := (ym : Int)) (by omega) (by omega) (by omega) (by omega)).1 HIN.out
            have HTC := hid (show rzTC w h mx zs p f xs ys shift shift2 out r0 r1 r2 r3 = 0 from by unfold rzTC; rw [if_neg (fun hc => hc ⟨HV.out, HB.out⟩), if_neg (by rw [HCK.out]; simp), if_neg (by rw [← HLX.out, ← HLY.out, HIN.out]; simp)])
            obtain ⟨wd, hwd⟩ : ∃ m : Nat, r2 - r0 = m := ⟨(r2 - r0).toNat, by omega⟩
            obtain ⟨ht, hht⟩ : ∃ m : Nat, r3 - r1 = m := ⟨(r3 - r1).toNat, by omega⟩
            have HWD := hid hwd
            have HHT := hid hht
            obtain ⟨wd1, wd2, ht1, ht2⟩ : (wd : Int) ≤ r2 - r0 ∧ r2 - r0 ≤ wd ∧ (ht : Int) ≤ r3 - r1 ∧ r3 - r1 ≤ ht := by omega
            have pq0 := Int.mul_nonneg (a := r2 - r0) (b := r3 - r1) (by omega) (by omega)
            have pq1 := Int.mul_le_mul (a := r2 - r0) (c := (xm : Int)) (b := r3 - r1) (d := (ym : Int)) (by omega) (by omega) (by omega) (by omega)
            obtain ⟨NN, hNN⟩ : ∃ N : Nat, (r2 - r0) * (r3 - r1) = N := ⟨((r2 - r0) * (r3 - r1)).toNat, by omega⟩
            rw [hNN] at pq0 pq1
            have HNN := hid (show ht * wd = NN from by have := hNN; rw [hwd, hht, ← Int.natCast_mul, Nat.mul_comm] at this; omega)
            have nn9 : (NN : Int) ≤ 4096 := by omega
            clear hwd hht pq1 tv3
            obtain ⟨F, hF⟩ : ∃ F : Nat → Nat → Int, (fun (k j : Nat) => rzP w h zs p f xs ys shift shift2 out (r0 + (j : Int)) (r1 + (k : Int))) = F := ⟨_, rfl⟩
            have HFV := hid (show ∀ k j : Nat, rzP w h zs p f xs ys shift shift2 out (r0 + (j : Int)) (r1 + (k : Int)) = F k j from fun k j => by rw [← hF])
            have HFF := hid hF
            clear hF
            have hnn2 : IntKind.i64.wrap (NN : Int) = NN := IntWalk.i64_in _ (by omega)
            clear hnn2 hNN
            obtain ⟨R0, hR0⟩ : ∃ m : Nat, r0 = m := ⟨r0.toNat, by omega⟩
            subst hR0
            obtain ⟨R1, hR1⟩ : ∃ m : Nat, r1 = m := ⟨r1.toNat, by omega⟩
            subst hR1
            obtain ⟨R2, hR2⟩ : ∃ m : Nat, r2 = m := ⟨r2.toNat, by omega⟩
            subst hR2
            obtain ⟨R3, hR3⟩ : ∃ m : Nat, r3 = m := ⟨r3.toNat, by omega⟩
            subst hR3
            obtain ⟨xb, xo, hxa⟩ := HX.out.at (by omega)
            subst hxa
            obtain ⟨yb, yo, hya⟩ := HY.out.at (by omega)
            subst hya
            have hRW : (R2 : Int) - (R0 : Int) = (wd : Int) := by omega
            have hRN : R2 - R0 = wd := by omega
            have hRH : (R3 : Int) - (R1 : Int) = (ht : Int) := by omega
            have hRM : R3 - R1 = ht := by omega
            have wwd : IntKind.i64.wrap (wd : Int) = wd := IntWalk.i64_in _ (by omega)
            have wht : IntKind.i64.wrap (ht : Int) = ht := IntWalk.i64_in _ (by omega)
            have ycx : (ym : Int) ≤ yc := by have := HY.out.nc; omega
            have ycy : (yc : Int) ≤ 9223372036854775807 := by have := HY.out.cap; omega
            obtain ⟨FR, hFR⟩ : ∃ FR : Int → List Int, rzRow w h zs p f xs shift R0 wd = FR := ⟨_, rfl⟩
            have HFR := hid hFR
            have HFL := hid (show ∀ k, (FR k).length = wd from fun k => by rw [← hFR]; exact rzRow_len _ _ _ _ _ _ _ _ _ _)
            clear hFR
            go_upto_region 10 with fail
            obtain ⟨DM, hDM⟩ : ∃ D, w60.heap.size = D := ⟨_, rfl⟩
            have hmm := @run_makeMap Try.prog
            go_upto_region 11 with fail
            clear hmm
            have H63 := hid (show St B W [.blk DM (.map #[] 0), .cells D19 #[.int .i64 w, .int .i64 h, .int .i64 mx] 24, .cells (B + 1 + 1 + 1 + 1 + 1) #[.int .i64 0, .int .i64 0, .int .i64 0, .slice none 0 0] 40, .cells (B + 1 + 1 + 1 + 1) #[.int .i64 (R0 : Int), .int .i64 (R1 : Int), .int .i64 (R2 : Int), .int .i64 (R3 : Int)] 38, .cells (B + 1 + 1 + 1) #[.int .i64 shift] 3, .cells (B + 1 + 1) #[.slice (some ⟨xb, xo, none⟩) xm xc] 25, .cells (B + 1) #[.int .i64 p, .int .i64 f] 43, .cells B #[.int .i64 w, .int .i64 h, .int .i64 mx, .slice a n c] 40] [] (w60.alloc (.map #[] 0)) from H61.out.newBlk (.map #[] 0) hDM)
            clear hDM
            first | refine gen_code H63.out ?_ | refine gen_list H63.out ?_
            intro w64 hG
            clear H63
            have H63 := hid hG
            clear hG
            obtain ⟨D65, hD65⟩ : ∃ D, w64.heap.size = D := ⟨_, rfl⟩
            have z66 := H63.out.cell 3 rfl 0 rfl
            have z67 := H63.out.cell 3 rfl 1 rfl
            have z68 := H63.out.cell 3 rfl 2 rfl
            have z69 := H63.out.cell 3 rfl 3 rfl
            go_upto_region 12 with fail
            clear z66 z67 z68 z69
            have H70 := hid (show St B W [.cells D65 #[.int .i64 wd, .int .i64 ht, .int .i64 out, .slice none 0 0] 40, .blk DM (.map #[] 0), .cells D19 #[.int .i64 w, .int .i64 h, .int .i64 mx] 24, .cells (B + 1 + 1 + 1 + 1 + 1) #[.int .i64 0, .int .i64 0, .int .i64 0, .slice none 0 0] 40, .cells (B + 1 + 1 + 1 + 1) #[.int .i64 (R0 : Int), .int .i64 (R1 : Int), .int .i64 (R2 : Int), .int .i64 (R3 : Int)] 38, .cells (B + 1 + 1 + 1) #[.int .i64 shift] 3, .cells (B + 1 + 1) #[.slice (some ⟨xb, xo, none⟩) xm xc] 25, .cells (B + 1) #[.int .i64 p, .int .i64 f] 43, .cells B #[.int .i64 w, .int .i64 h, .int .i64 mx, .slice a n c] 40] [] (w64.alloc (.cells #[.int .i64 wd, .int .i64 ht, .int .i64 out, .slice none 0 0] 40)) from (H63.out.alloc #[.int .i64 wd, .int .i64 ht, .int .i64 out, .slice none 0 0] 40 hD65))
            first | refine gen_code H70.out ?_ | refine gen_list H70.out ?_ | refine gen_calls H70.out ?_
            intro w71 hG
            clear H70
            have H70 := hid hG
            clear hG
            clear hD65
            have z72 := H70.out.cell 4 rfl 0 rfl
            have z73 := H70.out.cell 4 rfl 1 rfl
            have z74 := H70.out.cell 4 rfl 2 rfl
            have z75 := H70.out.cell 4 rfl 3 rfl
            go_wp2_with fail
            clear z72 z73 z74 z75
            have H76 := hid (show St B W [.own (.slice none 0 0) ([]), .cells D65 #[.int .i64 wd, .int .i64 ht, .int .i64 out, .slice none 0 0] 40, .blk DM (.map #[] 0), .cells D19 #[.int .i64 w, .int .i64 h, .int .i64 mx] 24, .cells (B + 1 + 1 + 1 + 1 + 1) #[.int .i64 0, .int .i64 0, .int .i64 0, .slice none 0 0] 40, .cells (B + 1 + 1 + 1 + 1) #[.int .i64 (R0 : Int), .int .i64 (R1 : Int), .int .i64 (R2 : Int), .int .i64 (R3 : Int)] 38, .cells (B + 1 + 1 + 1) #[.int .i64 shift] 3, .cells (B + 1 + 1) #[.slice (some ⟨xb, xo, none⟩) xm xc] 25, .cells (B + 1) #[.int .i64 p, .int .i64 f] 43, .cells B #[.int .i64 w, .int .i64 h, .int .i64 mx, .slice a n c] 40] [] w71 from H70.out.grow (Below.refl _ _) (Own.nil _ _))
            go_loopw [96] (fun i wr => ∃ (k ln cp cl : Nat) (pa : Option Addr) (G9 : Int → Value) (es : Array MapEntry) (rs : List Ro), k ≤ ht ∧ i = .int .i64 k ∧ ln = k * wd ∧ Mp Try.prog 3 G9 (8 * k) es cl ∧ GOk rs FR G9 ∧ St B W [.own (.slice pa ln cp) (gridL F wd k 0), .blk DM (.map es cl), .cells D65 #[.int .i64 wd, .int .i64 ht, .int .i64 out, .slice pa ln cp] 40, .cells D19 #[.int .i64 w, .int .i64 h, .int .i64 mx] 24, .cells (B + 1 + 1 + 1 + 1 + 1) #[.int .i64 0, .int .i64 0, .int .i64 0, .slice none 0 0] 40, .cells (B + 1 + 1 + 1 + 1) #[.int .i64 (R0 : Int), .int .i64 (R1 : Int), .int .i64 (R2 : Int), .int .i64 (R3 : Int)] 38, .cells (B + 1 + 1 + 1) #[.int .i64 shift] 3, .cells (B + 1 + 1) #[.slice (some ⟨xb, xo, none⟩) xm xc] 25, .cells (B + 1) #[.int .i64 p, .int .i64 f] 43, .cells B #[.int .i64 w, .int .i64 h, .int .i64 mx, .slice a n c] 40] rs wr) (fun i _ => ht - (intOf i).toNat)
            case atStart => exact ⟨0, 0, 0, 0, none, _, _, [], by omega, rfl, by omega, (Mp.empty _ _).mono (by omega), GOk.empty _ _, H76.out.pick [0, 2, 1, 3, 4, 5, 6, 7, 8, 9] rfl (by decide)⟩
            case round =>
              obtain ⟨k, ln, cp, cl, pa, G9, es, rs, hk, rfl, hln, hmp, hgo, hst⟩ := hrel
              obtain ⟨u77, rfl⟩ : ∃ u77 : World, u77 = wr := ⟨_, rfl⟩
              have H78 := hid hst
              clear hst
              have HLN := hid hln
              have HMP := hid hmp
              have HGO := hid hgo
              clear hln hmp hgo
              by_cases hkn : k < ht
              · skip
                have hkn' : (k : Int) < ht := by omega
                obtain ⟨V, hV⟩ : ∃ V, R1 + k = V := ⟨_, rfl⟩
                have hVy : V < ym := by omega
                have hyx : V < ym := by omega
                have hyx' : (V : Int) < ym := by omega
                obtain ⟨yta, ytn, ytc, e1, e2, e3⟩ := HY.out.row (i := V) hyx
                have ht1 := HTY.out V hyx
                obtain ⟨p9, hp⟩ : ∃ p9, ys.getD V (0, []) = p9 := ⟨_, rfl⟩
                obtain ⟨yk, us⟩ := p9
                rw [hp] at e1 e3 ht1
                simp only at e1 e3 ht1
                have hl1 := e3.len
                rw [hl1] at ht1
                obtain ⟨yt1, yt2, yw1, yk1, yk2⟩ := ht1
                obtain ⟨ywb, ywo, hyta⟩ := row_at e3.row (by omega)
                subst hyta
                have HE1y := hid e1
                have HE2y := hid e2
                have HSLy := hid e3
                have HWLy := hid hl1
                have HWAy := hid yw1
                have ytnm : (ytn : Int) ≤ 8 := by omega
                have HPy := hid hp
                clear e1 e2 e3 hp hl1 yw1
                have HVV := hid hV
                have hya : yo + R1 * 2 + k * 2 = yo + V * 2 := by omega
                have hya2 : yo + R1 * 2 + k * 2 + 1 = yo + V * 2 + 1 := by omega
                have f1y := H78.out.oldCell HE1y.out
                have f2y := H78.out.oldCell HE2y.out
                rw [← hya] at f1y
                rw [← hya2] at f2y
                clear hV hya hya2
                obtain ⟨SF, hSF⟩ : ∃ SF : Nat → Nat → Int, (fun (u m : Nat) => rzS w h zs p f (xs.getD (R0 + u) (0, [])) (yk, us) shift m) = SF := ⟨_, rfl⟩
                have HSF := hid (show ∀ u m : Nat, rzS w h zs p f (xs.getD (R0 + u) (0, [])) (yk, us) shift m = SF u m from fun u m => by rw [← hSF])
                clear hSF
                obtain ⟨D79, hD79⟩ : ∃ D, u77.heap.size = D := ⟨_, rfl⟩
                go_upto_region 15 with fail
                have H80 := hid (show St B W [.cells D79 #[.int .i64 yk, .slice (some ⟨ywb, ywo, none⟩) ytn ytc] 32, .own (.slice pa ln cp) (gridL F wd k 0), .blk DM (.map es cl), .cells D65 #[.int .i64 wd, .int .i64 ht, .int .i64 out, .slice pa ln cp] 40, .cells D19 #[.int .i64 w, .int .i64 h, .int .i64 mx] 24, .cells (B + 1 + 1 + 1 + 1 + 1) #[.int .i64 0, .int .i64 0, .int .i64 0, .slice none 0 0] 40, .cells (B + 1 + 1 + 1 + 1) #[.int .i64 (R0 : Int), .int .i64 (R1 : Int), .int .i64 (R2 : Int), .int .i64 (R3 : Int)] 38, .cells (B + 1 + 1 + 1) #[.int .i64 shift] 3, .cells (B + 1 + 1) #[.slice (some ⟨xb, xo, none⟩) xm xc] 25, .cells (B + 1) #[.int .i64 p, .int .i64 f] 43, .cells B #[.int .i64 w, .int .i64 h, .int .i64 mx, .slice a n c] 40] rs (u77.alloc (.cells #[.int .i64 yk, .slice (some ⟨ywb, ywo, none⟩) ytn ytc] 32)) from (H78.out.alloc #[.int .i64 yk, .slice (some ⟨ywb, ywo, none⟩) ytn ytc] 32 hD79))
                first | refine gen_code H80.out ?_ | refine gen_list H80.out ?_ | refine gen_calls H80.out ?_
                intro w81 hG
                clear H80
                have H80 := hid hG
                clear hG
                clear hD79
                try clear f1y f2y
                try clear f1y f2y
                obtain ⟨DS, hDS⟩ : ∃ L, w81.heap.size = L := ⟨_, rfl⟩
                have hBDS : B ≤ DS := by have := H80.out.size; omega
                have z84 := H80.out.cell 3 rfl 0 rfl
                have z85 := H80.out.cell 3 rfl 1 rfl
                have z86 := H80.out.cell 3 rfl 2 rfl
                have z87 := H80.out.cell 3 rfl 3 rfl
                go_upto_region 16 with (at_make; refine make_int rfl _ _ rfl DS _ _ wd rfl rfl (by first | rfl | omega) (by first | rfl | omega) (by omega) (by omega) ?_; intro w82 ho hb; rw [hDS] at ho ⊢; have H83 := hid (H80.out.made hDS ho hb); clear ho hb hDS)
                clear z84 z85 z86 z87
                have z88 := H83.out.cell 1 rfl 0 rfl
                have z89 := H83.out.cell 1 rfl 1 rfl
                go_wp2_with fail
                clear z88 z89
                have HSZ := hid (show ∀ u, SF u 0 = 0 from fun u => by rw [← HSF.out]; rfl)
                go_loopw [106] (fun i wr => ∃ (m cl : Nat) (G9 : Int → Value) (es : Array MapEntry) (rs : List Ro), m ≤ ytn ∧ i = .int .i64 m ∧ Mp Try.prog 3 G9 (8 * k + m) es cl ∧ GOk rs FR G9 ∧ St B W [.own (.slice (some ⟨DS, 0, none⟩) wd wd) (smL SF wd m 0), .cells D79 #[.int .i64 yk, .slice (some ⟨ywb, ywo, none⟩) ytn ytc] 32, .own (.slice pa ln cp) (gridL F wd k 0), .blk DM (.map es cl), .cells D65 #[.int .i64 wd, .int .i64 ht, .int .i64 out, .slice pa ln cp] 40, .cells D19 #[.int .i64 w, .int .i64 h, .int .i64 mx] 24, .cells (B + 1 + 1 + 1 + 1 + 1) #[.int .i64 0, .int .i64 0, .int .i64 0, .slice none 0 0] 40, .cells (B + 1 + 1 + 1 + 1) #[.int .i64 (R0 : Int), .int .i64 (R1 : Int), .int .i64 (R2 : Int), .int .i64 (R3 : Int)] 38, .cells (B + 1 + 1 + 1) #[.int .i64 shift] 3, .cells (B + 1 + 1) #[.slice (some ⟨xb, xo, none⟩) xm xc] 25, .cells (B + 1) #[.int .i64 p, .int .i64 f] 43, .cells B #[.int .i64 w, .int .i64 h, .int .i64 mx, .slice a n c] 40] rs wr) (fun i _ => ytn - (intOf i).toNat)
                case atStart => exact ⟨0, cl, G9, es, rs, by omega, rfl, HMP.out, HGO.out, by rw [← smL_zero HSZ.out]; exact H83.out⟩
                case round =>
                  obtain ⟨m, cl, G9, es, rs, hm, rfl, hmp, hgo, hst⟩ := hrel
                  obtain ⟨u90, rfl⟩ : ∃ u90 : World, u90 = wr := ⟨_, rfl⟩
                  have H91 := hid hst
                  clear hst
                  clear HMP HGO
                  have HMP := hid hmp
                  have HGO := hid hgo
                  clear hmp hgo
                  by_cases hmn : m < ytn
                  · skip
                    have hmn' : (m : Int) < ytn := by omega
                    obtain ⟨wz, hwz⟩ : ∃ xx', us.getD m 0 = xx' := ⟨_, rfl⟩
                    have hzw := hid (show -32767 ≤ wz ∧ wz ≤ 32767 from by rw [← hwz]; exact wAll_iff.1 HWAy.out _ (by have := HWLy.out; omega))
                    have HWZ := hid hwz
                    clear hwz
                    have cz := row_cell (H91.out.old HSLy.out).row (j := m) hmn
                    rw [HWZ.out] at cz
                    obtain ⟨KY, hKY⟩ : ∃ K : Int, yk + (m : Int) = K := ⟨_, rfl⟩
                    have HKY := hid hKY
                    obtain ⟨ky1, ky2⟩ : -1000 ≤ KY ∧ KY ≤ 1000 := by omega
                    have wa3 : IntKind.i64.wrap (yk + (m : Int)) = KY := by rw [hKY]; exact IntWalk.i64_in _ (by omega)
                    clear hKY
                    have z92 := H91.out.cell 1 rfl 0 rfl
                    have z93 := H91.out.cell 1 rfl 1 rfl
                    go_upto_region 20 with fail
                    clear z92 z93
                    clear cz
                    have hlk := Mp.look HMP.out (H91.out.blkAt 3 rfl) Try.underlying3 Try.underlying78 (zrow _) (k := KY) (by omega)
                    rcases HGO.out KY with hnil | ⟨⟨ra, rn, rc, rzs⟩, hr, hrv, hrz⟩
                    · skip
                      rw [hnil] at hlk
                      unfold nilV at hlk
                      clear hnil
                      go_wp2_with fail
                      clear hlk
                      refine (rzrow_any w h mx _ n c zs p f xb xo xm xc xs shift (R1 : Int) (R3 : Int) KY R0 R2 wd B (B + 1) (B + 1 + 1) (B + 1 + 1 + 1 + 1) (B + 1 + 1 + 1) u90 (H91.out.old HS.out) (H91.out.oldTps HX.out) HV.out HB.out HTX (by omega) (by omega) (by omega) (by omega) (by omega) (hid (H91.out.cell 11 rfl 0 rfl)) (hid (H91.out.cell 11 rfl 1 rfl)) (hid (H91.out.cell 11 rfl 2 rfl)) (hid (H91.out.cell 11 rfl 3 rfl)) (hid (H91.out.cell 10 rfl 0 rfl)) (hid (H91.out.cell 10 rfl 1 rfl)) (hid (H91.out.cell 9 rfl 0 rfl)) (hid (H91.out.cell 7 rfl 0 rfl)) (hid (H91.out.cell 7 rfl 1 rfl)) (hid (H91.out.cell 7 rfl 2 rfl)) (hid (H91.out.cell 7 rfl 3 rfl)) (hid (H91.out.cell 8 rfl 0 rfl))).mono ?_
                      rintro e w94 ⟨v9, rfl, ho, hb⟩
                      rw [HFR.out] at ho
                      have H95 := hid (H91.out.grow hb ho)
                      obtain ⟨ra, rc, rfl, _⟩ := ho.slc
                      rw [HFL.out] at H95 ⊢
                      clear ho hb
                      have H96 := hid (H95.out.freeze 0 rfl)
                      simp only [List.eraseIdx] at H96
                      clear H95
                      have hrs := H96.out.rof 0 rfl
                      obtain ⟨rb, ro, hra⟩ := row_at hrs.row (by omega)
                      subst hra
                      have HRS := hid hrs
                      clear hrs
                      obtain ⟨es2, cl2, hup, hmp2⟩ := HMP.out.put (H96.out.blkAt 3 rfl) Try.underlying3 Try.underlying78 (by unfold maxLen; omega) (k := KY) (by omega) (.slice (some ⟨rb, ro, none⟩) wd rc)
                      have hgo2 := HGO.out.put (k := KY) (r := ⟨some ⟨rb, ro, none⟩, wd, rc, FR KY⟩) rfl
                      obtain ⟨G2, hG2⟩ : ∃ g : Int → Value, (fun x => if x = KY then Value.slice (some ⟨rb, ro, none⟩) wd rc else G9 x) = g := ⟨_, rfl⟩
                      have HGK := hid (show G2 KY = .slice (some ⟨rb, ro, none⟩) wd rc from by rw [← hG2]; simp)
                      rw [hG2] at hmp2
                      have hgo3 : GOk (⟨some ⟨rb, ro, none⟩, wd, rc, FR KY⟩ :: rs) FR G2 := by rw [← hG2]; exact hgo2
                      have HMP2 := hid hmp2
                      have HGO2 := hid hgo3
                      clear hgo2 hgo3 hmp2 hG2
                      go_upto_region 22 with fail
                      clear hup
                      have H97 := hid (show St B W [.own (.slice (some ⟨DS, 0, none⟩) wd wd) (smL SF wd m 0), .cells D79 #[.int .i64 yk, .slice (some ⟨ywb, ywo, none⟩) ytn ytc] 32, .own (.slice pa ln cp) (gridL F wd k 0), .blk DM (.map es2 cl2), .cells D65 #[.int .i64 wd, .int .i64 ht, .int .i64 out, .slice pa ln cp] 40, .cells D19 #[.int .i64 w, .int .i64 h, .int .i64 mx] 24, .cells (B + 1 + 1 + 1 + 1 + 1) #[.int .i64 0, .int .i64 0, .int .i64 0, .slice none 0 0] 40, .cells (B + 1 + 1 + 1 + 1) #[.int .i64 (R0 : Int), .int .i64 (R1 : Int), .int .i64 (R2 : Int), .int .i64 (R3 : Int)] 38, .cells (B + 1 + 1 + 1) #[.int .i64 shift] 3, .cells (B + 1 + 1) #[.slice (some ⟨xb, xo, none⟩) xm xc] 25, .cells (B + 1) #[.int .i64 p, .int .i64 f] 43, .cells B #[.int .i64 w, .int .i64 h, .int .i64 mx, .slice a n c] 40] (⟨some ⟨rb, ro, none⟩, wd, rc, FR KY⟩ :: rs) (Go.ChangeMaps.setBlock w94 DM (.map es2 cl2)) from H96.out.setBlk 3 rfl (.map es2 cl2))
                      clear H96
                      generalize Go.ChangeMaps.setBlock w94 _ _ = w98 at *
                      have hlk := Mp.look HMP2.out (H97.out.blkAt 3 rfl) Try.underlying3 Try.underlying78 (zrow _) (k := KY) (by omega)
                      rw [HGK.out] at hlk
                      go_wp2_with fail
                      clear hlk
                      go_loopw [128] (fun i wr => ∃ u : Nat, u ≤ wd ∧ i = .int .i64 u ∧ St B W [.own (.slice (some ⟨DS, 0, none⟩) wd wd) (smL SF wd m u), .cells D79 #[.int .i64 yk, .slice (some ⟨ywb, ywo, none⟩) ytn ytc] 32, .own (.slice pa ln cp) (gridL F wd k 0), .blk DM (.map es2 cl2), .cells D65 #[.int .i64 wd, .int .i64 ht, .int .i64 out, .slice pa ln cp] 40, .cells D19 #[.int .i64 w, .int .i64 h, .int .i64 mx] 24, .cells (B + 1 + 1 + 1 + 1 + 1) #[.int .i64 0, .int .i64 0, .int .i64 0, .slice none 0 0] 40, .cells (B + 1 + 1 + 1 + 1) #[.int .i64 (R0 : Int), .int .i64 (R1 : Int), .int .i64 (R2 : Int), .int .i64 (R3 : Int)] 38, .cells (B + 1 + 1 + 1) #[.int .i64 shift] 3, .cells (B + 1 + 1) #[.slice (some ⟨xb, xo, none⟩) xm xc] 25, .cells (B + 1) #[.int .i64 p, .int .i64 f] 43, .cells B #[.int .i64 w, .int .i64 h, .int .i64 mx, .slice a n c] 40] (⟨some ⟨rb, ro, none⟩, wd, rc, FR KY⟩ :: rs) wr) (fun i _ => wd - (intOf i).toNat)
                      case atStart => exact ⟨0, by omega, rfl, H97.out⟩
                      case round =>
                        obtain ⟨u, hu, rfl, hst⟩ := hrel
                        obtain ⟨u99, rfl⟩ : ∃ u99 : World, u99 = wr := ⟨_, rfl⟩
                        have H100 := hid hst
                        clear hst
                        by_cases huw : u < wd
                        · skip
                          have huw' : (u : Int) < wd := by omega
                          have hrx := H100.out.rof 0 rfl
                          have cg := row_cell hrx.row (j := u) huw
                          clear hrx
                          rw [← HFR.out, rzRow_get _ _ _ _ _ _ _ _ huw] at cg
                          obtain ⟨gz, hgz⟩ : ∃ xx', rzM w h zs p f (xs.getD (R0 + u) (0, [])) shift KY = xx' := ⟨_, rfl⟩
                          rw [hgz] at cg
                          have HGZ := hid hgz
                          obtain ⟨gz1, gz2⟩ : -17592186044416 ≤ gz ∧ gz ≤ 17592186044416 := by rw [← hgz, rzM_eq]; exact shV_bd _ _
                          clear hgz
                          obtain ⟨s1, s2⟩ := H100.out.get 0 rfl (j := u) (by rw [smL_len]; exact huw)
                          rw [smL_get SF huw] at s1
                          obtain ⟨S2, hS2⟩ : ∃ xx', SF u m = xx' := ⟨_, rfl⟩
                          rw [hS2] at s1
                          have HS2 := hid hS2
                          clear hS2
                          obtain ⟨S2a, S2b⟩ : -5187988441056411648 ≤ S2 ∧ S2 ≤ 5187988441056411648 := by rw [← HS2.out, ← HSF.out]; exact rzS_bd w h zs p f _ (ty := (yk, us)) HWAy.out shift (n := m) (show m ≤ us.length by rw [HWLy.out]; omega) (show us.length ≤ 8 by rw [HWLy.out]; exact yt2)
                          have hsb := rzS_bd w h zs p f (xs.getD (R0 + u) (0, [])) (ty := (yk, us)) HWAy.out shift (n := m + 1) (show m + 1 ≤ us.length by rw [HWLy.out]; omega) (show us.length ≤ 8 by rw [HWLy.out]; exact yt2)
                          rw [HSF.out] at hsb
                          obtain ⟨pr1, pr2⟩ := spT_bd hzw.out ⟨gz1, gz2⟩
                          have HSN0 : SF u (m + 1) = S2 + wz * gz := by rw [← HS2.out, ← HSF.out, ← HSF.out, ← HGZ.out, ← HKY.out]; show _ + us.getD m 0 * _ = _; rw [HWZ.out]; rfl
                          obtain ⟨PR, hPR⟩ : ∃ xx', wz * gz = xx' := ⟨_, rfl⟩
                          rw [hPR] at pr1 pr2 HSN0
                          rw [HSN0] at hsb
                          have w8 : IntKind.i64.wrap PR = PR := IntWalk.i64_in _ (by omega)
                          have w9 : IntKind.i64.wrap (S2 + PR) = S2 + PR := IntWalk.i64_in _ (by omega)
                          have HNX := hid (smL_next SF huw HSN0)
                          clear hsb HSN0
                          go_upto_region 26 with fail
                          have H101 := hid (show St B W [.own (.slice (some ⟨DS, 0, none⟩) wd wd) ((smL SF wd m u).set u (S2 + PR)), .cells D79 #[.int .i64 yk, .slice (some ⟨ywb, ywo, none⟩) ytn ytc] 32, .own (.slice pa ln cp) (gridL F wd k 0), .blk DM (.map es2 cl2), .cells D65 #[.int .i64 wd, .int .i64 ht, .int .i64 out, .slice pa ln cp] 40, .cells D19 #[.int .i64 w, .int .i64 h, .int .i64 mx] 24, .cells (B + 1 + 1 + 1 + 1 + 1) #[.int .i64 0, .int .i64 0, .int .i64 0, .slice none 0 0] 40, .cells (B + 1 + 1 + 1 + 1) #[.int .i64 (R0 : Int), .int .i64 (R1 : Int), .int .i64 (R2 : Int), .int .i64 (R3 : Int)] 38, .cells (B + 1 + 1 + 1) #[.int .i64 shift] 3, .cells (B + 1 + 1) #[.slice (some ⟨xb, xo, none⟩) xm xc] 25, .cells (B + 1) #[.int .i64 p, .int .i64 f] 43, .cells B #[.int .i64 w, .int .i64 h, .int .i64 mx, .slice a n c] 40] (⟨some ⟨rb, ro, none⟩, wd, rc, FR KY⟩ :: rs) (u99.setCell ⟨DS, u, none⟩ (.int .i64 (S2 + PR))) from (H100.out.store 0 rfl u (S2 + PR)))
                          first | refine gen_code H101.out ?_ | refine gen_list H101.out ?_ | refine gen_calls H101.out ?_
                          intro w102 hG
                          clear H101
                          have H101 := hid hG
                          clear hG
                          go_wp2_with fail
                          go_roundw
                          case rel => exact ⟨u + 1, by omega, by go_num, by rw [← HNX.out]; exact H101.out⟩
                          case measure => first | (simp [intOf]; omega) | (simp [intOf]; done)
                        · skip
                          have huw' : ¬ ((u : Int) < wd) := by omega
                          have Hhuw := hid (show u = wd by omega)
                          go_wp2_with fail
                          go_roundw
                          case rel => exact ⟨m + 1, cl2, G2, es2, (⟨some ⟨rb, ro, none⟩, wd, rc, FR KY⟩ :: rs), by omega, by go_num, by rw [show 8 * k + (m + 1) = 8 * k + m + 1 by omega]; exact HMP2.out, HGO2.out, by rw [← smL_row]; have h9 := H100.out; rw [Hhuw.out] at h9; exact h9.pick [0, 1, 2, 3, 4, 5, 6, 7, 8, 9, 10, 11] rfl (by decide)⟩
                          case measure => first | (simp [intOf]; omega) | (simp [intOf]; done)
                    · skip
                      have hrs := (H91.out.roMem hr).1
                      simp only at hrs hrz hrv
                      subst hrz
                      have hrl := hrs.len
                      rw [HFL.out] at hrl
                      subst hrl
                      obtain ⟨rb, ro, hra⟩ := row_at hrs.row (by omega)
                      subst hra
                      have HRS := hid hrs
                      have HGK := hid (show G9 KY = .slice (some ⟨rb, ro, none⟩) wd rc from hrv)
                      rw [HGK.out] at hlk
                      have HRI := hid hr
                      clear hrs hrv hr
                      go_upto_region 22 with fail
                      clear hlk
                      have hlk := Mp.look HMP.out (H91.out.blkAt 3 rfl) Try.underlying3 Try.underlying78 (zrow _) (k := KY) (by omega)
                      rw [HGK.out] at hlk
                      go_wp2_with fail
                      clear hlk
                      go_loopw [128] (fun i wr => ∃ u : Nat, u ≤ wd ∧ i = .int .i64 u ∧ St B W [.own (.slice (some ⟨DS, 0, none⟩) wd wd) (smL SF wd m u), .cells D79 #[.int .i64 yk, .slice (some ⟨ywb, ywo, none⟩) ytn ytc] 32, .own (.slice pa ln cp) (gridL F wd k 0), .blk DM (.map es cl), .cells D65 #[.int .i64 wd, .int .i64 ht, .int .i64 out, .slice pa ln cp] 40, .cells D19 #[.int .i64 w, .int .i64 h, .int .i64 mx] 24, .cells (B + 1 + 1 + 1 + 1 + 1) #[.int .i64 0, .int .i64 0, .int .i64 0, .slice none 0 0] 40, .cells (B + 1 + 1 + 1 + 1) #[.int .i64 (R0 : Int), .int .i64 (R1 : Int), .int .i64 (R2 : Int), .int .i64 (R3 : Int)] 38, .cells (B + 1 + 1 + 1) #[.int .i64 shift] 3, .cells (B + 1 + 1) #[.slice (some ⟨xb, xo, none⟩) xm xc] 25, .cells (B + 1) #[.int .i64 p, .int .i64 f] 43, .cells B #[.int .i64 w, .int .i64 h, .int .i64 mx, .slice a n c] 40] rs wr) (fun i _ => wd - (intOf i).toNat)
                      case atStart => exact ⟨0, by omega, rfl, H91.out⟩
                      case round =>
                        obtain ⟨u, hu, rfl, hst⟩ := hrel
                        obtain ⟨u103, rfl⟩ : ∃ u103 : World, u103 = wr := ⟨_, rfl⟩
                        have H104 := hid hst
                        clear hst
                        by_cases huw : u < wd
                        · skip
                          have huw' : (u : Int) < wd := by omega
                          have hrx := (H104.out.roMem HRI.out).1
                          simp only at hrx
                          have cg := row_cell hrx.row (j := u) huw
                          clear hrx
                          rw [← HFR.out, rzRow_get _ _ _ _ _ _ _ _ huw] at cg
                          obtain ⟨gz, hgz⟩ : ∃ xx', rzM w h zs p f (xs.getD (R0 + u) (0, [])) shift KY = xx' := ⟨_, rfl⟩
                          rw [hgz] at cg
                          have HGZ := hid hgz
                          obtain ⟨gz1, gz2⟩ : -17592186044416 ≤ gz ∧ gz ≤ 17592186044416 := by rw [← hgz, rzM_eq]; exact shV_bd _ _
                          clear hgz
                          obtain ⟨s1, s2⟩ := H104.out.get 0 rfl (j := u) (by rw [smL_len]; exact huw)
                          rw [smL_get SF huw] at s1
                          obtain ⟨S2, hS2⟩ : ∃ xx', SF u m = xx' := ⟨_, rfl⟩
                          rw [hS2] at s1
                          have HS2 := hid hS2
                          clear hS2
                          obtain ⟨S2a, S2b⟩ : -5187988441056411648 ≤ S2 ∧ S2 ≤ 5187988441056411648 := by rw [← HS2.out, ← HSF.out]; exact rzS_bd w h zs p f _ (ty := (yk, us)) HWAy.out shift (n := m) (show m ≤ us.length by rw [HWLy.out]; omega) (show us.length ≤ 8 by rw [HWLy.out]; exact yt2)
                          have hsb := rzS_bd w h zs p f (xs.getD (R0 + u) (0, [])) (ty := (yk, us)) HWAy.out shift (n := m + 1) (show m + 1 ≤ us.length by rw [HWLy.out]; omega) (show us.length ≤ 8 by rw [HWLy.out]; exact yt2)
                          rw [HSF.out] at hsb
                          obtain ⟨pr1, pr2⟩ := spT_bd hzw.out ⟨gz1, gz2⟩
                          have HSN0 : SF u (m + 1) = S2 + wz * gz := by rw [← HS2.out, ← HSF.out, ← HSF.out, ← HGZ.out, ← HKY.out]; show _ + us.getD m 0 * _ = _; rw [HWZ.out]; rfl
                          obtain ⟨PR, hPR⟩ : ∃ xx', wz * gz = xx' := ⟨_, rfl⟩
                          rw [hPR] at pr1 pr2 HSN0
                          rw [HSN0] at hsb
                          have w8 : IntKind.i64.wrap PR = PR := IntWalk.i64_in _ (by omega)
                          have w9 : IntKind.i64.wrap (S2 + PR) = S2 + PR := IntWalk.i64_in _ (by omega)
                          have HNX := hid (smL_next SF huw HSN0)
                          clear hsb HSN0
                          go_upto_region 26 with fail
                          have H105 := hid (show St B W [.own (.slice (some ⟨DS, 0, none⟩) wd wd) ((smL SF wd m u).set u (S2 + PR)), .cells D79 #[.int .i64 yk, .slice (some ⟨ywb, ywo, none⟩) ytn ytc] 32, .own (.slice pa ln cp) (gridL F wd k 0), .blk DM (.map es cl), .cells D65 #[.int .i64 wd, .int .i64 ht, .int .i64 out, .slice pa ln cp] 40, .cells D19 #[.int .i64 w, .int .i64 h, .int .i64 mx] 24, .cells (B + 1 + 1 + 1 + 1 + 1) #[.int .i64 0, .int .i64 0, .int .i64 0, .slice none 0 0] 40, .cells (B + 1 + 1 + 1 + 1) #[.int .i64 (R0 : Int), .int .i64 (R1 : Int), .int .i64 (R2 : Int), .int .i64 (R3 : Int)] 38, .cells (B + 1 + 1 + 1) #[.int .i64 shift] 3, .cells (B + 1 + 1) #[.slice (some ⟨xb, xo, none⟩) xm xc] 25, .cells (B + 1) #[.int .i64 p, .int .i64 f] 43, .cells B #[.int .i64 w, .int .i64 h, .int .i64 mx, .slice a n c] 40] rs (u103.setCell ⟨DS, u, none⟩ (.int .i64 (S2 + PR))) from (H104.out.store 0 rfl u (S2 + PR)))
                          first | refine gen_code H105.out ?_ | refine gen_list H105.out ?_ | refine gen_calls H105.out ?_
                          intro w106 hG
                          clear H105
                          have H105 := hid hG
                          clear hG
                          go_wp2_with fail
                          go_roundw
                          case rel => exact ⟨u + 1, by omega, by go_num, by rw [← HNX.out]; exact H105.out⟩
                          case measure => first | (simp [intOf]; omega) | (simp [intOf]; done)
                        · skip
                          have huw' : ¬ ((u : Int) < wd) := by omega
                          have Hhuw := hid (show u = wd by omega)
                          go_wp2_with fail
                          go_roundw
                          case rel => exact ⟨m + 1, cl, G9, es, rs, by omega, by go_num, by rw [show 8 * k + (m + 1) = 8 * k + m + 1 by omega]; exact HMP.out.mono (by omega), HGO.out, by rw [← smL_row]; have h9 := H104.out; rw [Hhuw.out] at h9; exact h9.pick [0, 1, 2, 3, 4, 5, 6, 7, 8, 9, 10, 11] rfl (by decide)⟩
                          case measure => first | (simp [intOf]; omega) | (simp [intOf]; done)
                  · skip
                    have hmn' : ¬ ((m : Int) < ytn) := by omega
                    have HMN := hid (show m = ytn by omega)
                    go_wp2_with fail
                    go_loopw [146] (fun i wr => ∃ (j ln cp : Nat) (pa : Option Addr), j ≤ wd ∧ i = .int .i64 j ∧ ln = k * wd + j ∧ St B W [.own (.slice (some ⟨DS, 0, none⟩) wd wd) (smL SF wd m 0), .cells D79 #[.int .i64 yk, .slice (some ⟨ywb, ywo, none⟩) ytn ytc] 32, .own (.slice pa ln cp) (gridL F wd k j), .blk DM (.map es cl), .cells D65 #[.int .i64 wd, .int .i64 ht, .int .i64 out, .slice pa ln cp] 40, .cells D19 #[.int .i64 w, .int .i64 h, .int .i64 mx] 24, .cells (B + 1 + 1 + 1 + 1 + 1) #[.int .i64 0, .int .i64 0, .int .i64 0, .slice none 0 0] 40, .cells (B + 1 + 1 + 1 + 1) #[.int .i64 (R0 : Int), .int .i64 (R1 : Int), .int .i64 (R2 : Int), .int .i64 (R3 : Int)] 38, .cells (B + 1 + 1 + 1) #[.int .i64 shift] 3, .cells (B + 1 + 1) #[.slice (some ⟨xb, xo, none⟩) xm xc] 25, .cells (B + 1) #[.int .i64 p, .int .i64 f] 43, .cells B #[.int .i64 w, .int .i64 h, .int .i64 mx, .slice a n c] 40] rs wr) (fun i _ => wd - (intOf i).toNat)
                    case atStart => exact ⟨0, ln, cp, pa, by omega, rfl, by rw [HLN.out]; rfl, H91.out⟩
                    case round =>
                      obtain ⟨j, ln, cp, pa, hj, rfl, hln, hst⟩ := hrel
                      obtain ⟨u107, rfl⟩ : ∃ u107 : World, u107 = wr := ⟨_, rfl⟩
                      have H108 := hid hst
                      clear hst
                      clear HLN
                      have HLN := hid hln
                      clear hln
                      by_cases hjw : j < wd
                      · skip
                        have hjw' : (j : Int) < wd := by omega
                        have cs := (H108.out.get 0 rfl (j := j) (by rw [smL_len]; exact hjw)).1
                        rw [smL_get0 SF hjw] at cs
                        obtain ⟨S2, hS2⟩ : ∃ xx', SF j m = xx' := ⟨_, rfl⟩
                        rw [hS2] at cs
                        have HS2 := hid hS2
                        clear hS2
                        go_upto_region 31 with fail
                        try clear cs
                        have HFX := hid (show clV (shV S2 shift2) out = F k j from by rw [← HFV.out]; unfold rzP; rw [show ((R0 : Int) + (j : Int)).toNat = R0 + j by omega, show ((R1 : Int) + (k : Int)).toNat = V by have := HVV.out; omega, HPy.out]; show _ = clV (shV (rzS w h zs p f _ (yk, us) shift us.length) shift2) out; rw [HSF.out, HWLy.out, ← HMN.out, HS2.out])
                        obtain ⟨fv, hfv⟩ : ∃ z, F k j = z := ⟨_, rfl⟩
                        rw [hfv] at HFX
                        have HGN := hid (show gridL F wd k j ++ [fv] = gridL F wd k (j + 1) from by rw [gridL_next, hfv])
                        clear hfv
                        have HLEN9 := hid (show (gridL F wd k (j + 1)).length = ln + 1 by rw [gridL_len, HLN.out]; omega)
                        have hln5 : ln ≤ 32768 := by have := HLN.out; have := Nat.mul_le_mul (show k ≤ 128 by omega) (show wd ≤ 128 by omega); omega
                        go_upto_region 31 with fail
                        have H109 := hid H108.out.drew
                        refine wp_region_held_drew (S := (fun w' => w'.cell? ⟨D65, 0, none⟩ = some (.int .i64 wd) ∧ w'.cell? ⟨D65, 1, none⟩ = some (.int .i64 ht) ∧ w'.cell? ⟨D65, 2, none⟩ = some (.int .i64 out))) (by kernel_rfl) ⟨H109.out.cell 4 rfl 0 rfl, H109.out.cell 4 rfl 1 rfl, H109.out.cell 4 rfl 2 rfl⟩ (fun hHeld => ?_)
                        generalize u107.drew = k110 at *
                        refine wpAnyH_take (i := 0) (oi := _) (v := ?_) rfl (by kernel_rfl) (by kernel_rfl) (by kernel_rfl) (fun _ _ _ h => h) (Or.inl ⟨by rfl, ?_⟩) (by assumption) ?_
                        rotate_left
                        focus (intro wS hSw; (try dsimp only at hSw); go_simp; (try with_reducible rfl))
                        try simp only [Act.put, List.getElem_toArray, List.getElem_cons_zero, List.getElem_cons_succ, List.setIfInBounds_toArray, List.set_cons_zero, List.set_cons_succ]
                        refine wpAnyH_take (i := 2) (oi := _) (v := ?_) rfl (by kernel_rfl) (by kernel_rfl) (by kernel_rfl) (fun _ _ _ h => h) (Or.inl ⟨by rfl, ?_⟩) (by assumption) ?_
                        rotate_left
                        focus (intro wS hSw; (try dsimp only at hSw); go_simp; (try with_reducible rfl))
                        try simp only [Act.put, List.getElem_toArray, List.getElem_cons_zero, List.getElem_cons_succ, List.setIfInBounds_toArray, List.set_cons_zero, List.set_cons_succ]
                        refine wpAnyH_take (i := 3) (oi := _) (v := ?_) rfl (by kernel_rfl) (by kernel_rfl) (by kernel_rfl) (fun _ _ _ h => h) (Or.inl ⟨by rfl, ?_⟩) (by assumption) ?_
                        rotate_left
                        focus (intro wS hSw; (try dsimp only at hSw); go_simp; (try with_reducible rfl))
                        try simp only [Act.put, List.getElem_toArray, List.getElem_cons_zero, List.getElem_cons_succ, List.setIfInBounds_toArray, List.set_cons_zero, List.set_cons_succ]
                        refine wpAnyH_take (i := 5) (oi := _) (v := ?_) rfl (by kernel_rfl) (by kernel_rfl) (by kernel_rfl) (fun _ _ _ h => h) (Or.inl ⟨by rfl, ?_⟩) (by assumption) ?_
                        rotate_left
                        focus (intro wS hSw; (try dsimp only at hSw); go_simp; (try with_reducible rfl))
                        try simp only [Act.put, List.getElem_toArray, List.getElem_cons_zero, List.getElem_cons_succ, List.setIfInBounds_toArray, List.set_cons_zero, List.set_cons_succ]
                        refine wpAnyH_ready (rs := [1, 4]) (by kernel_rfl) (by simp) (AllReadyH.cons (o := _) rfl (fun K hK => ?_) (AllReadyH.cons (o := _) rfl (fun K hK => ?_) AllReadyH.nil))
                        · have g111 := H109.out.cell 4 rfl 3 rfl
                          go_simp
                          refine hK.out _ _ ?_ (fun hHeld2 => ?_)
                          focus ((try dsimp only); (try exact hHeld))
                          clear hK K
                          try simp only [Act.put, List.getElem_toArray, List.getElem_cons_zero, List.getElem_cons_succ, List.setIfInBounds_toArray, List.set_cons_zero, List.set_cons_succ]
                          clear hHeld2 g111
                          refine wpAnyH_ready (rs := [4]) (by kernel_rfl) (by simp) (AllReadyH.cons (o := _) rfl (fun K hK => ?_) AllReadyH.nil)
                          go_simp
                          go_at_call 44
                          refine (fshift_any _ _ _).mono ?_
                          rintro e w112 ⟨rfl, hsw⟩
                          have hsw2 : k110 = w112 := by first | exact hsw | exact hsw.symm
                          clear hsw
                          subst hsw2
                          obtain ⟨sv113, hsv113⟩ : ∃ xx', shV S2 shift2 = xx' := ⟨_, rfl⟩
                          rw [hsv113]
                          have HNsv113 := hid hsv113
                          clear hsv113
                          refine hK.out _ _ ?_ (fun hHeld2 => ?_)
                          focus ((try dsimp only); (exact ⟨H109.out.cell 4 rfl 0 rfl, H109.out.cell 4 rfl 1 rfl, H109.out.cell 4 rfl 2 rfl⟩))
                          clear hK K
                          try simp only [Act.put, List.getElem_toArray, List.getElem_cons_zero, List.getElem_cons_succ, List.setIfInBounds_toArray, List.set_cons_zero, List.set_cons_succ]
                          clear hHeld
                          have hHeld := hHeld2
                          clear hHeld2
                          refine wpAnyH_ready (rs := [6]) (by kernel_rfl) (by simp) (AllReadyH.cons (o := _) rfl (fun K hK => ?_) AllReadyH.nil)
                          go_simp
                          go_at_call 45
                          refine (fclamp_any _ _ _).mono ?_
                          rintro e w114 ⟨rfl, hsw⟩
                          have hsw2 : k110 = w114 := by first | exact hsw | exact hsw.symm
                          clear hsw
                          subst hsw2
                          rw [show clV sv113 out = fv from by rw [← HNsv113.out]; exact HFX.out]
                          refine hK.out _ _ ?_ (fun hHeld2 => ?_)
                          focus ((try dsimp only); (exact ⟨H109.out.cell 4 rfl 0 rfl, H109.out.cell 4 rfl 1 rfl, H109.out.cell 4 rfl 2 rfl⟩))
                          clear hK K
                          try simp only [Act.put, List.getElem_toArray, List.getElem_cons_zero, List.getElem_cons_succ, List.setIfInBounds_toArray, List.set_cons_zero, List.set_cons_succ]
                          clear hHeld
                          have hHeld := hHeld2
                          clear hHeld2
                          refine wpAnyH_ready (rs := [7]) (by kernel_rfl) (by simp) (AllReadyH.cons (o := _) rfl (fun K hK => ?_) AllReadyH.nil)
                          obtain ⟨D115, hD115⟩ : ∃ D, k110.heap.size = D := ⟨_, rfl⟩
                          have H116 := hid (H109.out.alloc #[.int .i64 fv] 3 hD115)
                          go_simp
                          refine hK.out _ _ ?_ (fun hHeld2 => ?_)
                          focus ((try dsimp only); (exact ⟨H116.out.cell 5 rfl 0 rfl, H116.out.cell 5 rfl 1 rfl, H116.out.cell 5 rfl 2 rfl⟩))
                          clear hK K hHeld
                          try simp only [Act.put, List.getElem_toArray, List.getElem_cons_zero, List.getElem_cons_succ, List.setIfInBounds_toArray, List.set_cons_zero, List.set_cons_succ]
                          clear hD115
                          generalize (k110.alloc (.cells #[.int .i64 fv] 3)) = k117 at *
                          have hHeld := hHeld2
                          clear hHeld2
                          refine wpAnyH_ready (rs := [8]) (by kernel_rfl) (by simp) (AllReadyH.cons (o := _) rfl (fun K hK => ?_) AllReadyH.nil)
                          rw [if_pos (by rfl)]
                          refine oper_append_int _ _ rfl B _ (gridL F wd k j) fv D115 1 rfl rfl (H116.out.own 3 rfl) (H116.out.cell 0 rfl 0 rfl) (by first | omega | (rw [gridL_len]; omega) | (have := HLEN9.out; rw [gridL_len] at *; omega)) H116.out.size ?_
                          intro v9 k119 ho hg hv
                          have H118 := hid (H116.out.append 3 rfl ho hg hv)
                          clear hg hv
                          rw [HGN.out] at H118 ho
                          obtain ⟨g9, c9, rfl⟩ := ho.pos (by rw [HLEN9.out]; omega)
                          rw [HLEN9.out] at H118 ⊢
                          clear ho
                          refine hK.out _ _ ?_ (fun hHeld2 => ?_)
                          focus ((try dsimp only); (exact ⟨H118.out.cell 5 rfl 0 rfl, H118.out.cell 5 rfl 1 rfl, H118.out.cell 5 rfl 2 rfl⟩))
                          clear hK K
                          try simp only [Act.put, List.getElem_toArray, List.getElem_cons_zero, List.getElem_cons_succ, List.setIfInBounds_toArray, List.set_cons_zero, List.set_cons_succ]
                          clear hHeld
                          have hHeld := hHeld2
                          clear hHeld2
                          refine wpAnyH_take (i := 9) (oi := _) (v := ?_) rfl (by kernel_rfl) (by kernel_rfl) (by kernel_rfl) (fun _ _ _ h => h) (Or.inl ⟨by rfl, ?_⟩) (by assumption) ?_
                          rotate_left
                          focus (intro wS hSw; (try dsimp only at hSw); go_simp; (try with_reducible rfl))
                          try simp only [Act.put, List.getElem_toArray, List.getElem_cons_zero, List.getElem_cons_succ, List.setIfInBounds_toArray, List.set_cons_zero, List.set_cons_succ]
                          refine wpAnyH_ready (rs := [10]) (by kernel_rfl) (by simp) (AllReadyH.cons (o := _) rfl (fun K hK => ?_) AllReadyH.nil)
                          have z120 := H118.out.cell 5 rfl 0 rfl
                          have z121 := H118.out.free 5 rfl 0
                          have z122 := H118.out.cell 5 rfl 1 rfl
                          have z123 := H118.out.free 5 rfl 1
                          have z124 := H118.out.cell 5 rfl 2 rfl
                          have z125 := H118.out.free 5 rfl 2
                          have z126 := H118.out.cell 5 rfl 3 rfl
                          have z127 := H118.out.free 5 rfl 3
                          have H128 := hid (show St B W [.cells D115 #[.int .i64 fv] 3, .own (.slice (some ⟨DS, 0, none⟩) wd wd) (smL SF wd m 0), .cells D79 #[.int .i64 yk, .slice (some ⟨ywb, ywo, none⟩) ytn ytc] 32, .own (.slice (some ⟨g9, 0, none⟩) (ln + 1) c9) (gridL F wd k (j + 1)), .blk DM (.map es cl), .cells D65 #[.int .i64 wd, .int .i64 ht, .int .i64 out, .slice (some ⟨g9, 0, none⟩) (ln + 1) c9] 40, .cells D19 #[.int .i64 w, .int .i64 h, .int .i64 mx] 24, .cells (B + 1 + 1 + 1 + 1 + 1) #[.int .i64 0, .int .i64 0, .int .i64 0, .slice none 0 0] 40, .cells (B + 1 + 1 + 1 + 1) #[.int .i64 (R0 : Int), .int .i64 (R1 : Int), .int .i64 (R2 : Int), .int .i64 (R3 : Int)] 38, .cells (B + 1 + 1 + 1) #[.int .i64 shift] 3, .cells (B + 1 + 1) #[.slice (some ⟨xb, xo, none⟩) xm xc] 25, .cells (B + 1) #[.int .i64 p, .int .i64 f] 43, .cells B #[.int .i64 w, .int .i64 h, .int .i64 mx, .slice a n c] 40] rs (k119.setCell ⟨D65, 3, none⟩ (.slice (some ⟨g9, 0, none⟩) (ln + 1) c9)) from (H118.out.set 5 rfl 3 (.slice (some ⟨g9, 0, none⟩) (ln + 1) c9)))
                          go_simp
                          refine hK.out _ _ ?_ (fun hHeld2 => ?_)
                          focus ((try dsimp only); (exact ⟨H128.out.cell 5 rfl 0 rfl, H128.out.cell 5 rfl 1 rfl, H128.out.cell 5 rfl 2 rfl⟩))
                          clear hK K hHeld
                          try simp only [Act.put, List.getElem_toArray, List.getElem_cons_zero, List.getElem_cons_succ, List.setIfInBounds_toArray, List.set_cons_zero, List.set_cons_succ]
                          clear z120 z121 z122 z123 z124 z125 z126 z127
                          generalize (k119.setCell ⟨D65, 3, none⟩ (.slice (some ⟨g9, 0, none⟩) (ln + 1) c9)) = k129 at *
                          have hHeld := hHeld2
                          clear hHeld2
                          refine wpAnyH_done (by kernel_rfl) ?_ _
                          try clear hHeld
                          go_wp2_with fail
                          go_roundw
                          case rel => exact ⟨j + 1, ln + 1, c9, some ⟨g9, 0, none⟩, by omega, by go_num, by rw [HLN.out]; rfl, H128.out.pick [1, 2, 3, 4, 5, 6, 7, 8, 9, 10, 11, 12] rfl (by decide)⟩
                          case measure => first | (simp [intOf]; omega) | (simp [intOf]; done)
                        · go_simp
                          go_at_call 44
                          refine (fshift_any _ _ _).mono ?_
                          rintro e w130 ⟨rfl, hsw⟩
                          have hsw2 : k110 = w130 := by first | exact hsw | exact hsw.symm
                          clear hsw
                          subst hsw2
                          obtain ⟨sv131, hsv131⟩ : ∃ xx', shV S2 shift2 = xx' := ⟨_, rfl⟩
                          rw [hsv131]
                          have HNsv131 := hid hsv131
                          clear hsv131
                          refine hK.out _ _ ?_ (fun hHeld2 => ?_)
                          focus ((try dsimp only); (exact ⟨H109.out.cell 4 rfl 0 rfl, H109.out.cell 4 rfl 1 rfl, H109.out.cell 4 rfl 2 rfl⟩))
                          clear hK K
                          try simp only [Act.put, List.getElem_toArray, List.getElem_cons_zero, List.getElem_cons_succ, List.setIfInBounds_toArray, List.set_cons_zero, List.set_cons_succ]
                          clear hHeld
                          have hHeld := hHeld2
                          clear hHeld2
                          refine wpAnyH_ready (rs := [1, 6]) (by kernel_rfl) (by simp) (AllReadyH.cons (o := _) rfl (fun K hK => ?_) (AllReadyH.cons (o := _) rfl (fun K hK => ?_) AllReadyH.nil))
                          · have g132 := H109.out.cell 4 rfl 3 rfl
                            go_simp
                            refine hK.out _ _ ?_ (fun hHeld2 => ?_)
                            focus ((try dsimp only); (try exact hHeld))
                            clear hK K
                            try simp only [Act.put, List.getElem_toArray, List.getElem_cons_zero, List.getElem_cons_succ, List.setIfInBounds_toArray, List.set_cons_zero, List.set_cons_succ]
                            clear hHeld2 g132
                            refine wpAnyH_ready (rs := [6]) (by kernel_rfl) (by simp) (AllReadyH.cons (o := _) rfl (fun K hK => ?_) AllReadyH.nil)
                            go_simp
                            go_at_call 45
                            refine (fclamp_any _ _ _).mono ?_
                            rintro e w133 ⟨rfl, hsw⟩
                            have hsw2 : k110 = w133 := by first | exact hsw | exact hsw.symm
                            clear hsw
                            subst hsw2
                            rw [show clV sv131 out = fv from by rw [← HNsv131.out]; exact HFX.out]
                            refine hK.out _ _ ?_ (fun hHeld2 => ?_)
                            focus ((try dsimp only); (exact ⟨H109.out.cell 4 rfl 0 rfl, H109.out.cell 4 rfl 1 rfl, H109.out.cell 4 rfl 2 rfl⟩))
                            clear hK K
                            try simp only [Act.put, List.getElem_toArray, List.getElem_cons_zero, List.getElem_cons_succ, List.setIfInBounds_toArray, List.set_cons_zero, List.set_cons_succ]
                            clear hHeld
                            have hHeld := hHeld2
                            clear hHeld2
                            refine wpAnyH_ready (rs := [7]) (by kernel_rfl) (by simp) (AllReadyH.cons (o := _) rfl (fun K hK => ?_) AllReadyH.nil)
                            obtain ⟨D134, hD134⟩ : ∃ D, k110.heap.size = D := ⟨_, rfl⟩
                            have H135 := hid (H109.out.alloc #[.int .i64 fv] 3 hD134)
                            go_simp
                            refine hK.out _ _ ?_ (fun hHeld2 => ?_)
                            focus ((try dsimp only); (exact ⟨H135.out.cell 5 rfl 0 rfl, H135.out.cell 5 rfl 1 rfl, H135.out.cell 5 rfl 2 rfl⟩))
                            clear hK K hHeld
                            try simp only [Act.put, List.getElem_toArray, List.getElem_cons_zero, List.getElem_cons_succ, List.setIfInBounds_toArray, List.set_cons_zero, List.set_cons_succ]
                            clear hD134
                            generalize (k110.alloc (.cells #[.int .i64 fv] 3)) = k136 at *
                            have hHeld := hHeld2
                            clear hHeld2
                            refine wpAnyH_ready (rs := [8]) (by kernel_rfl) (by simp) (AllReadyH.cons (o := _) rfl (fun K hK => ?_) AllReadyH.nil)
                            rw [if_pos (by rfl)]
                            refine oper_append_int _ _ rfl B _ (gridL F wd k j) fv D134 1 rfl rfl (H135.out.own 3 rfl) (H135.out.cell 0 rfl 0 rfl) (by first | omega | (rw [gridL_len]; omega) | (have := HLEN9.out; rw [gridL_len] at *; omega)) H135.out.size ?_
                            intro v9 k138 ho hg hv
                            have H137 := hid (H135.out.append 3 rfl ho hg hv)
                            clear hg hv
                            rw [HGN.out] at H137 ho
                            obtain ⟨g9, c9, rfl⟩ := ho.pos (by rw [HLEN9.out]; omega)
                            rw [HLEN9.out] at H137 ⊢
                            clear ho
                            refine hK.out _ _ ?_ (fun hHeld2 => ?_)
                            focus ((try dsimp only); (exact ⟨H137.out.cell 5 rfl 0 rfl, H137.out.cell 5 rfl 1 rfl, H137.out.cell 5 rfl 2 rfl⟩))
                            clear hK K
                            try simp only [Act.put, List.getElem_toArray, List.getElem_cons_zero, List.getElem_cons_succ, List.setIfInBounds_toArray, List.set_cons_zero, List.set_cons_succ]
                            clear hHeld
                            have hHeld := hHeld2
                            clear hHeld2
                            refine wpAnyH_take (i := 9) (oi := _) (v := ?_) rfl (by kernel_rfl) (by kernel_rfl) (by kernel_rfl) (fun _ _ _ h => h) (Or.inl ⟨by rfl, ?_⟩) (by assumption) ?_
                            rotate_left
                            focus (intro wS hSw; (try dsimp only at hSw); go_simp; (try with_reducible rfl))
                            try simp only [Act.put, List.getElem_toArray, List.getElem_cons_zero, List.getElem_cons_succ, List.setIfInBounds_toArray, List.set_cons_zero, List.set_cons_succ]
                            refine wpAnyH_ready (rs := [10]) (by kernel_rfl) (by simp) (AllReadyH.cons (o := _) rfl (fun K hK => ?_) AllReadyH.nil)
                            have z139 := H137.out.cell 5 rfl 0 rfl
                            have z140 := H137.out.free 5 rfl 0
                            have z141 := H137.out.cell 5 rfl 1 rfl
                            have z142 := H137.out.free 5 rfl 1
                            have z143 := H137.out.cell 5 rfl 2 rfl
                            have z144 := H137.out.free 5 rfl 2
                            have z145 := H137.out.cell 5 rfl 3 rfl
                            have z146 := H137.out.free 5 rfl 3
                            have H147 := hid (show St B W [.cells D134 #[.int .i64 fv] 3, .own (.slice (some ⟨DS, 0, none⟩) wd wd) (smL SF wd m 0), .cells D79 #[.int .i64 yk, .slice (some ⟨ywb, ywo, none⟩) ytn ytc] 32, .own (.slice (some ⟨g9, 0, none⟩) (ln + 1) c9) (gridL F wd k (j + 1)), .blk DM (.map es cl), .cells D65 #[.int .i64 wd, .int .i64 ht, .int .i64 out, .slice (some ⟨g9, 0, none⟩) (ln + 1) c9] 40, .cells D19 #[.int .i64 w, .int .i64 h, .int .i64 mx] 24, .cells (B + 1 + 1 + 1 + 1 + 1) #[.int .i64 0, .int .i64 0, .int .i64 0, .slice none 0 0] 40, .cells (B + 1 + 1 + 1 + 1) #[.int .i64 (R0 : Int), .int .i64 (R1 : Int), .int .i64 (R2 : Int), .int .i64 (R3 : Int)] 38, .cells (B + 1 + 1 + 1) #[.int .i64 shift] 3, .cells (B + 1 + 1) #[.slice (some ⟨xb, xo, none⟩) xm xc] 25, .cells (B + 1) #[.int .i64 p, .int .i64 f] 43, .cells B #[.int .i64 w, .int .i64 h, .int .i64 mx, .slice a n c] 40] rs (k138.setCell ⟨D65, 3, none⟩ (.slice (some ⟨g9, 0, none⟩) (ln + 1) c9)) from (H137.out.set 5 rfl 3 (.slice (some ⟨g9, 0, none⟩) (ln + 1) c9)))
                            go_simp
                            refine hK.out _ _ ?_ (fun hHeld2 => ?_)
                            focus ((try dsimp only); (exact ⟨H147.out.cell 5 rfl 0 rfl, H147.out.cell 5 rfl 1 rfl, H147.out.cell 5 rfl 2 rfl⟩))
                            clear hK K hHeld
                            try simp only [Act.put, List.getElem_toArray, List.getElem_cons_zero, List.getElem_cons_succ, List.setIfInBounds_toArray, List.set_cons_zero, List.set_cons_succ]
                            clear z139 z140 z141 z142 z143 z144 z145 z146
                            generalize (k138.setCell ⟨D65, 3, none⟩ (.slice (some ⟨g9, 0, none⟩) (ln + 1) c9)) = k148 at *
                            have hHeld := hHeld2
                            clear hHeld2
                            refine wpAnyH_done (by kernel_rfl) ?_ _
                            try clear hHeld
                            go_wp2_with fail
                            go_roundw
                            case rel => exact ⟨j + 1, ln + 1, c9, some ⟨g9, 0, none⟩, by omega, by go_num, by rw [HLN.out]; rfl, H147.out.pick [1, 2, 3, 4, 5, 6, 7, 8, 9, 10, 11, 12] rfl (by decide)⟩
                            case measure => first | (simp [intOf]; omega) | (simp [intOf]; done)
                          · go_simp
                            go_at_call 45
                            refine (fclamp_any _ _ _).mono ?_
                            rintro e w149 ⟨rfl, hsw⟩
                            have hsw2 : k110 = w149 := by first | exact hsw | exact hsw.symm
                            clear hsw
                            subst hsw2
                            rw [show clV sv131 out = fv from by rw [← HNsv131.out]; exact HFX.out]
                            refine hK.out _ _ ?_ (fun hHeld2 => ?_)
                            focus ((try dsimp only); (exact ⟨H109.out.cell 4 rfl 0 rfl, H109.out.cell 4 rfl 1 rfl, H109.out.cell 4 rfl 2 rfl⟩))
                            clear hK K
                            try simp only [Act.put, List.getElem_toArray, List.getElem_cons_zero, List.getElem_cons_succ, List.setIfInBounds_toArray, List.set_cons_zero, List.set_cons_succ]
                            clear hHeld
                            have hHeld := hHeld2
                            clear hHeld2
                            refine wpAnyH_ready (rs := [1, 7]) (by kernel_rfl) (by simp) (AllReadyH.cons (o := _) rfl (fun K hK => ?_) (AllReadyH.cons (o := _) rfl (fun K hK => ?_) AllReadyH.nil))
                            · have g150 := H109.out.cell 4 rfl 3 rfl
                              go_simp
                              refine hK.out _ _ ?_ (fun hHeld2 => ?_)
                              focus ((try dsimp only); (try exact hHeld))
                              clear hK K
                              try simp only [Act.put, List.getElem_toArray, List.getElem_cons_zero, List.getElem_cons_succ, List.setIfInBounds_toArray, List.set_cons_zero, List.set_cons_succ]
                              clear hHeld2 g150
                              refine wpAnyH_ready (rs := [7]) (by kernel_rfl) (by simp) (AllReadyH.cons (o := _) rfl (fun K hK => ?_) AllReadyH.nil)
                              obtain ⟨D151, hD151⟩ : ∃ D, k110.heap.size = D := ⟨_, rfl⟩
                              have H152 := hid (H109.out.alloc #[.int .i64 fv] 3 hD151)
                              go_simp
                              refine hK.out _ _ ?_ (fun hHeld2 => ?_)
                              focus ((try dsimp only); (exact ⟨H152.out.cell 5 rfl 0 rfl, H152.out.cell 5 rfl 1 rfl, H152.out.cell 5 rfl 2 rfl⟩))
                              clear hK K hHeld
                              try simp only [Act.put, List.getElem_toArray, List.getElem_cons_zero, List.getElem_cons_succ, List.setIfInBounds_toArray, List.set_cons_zero, List.set_cons_succ]
                              clear hD151
                              generalize (k110.alloc (.cells #[.int .i64 fv] 3)) = k153 at *
                              have hHeld := hHeld2
                              clear hHeld2
                              refine wpAnyH_ready (rs := [8]) (by kernel_rfl) (by simp) (AllReadyH.cons (o := _) rfl (fun K hK => ?_) AllReadyH.nil)
                              rw [if_pos (by rfl)]
                              refine oper_append_int _ _ rfl B _ (gridL F wd k j) fv D151 1 rfl rfl (H152.out.own 3 rfl) (H152.out.cell 0 rfl 0 rfl) (by first | omega | (rw [gridL_len]; omega) | (have := HLEN9.out; rw [gridL_len] at *; omega)) H152.out.size ?_
                              intro v9 k155 ho hg hv
                              have H154 := hid (H152.out.append 3 rfl ho hg hv)
                              clear hg hv
                              rw [HGN.out] at H154 ho
                              obtain ⟨g9, c9, rfl⟩ := ho.pos (by rw [HLEN9.out]; omega)
                              rw [HLEN9.out] at H154 ⊢
                              clear ho
                              refine hK.out _ _ ?_ (fun hHeld2 => ?_)
                              focus ((try dsimp only); (exact ⟨H154.out.cell 5 rfl 0 rfl, H154.out.cell 5 rfl 1 rfl, H154.out.cell 5 rfl 2 rfl⟩))
                              clear hK K
                              try simp only [Act.put, List.getElem_toArray, List.getElem_cons_zero, List.getElem_cons_succ, List.setIfInBounds_toArray, List.set_cons_zero, List.set_cons_succ]
                              clear hHeld
                              have hHeld := hHeld2
                              clear hHeld2
                              refine wpAnyH_take (i := 9) (oi := _) (v := ?_) rfl (by kernel_rfl) (by kernel_rfl) (by kernel_rfl) (fun _ _ _ h => h) (Or.inl ⟨by rfl, ?_⟩) (by assumption) ?_
                              rotate_left
                              focus (intro wS hSw; (try dsimp only at hSw); go_simp; (try with_reducible rfl))
                              try simp only [Act.put, List.getElem_toArray, List.getElem_cons_zero, List.getElem_cons_succ, List.setIfInBounds_toArray, List.set_cons_zero, List.set_cons_succ]
                              refine wpAnyH_ready (rs := [10]) (by kernel_rfl) (by simp) (AllReadyH.cons (o := _) rfl (fun K hK => ?_) AllReadyH.nil)
                              have z156 := H154.out.cell 5 rfl 0 rfl
                              have z157 := H154.out.free 5 rfl 0
                              have z158 := H154.out.cell 5 rfl 1 rfl
                              have z159 := H154.out.free 5 rfl 1
                              have z160 := H154.out.cell 5 rfl 2 rfl
                              have z161 := H154.out.free 5 rfl 2
                              have z162 := H154.out.cell 5 rfl 3 rfl
                              have z163 := H154.out.free 5 rfl 3
                              have H164 := hid (show St B W [.cells D151 #[.int .i64 fv] 3, .own (.slice (some ⟨DS, 0, none⟩) wd wd) (smL SF wd m 0), .cells D79 #[.int .i64 yk, .slice (some ⟨ywb, ywo, none⟩) ytn ytc] 32, .own (.slice (some ⟨g9, 0, none⟩) (ln + 1) c9) (gridL F wd k (j + 1)), .blk DM (.map es cl), .cells D65 #[.int .i64 wd, .int .i64 ht, .int .i64 out, .slice (some ⟨g9, 0, none⟩) (ln + 1) c9] 40, .cells D19 #[.int .i64 w, .int .i64 h, .int .i64 mx] 24, .cells (B + 1 + 1 + 1 + 1 + 1) #[.int .i64 0, .int .i64 0, .int .i64 0, .slice none 0 0] 40, .cells (B + 1 + 1 + 1 + 1) #[.int .i64 (R0 : Int), .int .i64 (R1 : Int), .int .i64 (R2 : Int), .int .i64 (R3 : Int)] 38, .cells (B + 1 + 1 + 1) #[.int .i64 shift] 3, .cells (B + 1 + 1) #[.slice (some ⟨xb, xo, none⟩) xm xc] 25, .cells (B + 1) #[.int .i64 p, .int .i64 f] 43, .cells B #[.int .i64 w, .int .i64 h, .int .i64 mx, .slice a n c] 40] rs (k155.setCell ⟨D65, 3, none⟩ (.slice (some ⟨g9, 0, none⟩) (ln + 1) c9)) from (H154.out.set 5 rfl 3 (.slice (some ⟨g9, 0, none⟩) (ln + 1) c9)))
                              go_simp
                              refine hK.out _ _ ?_ (fun hHeld2 => ?_)
                              focus ((try dsimp only); (exact ⟨H164.out.cell 5 rfl 0 rfl, H164.out.cell 5 rfl 1 rfl, H164.out.cell 5 rfl 2 rfl⟩))
                              clear hK K hHeld
                              try simp only [Act.put, List.getElem_toArray, List.getElem_cons_zero, List.getElem_cons_succ, List.setIfInBounds_toArray, List.set_cons_zero, List.set_cons_succ]
                              clear z156 z157 z158 z159 z160 z161 z162 z163
                              generalize (k155.setCell ⟨D65, 3, none⟩ (.slice (some ⟨g9, 0, none⟩) (ln + 1) c9)) = k165 at *
                              have hHeld := hHeld2
                              clear hHeld2
                              refine wpAnyH_done (by kernel_rfl) ?_ _
                              try clear hHeld
                              go_wp2_with fail
                              go_roundw
                              case rel => exact ⟨j + 1, ln + 1, c9, some ⟨g9, 0, none⟩, by omega, by go_num, by rw [HLN.out]; rfl, H164.out.pick [1, 2, 3, 4, 5, 6, 7, 8, 9, 10, 11, 12] rfl (by decide)⟩
                              case measure => first | (simp [intOf]; omega) | (simp [intOf]; done)
                            · obtain ⟨D166, hD166⟩ : ∃ D, k110.heap.size = D := ⟨_, rfl⟩
                              have H167 := hid (H109.out.alloc #[.int .i64 fv] 3 hD166)
                              go_simp
                              refine hK.out _ _ ?_ (fun hHeld2 => ?_)
                              focus ((try dsimp only); (exact ⟨H167.out.cell 5 rfl 0 rfl, H167.out.cell 5 rfl 1 rfl, H167.out.cell 5 rfl 2 rfl⟩))
                              clear hK K hHeld
                              try simp only [Act.put, List.getElem_toArray, List.getElem_cons_zero, List.getElem_cons_succ, List.setIfInBounds_toArray, List.set_cons_zero, List.set_cons_succ]
                              clear hD166
                              generalize (k110.alloc (.cells #[.int .i64 fv] 3)) = k168 at *
                              have hHeld := hHeld2
                              clear hHeld2
                              refine wpAnyH_ready (rs := [1]) (by kernel_rfl) (by simp) (AllReadyH.cons (o := _) rfl (fun K hK => ?_) AllReadyH.nil)
                              have g169 := H167.out.cell 5 rfl 3 rfl
                              go_simp
                              refine hK.out _ _ ?_ (fun hHeld2 => ?_)
                              focus ((try dsimp only); (try exact hHeld))
                              clear hK K
                              try simp only [Act.put, List.getElem_toArray, List.getElem_cons_zero, List.getElem_cons_succ, List.setIfInBounds_toArray, List.set_cons_zero, List.set_cons_succ]
                              clear hHeld2 g169
                              refine wpAnyH_ready (rs := [8]) (by kernel_rfl) (by simp) (AllReadyH.cons (o := _) rfl (fun K hK => ?_) AllReadyH.nil)
                              rw [if_pos (by rfl)]
                              refine oper_append_int _ _ rfl B _ (gridL F wd k j) fv D166 1 rfl rfl (H167.out.own 3 rfl) (H167.out.cell 0 rfl 0 rfl) (by first | omega | (rw [gridL_len]; omega) | (have := HLEN9.out; rw [gridL_len] at *; omega)) H167.out.size ?_
                              intro v9 k171 ho hg hv
                              have H170 := hid (H167.out.append 3 rfl ho hg hv)
                              clear hg hv
                              rw [HGN.out] at H170 ho
                              obtain ⟨g9, c9, rfl⟩ := ho.pos (by rw [HLEN9.out]; omega)
                              rw [HLEN9.out] at H170 ⊢
                              clear ho
                              refine hK.out _ _ ?_ (fun hHeld2 => ?_)
                              focus ((try dsimp only); (exact ⟨H170.out.cell 5 rfl 0 rfl, H170.out.cell 5 rfl 1 rfl, H170.out.cell 5 rfl 2 rfl⟩))
                              clear hK K
                              try simp only [Act.put, List.getElem_toArray, List.getElem_cons_zero, List.getElem_cons_succ, List.setIfInBounds_toArray, List.set_cons_zero, List.set_cons_succ]
                              clear hHeld
                              have hHeld := hHeld2
                              clear hHeld2
                              refine wpAnyH_take (i := 9) (oi := _) (v := ?_) rfl (by kernel_rfl) (by kernel_rfl) (by kernel_rfl) (fun _ _ _ h => h) (Or.inl ⟨by rfl, ?_⟩) (by assumption) ?_
                              rotate_left
                              focus (intro wS hSw; (try dsimp only at hSw); go_simp; (try with_reducible rfl))
                              try simp only [Act.put, List.getElem_toArray, List.getElem_cons_zero, List.getElem_cons_succ, List.setIfInBounds_toArray, List.set_cons_zero, List.set_cons_succ]
                              refine wpAnyH_ready (rs := [10]) (by kernel_rfl) (by simp) (AllReadyH.cons (o := _) rfl (fun K hK => ?_) AllReadyH.nil)
                              have z172 := H170.out.cell 5 rfl 0 rfl
                              have z173 := H170.out.free 5 rfl 0
                              have z174 := H170.out.cell 5 rfl 1 rfl
                              have z175 := H170.out.free 5 rfl 1
                              have z176 := H170.out.cell 5 rfl 2 rfl
                              have z177 := H170.out.free 5 rfl 2
                              have z178 := H170.out.cell 5 rfl 3 rfl
                              have z179 := H170.out.free 5 rfl 3
                              have H180 := hid (show St B W [.cells D166 #[.int .i64 fv] 3, .own (.slice (some ⟨DS, 0, none⟩) wd wd) (smL SF wd m 0), .cells D79 #[.int .i64 yk, .slice (some ⟨ywb, ywo, none⟩) ytn ytc] 32, .own (.slice (some ⟨g9, 0, none⟩) (ln + 1) c9) (gridL F wd k (j + 1)), .blk DM (.map es cl), .cells D65 #[.int .i64 wd, .int .i64 ht, .int .i64 out, .slice (some ⟨g9, 0, none⟩) (ln + 1) c9] 40, .cells D19 #[.int .i64 w, .int .i64 h, .int .i64 mx] 24, .cells (B + 1 + 1 + 1 + 1 + 1) #[.int .i64 0, .int .i64 0, .int .i64 0, .slice none 0 0] 40, .cells (B + 1 + 1 + 1 + 1) #[.int .i64 (R0 : Int), .int .i64 (R1 : Int), .int .i64 (R2 : Int), .int .i64 (R3 : Int)] 38, .cells (B + 1 + 1 + 1) #[.int .i64 shift] 3, .cells (B + 1 + 1) #[.slice (some ⟨xb, xo, none⟩) xm xc] 25, .cells (B + 1) #[.int .i64 p, .int .i64 f] 43, .cells B #[.int .i64 w, .int .i64 h, .int .i64 mx, .slice a n c] 40] rs (k171.setCell ⟨D65, 3, none⟩ (.slice (some ⟨g9, 0, none⟩) (ln + 1) c9)) from (H170.out.set 5 rfl 3 (.slice (some ⟨g9, 0, none⟩) (ln + 1) c9)))
                              go_simp
                              refine hK.out _ _ ?_ (fun hHeld2 => ?_)
                              focus ((try dsimp only); (exact ⟨H180.out.cell 5 rfl 0 rfl, H180.out.cell 5 rfl 1 rfl, H180.out.cell 5 rfl 2 rfl⟩))
                              clear hK K hHeld
                              try simp only [Act.put, List.getElem_toArray, List.getElem_cons_zero, List.getElem_cons_succ, List.setIfInBounds_toArray, List.set_cons_zero, List.set_cons_succ]
                              clear z172 z173 z174 z175 z176 z177 z178 z179
                              generalize (k171.setCell ⟨D65, 3, none⟩ (.slice (some ⟨g9, 0, none⟩) (ln + 1) c9)) = k181 at *
                              have hHeld := hHeld2
                              clear hHeld2
                              refine wpAnyH_done (by kernel_rfl) ?_ _
                              try clear hHeld
                              go_wp2_with fail
                              go_roundw
                              case rel => exact ⟨j + 1, ln + 1, c9, some ⟨g9, 0, none⟩, by omega, by go_num, by rw [HLN.out]; rfl, H180.out.pick [1, 2, 3, 4, 5, 6, 7, 8, 9, 10, 11, 12] rfl (by decide)⟩
                              case measure => first | (simp [intOf]; omega) | (simp [intOf]; done)
                      · skip
                        have hjw' : ¬ ((j : Int) < wd) := by omega
                        have Hhjw := hid (show j = wd by omega)
                        go_wp2_with fail
                        go_roundw
                        case rel => exact ⟨k + 1, ln, cp, cl, pa, G9, es, rs, by omega, by go_num, by rw [HLN.out, Hhjw.out, Nat.add_mul, Nat.one_mul], by rw [show 8 * (k + 1) = 8 * k + 8 by omega]; exact HMP.out.mono (by omega), HGO.out, by rw [show gridL F wd (k + 1) 0 = gridL F wd k j by rw [← gridL_row, Hhjw.out]]; exact H108.out.pick [2, 3, 4, 5, 6, 7, 8, 9, 10, 11] rfl (by decide)⟩
                        case measure => first | (simp [intOf]; omega) | (simp [intOf]; done)
              · skip
                have hkn' : ¬ ((k : Int) < ht) := by omega
                have HKE := hid (show k = ht by omega)
                have z182 := H78.out.cell 2 rfl 0 rfl
                have z183 := H78.out.cell 2 rfl 1 rfl
                have z184 := H78.out.cell 2 rfl 2 rfl
                have z185 := H78.out.cell 2 rfl 3 rfl
                have z186 := H78.out.cell 4 rfl 0 rfl
                have z187 := H78.out.free 4 rfl 0
                have z188 := H78.out.cell 4 rfl 1 rfl
                have z189 := H78.out.free 4 rfl 1
                have z190 := H78.out.cell 4 rfl 2 rfl
                have z191 := H78.out.free 4 rfl 2
                have z192 := H78.out.cell 4 rfl 3 rfl
                have z193 := H78.out.free 4 rfl 3
                go_wp2_with fail
                clear z182 z183 z184 z185 z186 z187 z188 z189 z190 z191 z192 z193
                have H194 := hid (show St B W [.own (.slice pa ln cp) (gridL F wd k 0), .blk DM (.map es cl), .cells D65 #[.int .i64 wd, .int .i64 ht, .int .i64 out, .slice pa ln cp] 40, .cells D19 #[.int .i64 w, .int .i64 h, .int .i64 mx] 24, .cells (B + 1 + 1 + 1 + 1 + 1) #[.int .i64 wd, .int .i64 ht, .int .i64 out, .slice pa ln cp] 40, .cells (B + 1 + 1 + 1 + 1) #[.int .i64 (R0 : Int), .int .i64 (R1 : Int), .int .i64 (R2 : Int), .int .i64 (R3 : Int)] 38, .cells (B + 1 + 1 + 1) #[.int .i64 shift] 3, .cells (B + 1 + 1) #[.slice (some ⟨xb, xo, none⟩) xm xc] 25, .cells (B + 1) #[.int .i64 p, .int .i64 f] 43, .cells B #[.int .i64 w, .int .i64 h, .int .i64 mx, .slice a n c] 40] rs ((((u77.setCell ⟨B + 1 + 1 + 1 + 1 + 1, 0, none⟩ (.int .i64 wd)).setCell ⟨B + 1 + 1 + 1 + 1 + 1, 1, none⟩ (.int .i64 ht)).setCell ⟨B + 1 + 1 + 1 + 1 + 1, 2, none⟩ (.int .i64 out)).setCell ⟨B + 1 + 1 + 1 + 1 + 1, 3, none⟩ (.slice pa ln cp)) from (H78.out.set4 4 rfl (.int .i64 wd) (.int .i64 ht) (.int .i64 out) (.slice pa ln cp)))
                have HRES := hid (show rzL w h zs p f xs ys shift shift2 out (R0 : Int) (R1 : Int) (R2 : Int) (R3 : Int) = gridL F wd k 0 from by unfold rzL rG; rw [HFF.out, HWD.out, HHT.out, Int.toNat_natCast, Int.toNat_natCast, ← HKE.out])
                have q195 := H194.out.cell 4 rfl 0 rfl
                have q196 := H194.out.cell 4 rfl 1 rfl
                have q197 := H194.out.cell 4 rfl 2 rfl
                have q198 := H194.out.cell 4 rfl 3 rfl
                refine bodyPost_ret (v := .tuple #[.agg #[.int .i64 wd, .int .i64 ht, .int .i64 out, .slice pa ln cp], .int .i64 0]) ?_ rfl (TPost.yes HTC.out (by rw [hB, HRES.out]; exact H194.out.own 0 rfl) (by first | exact H194.out.below | exact H194.out.below'))
                simp [results, Try.results19, go_sem, q195, q196, q197, q198]
          | false =>
            have z199 := H61.out.cell 1 rfl 0 rfl
            have z200 := H61.out.free 1 rfl 0
            have z201 := H61.out.cell 1 rfl 1 rfl
            have z202 := H61.out.free 1 rfl 1
            have z203 := H61.out.cell 1 rfl 2 rfl
            have z204 := H61.out.free 1 rfl 2
            have z205 := H61.out.cell 1 rfl 3 rfl
            have z206 := H61.out.free 1 rfl 3
            go_wp2_with fail
            clear z199 z200 z201 z202 z203 z204 z205 z206
            have H207 := hid (show St B W [.cells D19 #[.int .i64 w, .int .i64 h, .int .i64 mx] 24, .cells (B + 1 + 1 + 1 + 1 + 1) #[.int .i64 0, .int .i64 0, .int .i64 0, .slice none 0 0] 40, .cells (B + 1 + 1 + 1 + 1) #[.int .i64 r0, .int .i64 r1, .int .i64 r2, .int .i64 r3] 38, .cells (B + 1 + 1 + 1) #[.int .i64 shift] 3, .cells (B + 1 + 1) #[.slice xa xm xc] 25, .cells (B + 1) #[.int .i64 p, .int .i64 f] 43, .cells B #[.int .i64 w, .int .i64 h, .int .i64 mx, .slice a n c] 40] [] ((((w60.setCell ⟨B + 1 + 1 + 1 + 1 + 1, 0, none⟩ (.int .i64 0)).setCell ⟨B + 1 + 1 + 1 + 1 + 1, 1, none⟩ (.int .i64 0)).setCell ⟨B + 1 + 1 + 1 + 1 + 1, 2, none⟩ (.int .i64 0)).setCell ⟨B + 1 + 1 + 1 + 1 + 1, 3, none⟩ (.slice none 0 0)) from (H61.out.set4 1 rfl (.int .i64 0) (.int .i64 0) (.int .i64 0) (.slice none 0 0)))
            have q208 := H207.out.cell 1 rfl 0 rfl
            have q209 := H207.out.cell 1 rfl 1 rfl
            have q210 := H207.out.cell 1 rfl 2 rfl
            have q211 := H207.out.cell 1 rfl 3 rfl
            refine bodyPost_ret (v := .tuple #[.agg #[.int .i64 0, .int .i64 0, .int .i64 0, .slice none 0 0], .int .i64 8]) ?_ rfl (TPost.no (by unfold rzTC; rw [if_neg (fun hc => hc ⟨HNb9.out, HNb18.out⟩), if_neg (by rw [HNk33.out]; have := c34h.out; omega), if_pos (by rw [← HLX.out, ← HLY.out]; unfold rIs; rw [HNb62.out]; simp)]) (by omega) (by first | exact H207.out.below | exact H207.out.below'))
            simp [results, Try.results19, go_sem, q208, q209, q210, q211]
      · have c34a : ((k33 : Int) == (0)) = false := by simpa using c34
        have c34b : ((k33 : Int) != (0)) = true := by simpa using c34
        have c34h := hid c34
        clear c34
        have z212 := H32.out.cell 1 rfl 0 rfl
        have z213 := H32.out.free 1 rfl 0
        have z214 := H32.out.cell 1 rfl 1 rfl
        have z215 := H32.out.free 1 rfl 1
        have z216 := H32.out.cell 1 rfl 2 rfl
        have z217 := H32.out.free 1 rfl 2
        have z218 := H32.out.cell 1 rfl 3 rfl
        have z219 := H32.out.free 1 rfl 3
        go_wp2_with fail
        clear z212 z213 z214 z215 z216 z217 z218 z219
        have H220 := hid (show St B W [.cells D19 #[.int .i64 w, .int .i64 h, .int .i64 mx] 24, .cells (B + 1 + 1 + 1 + 1 + 1) #[.int .i64 0, .int .i64 0, .int .i64 0, .slice none 0 0] 40, .cells (B + 1 + 1 + 1 + 1) #[.int .i64 r0, .int .i64 r1, .int .i64 r2, .int .i64 r3] 38, .cells (B + 1 + 1 + 1) #[.int .i64 shift] 3, .cells (B + 1 + 1) #[.slice xa xm xc] 25, .cells (B + 1) #[.int .i64 p, .int .i64 f] 43, .cells B #[.int .i64 w, .int .i64 h, .int .i64 mx, .slice a n c] 40] [] ((((w31.setCell ⟨B + 1 + 1 + 1 + 1 + 1, 0, none⟩ (.int .i64 0)).setCell ⟨B + 1 + 1 + 1 + 1 + 1, 1, none⟩ (.int .i64 0)).setCell ⟨B + 1 + 1 + 1 + 1 + 1, 2, none⟩ (.int .i64 0)).setCell ⟨B + 1 + 1 + 1 + 1 + 1, 3, none⟩ (.slice none 0 0)) from (H32.out.set4 1 rfl (.int .i64 0) (.int .i64 0) (.int .i64 0) (.slice none 0 0)))
        have q221 := H220.out.cell 1 rfl 0 rfl
        have q222 := H220.out.cell 1 rfl 1 rfl
        have q223 := H220.out.cell 1 rfl 2 rfl
        have q224 := H220.out.cell 1 rfl 3 rfl
        refine bodyPost_ret (v := .tuple #[.agg #[.int .i64 0, .int .i64 0, .int .i64 0, .slice none 0 0], .int .i64 k33]) ?_ rfl (TPost.no (by unfold rzTC; rw [if_neg (fun hc => hc ⟨HNb9.out, HNb18.out⟩), if_pos (by rw [HNk33.out]; exact c34h.out), HNk33.out]) c34h.out (by first | exact H220.out.below | exact H220.out.below'))
        simp [results, Try.results19, go_sem, q221, q222, q223, q224]
    | false =>
      have z225 := H17.out.cell 0 rfl 0 rfl
      have z226 := H17.out.free 0 rfl 0
      have z227 := H17.out.cell 0 rfl 1 rfl
      have z228 := H17.out.free 0 rfl 1
      have z229 := H17.out.cell 0 rfl 2 rfl
      have z230 := H17.out.free 0 rfl 2
      have z231 := H17.out.cell 0 rfl 3 rfl
      have z232 := H17.out.free 0 rfl 3
      go_wp2_with fail
      clear z225 z226 z227 z228 z229 z230 z231 z232
      have H233 := hid (show St B W [.cells (B + 1 + 1 + 1 + 1 + 1) #[.int .i64 0, .int .i64 0, .int .i64 0, .slice none 0 0] 40, .cells (B + 1 + 1 + 1 + 1) #[.int .i64 r0, .int .i64 r1, .int .i64 r2, .int .i64 r3] 38, .cells (B + 1 + 1 + 1) #[.int .i64 shift] 3, .cells (B + 1 + 1) #[.slice xa xm xc] 25, .cells (B + 1) #[.int .i64 p, .int .i64 f] 43, .cells B #[.int .i64 w, .int .i64 h, .int .i64 mx, .slice a n c] 40] [] ((((w16.setCell ⟨B + 1 + 1 + 1 + 1 + 1, 0, none⟩ (.int .i64 0)).setCell ⟨B + 1 + 1 + 1 + 1 + 1, 1, none⟩ (.int .i64 0)).setCell ⟨B + 1 + 1 + 1 + 1 + 1, 2, none⟩ (.int .i64 0)).setCell ⟨B + 1 + 1 + 1 + 1 + 1, 3, none⟩ (.slice none 0 0)) from (H17.out.set4 0 rfl (.int .i64 0) (.int .i64 0) (.int .i64 0) (.slice none 0 0)))
      have q234 := H233.out.cell 0 rfl 0 rfl
      have q235 := H233.out.cell 0 rfl 1 rfl
      have q236 := H233.out.cell 0 rfl 2 rfl
      have q237 := H233.out.cell 0 rfl 3 rfl
      refine bodyPost_ret (v := .tuple #[.agg #[.int .i64 0, .int .i64 0, .int .i64 0, .slice none 0 0], .int .i64 1]) ?_ rfl (TPost.no (by unfold rzTC; rw [if_pos (by intro hc; rw [HNb18.out] at hc; simp at hc)]) (by omega) (by first | exact H233.out.below | exact H233.out.below'))
      simp [results, Try.results19, go_sem, q234, q235, q236, q237]
  | false =>
    have z238 := H8.out.cell 0 rfl 0 rfl
    have z239 := H8.out.free 0 rfl 0
    have z240 := H8.out.cell 0 rfl 1 rfl
    have z241 := H8.out.free 0 rfl 1
    have z242 := H8.out.cell 0 rfl 2 rfl
    have z243 := H8.out.free 0 rfl 2
    have z244 := H8.out.cell 0 rfl 3 rfl
    have z245 := H8.out.free 0 rfl 3
    go_wp2_with fail
    clear z238 z239 z240 z241 z242 z243 z244 z245
    have H246 := hid (show St B W [.cells (B + 1 + 1 + 1 + 1 + 1) #[.int .i64 0, .int .i64 0, .int .i64 0, .slice none 0 0] 40, .cells (B + 1 + 1 + 1 + 1) #[.int .i64 r0, .int .i64 r1, .int .i64 r2, .int .i64 r3] 38, .cells (B + 1 + 1 + 1) #[.int .i64 shift] 3, .cells (B + 1 + 1) #[.slice xa xm xc] 25, .cells (B + 1) #[.int .i64 p, .int .i64 f] 43, .cells B #[.int .i64 w, .int .i64 h, .int .i64 mx, .slice a n c] 40] [] ((((w7.setCell ⟨B + 1 + 1 + 1 + 1 + 1, 0, none⟩ (.int .i64 0)).setCell ⟨B + 1 + 1 + 1 + 1 + 1, 1, none⟩ (.int .i64 0)).setCell ⟨B + 1 + 1 + 1 + 1 + 1, 2, none⟩ (.int .i64 0)).setCell ⟨B + 1 + 1 + 1 + 1 + 1, 3, none⟩ (.slice none 0 0)) from (H8.out.set4 0 rfl (.int .i64 0) (.int .i64 0) (.int .i64 0) (.slice none 0 0)))
    have q247 := H246.out.cell 0 rfl 0 rfl
    have q248 := H246.out.cell 0 rfl 1 rfl
    have q249 := H246.out.cell 0 rfl 2 rfl
    have q250 := H246.out.cell 0 rfl 3 rfl
    refine bodyPost_ret (v := .tuple #[.agg #[.int .i64 0, .int .i64 0, .int .i64 0, .slice none 0 0], .int .i64 1]) ?_ rfl (TPost.no (by unfold rzTC; rw [if_pos (by intro hc; rw [HNb9.out] at hc; simp at hc)]) (by omega) (by first | exact H246.out.below | exact H246.out.below'))
    simp [results, Try.results19, go_sem, q247, q248, q249, q250]
end Go.Proofs.Ytaefdkinpaonkaa
