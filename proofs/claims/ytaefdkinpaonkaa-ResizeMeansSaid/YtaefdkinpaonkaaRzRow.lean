/-
  Contract: the row that resize.Tile computes once for each coordinate of the source.
-/
import Derived.Test.YtaefdkinpaonkaaRzPix
import Derived.Test.YtaefdkinpaonkaaRzChk
import Derived.Test.YtaefdkinpaonkaaKA
namespace Go.Proofs.Ytaefdkinpaonkaa
open Go.RowKit
attribute [local go_sem ↓] Go.wp_at_zero Go.wp_at_succ
set_option linter.unusedVariables false
set_option linter.unusedSimpArgs false

/-- The row of a coordinate. -/
def rzRow (w h : Int) (zs : List Int) (p f : Int) (xs : Tbl) (shift : Int) (R0 wd : Nat) (k : Int) : List Int := (List.range wd).map fun (u : Nat) => rzM w h zs p f (xs.getD (R0 + u) (0, [])) shift k
theorem rzRow_len (w h : Int) (zs : List Int) (p f : Int) (xs : Tbl) (shift : Int) (R0 wd : Nat) (k : Int) : (rzRow w h zs p f xs shift R0 wd k).length = wd := by simp [rzRow]

set_option maxRecDepth 100000 in
set_option maxHeartbeats 6400000 in
theorem rzrow_any (w h mx : Int) (a : Option Addr) (n c : Nat) (zs : List Int) (p f : Int) (xb xo xm xc : Nat) (xs : Tbl) (shift r1 r3 k : Int) (R0 R2 wd : Nat) (bp be bx br bs : Nat) (W : World) (hs : Slc W a n c zs) (hx : Tps W (some ⟨xb, xo, none⟩) xm xc xs) (hv : pValid w h mx zs = true) (hb : bValid p f mx = true)
    (HTX : Hid (∀ i, i < xm → 1 ≤ (xs.getD i (0, [])).2.length ∧ (xs.getD i (0, [])).2.length ≤ 8 ∧ wAll (xs.getD i (0, [])).2 = true ∧ -128 ≤ (xs.getD i (0, [])).1 ∧ (xs.getD i (0, [])).1 ≤ 256))
    (hR : R2 ≤ R0 + wd) (hR2 : R0 + wd ≤ R2) (hw0 : 1 ≤ wd) (hRm : R2 ≤ xm) (hm8 : xm ≤ 128)
    (CP0 : Hid (W.cell? ⟨bp, 0, none⟩ = some (.int .i64 w))) (CP1 : Hid (W.cell? ⟨bp, 1, none⟩ = some (.int .i64 h))) (CP2 : Hid (W.cell? ⟨bp, 2, none⟩ = some (.int .i64 mx))) (CP3 : Hid (W.cell? ⟨bp, 3, none⟩ = some (.slice a n c)))
    (CE0 : Hid (W.cell? ⟨be, 0, none⟩ = some (.int .i64 p))) (CE1 : Hid (W.cell? ⟨be, 1, none⟩ = some (.int .i64 f))) (CX0 : Hid (W.cell? ⟨bx, 0, none⟩ = some (.slice (some ⟨xb, xo, none⟩) xm xc)))
    (CR0 : Hid (W.cell? ⟨br, 0, none⟩ = some (.int .i64 (R0 : Int)))) (CR1 : Hid (W.cell? ⟨br, 1, none⟩ = some (.int .i64 r1))) (CR2 : Hid (W.cell? ⟨br, 2, none⟩ = some (.int .i64 (R2 : Int)))) (CR3 : Hid (W.cell? ⟨br, 3, none⟩ = some (.int .i64 r3))) (CS0 : Hid (W.cell? ⟨bs, 0, none⟩ = some (.int .i64 shift))) :
    Calls Try.prog 42 #[.int .i64 k, .pointer (some ⟨br, 0, none⟩), .pointer (some ⟨bx, 0, none⟩), .pointer (some ⟨bp, 0, none⟩), .pointer (some ⟨be, 0, none⟩), .pointer (some ⟨bs, 0, none⟩)] W fun e w' => ∃ v, e = .returned v ∧ Own W.heap.size w' v (rzRow w h zs p f xs shift R0 wd k) ∧ Below W.heap.size W w' := by
  obtain ⟨B, hB⟩ : ∃ B, W.heap.size = B := ⟨_, rfl⟩
  have HI0 := hid (St.init hB)
  have HS := hid hs
  have HX := hid hx
  have HLX := hid hx.len
  have HV := hid hv
  have HB := hid hb
  have HMX := hid ((pOk_iff.1 (pValid_iff.1 hv).1).2.2.2.2.2.2)
  have xcx : (xm : Int) ≤ xc := by have := hx.nc; omega
  have xcy : (xc : Int) ≤ 9223372036854775807 := by have := hx.cap; omega
  obtain ⟨G, hG⟩ : ∃ G : Nat → Int, (fun (u : Nat) => rzM w h zs p f (xs.getD (R0 + u) (0, [])) shift k) = G := ⟨_, rfl⟩
  have HG := hid (show ∀ u : Nat, rzM w h zs p f (xs.getD (R0 + u) (0, [])) shift k = G u from fun u => by rw [← hG])
  unfold rzRow
  rw [hG]
  clear hs hx hv hb hG
  have hRW : (R2 : Int) - (R0 : Int) = (wd : Int) := by omega
  have hRN : R2 - R0 = wd := by omega
  have wwd : IntKind.i64.wrap (wd : Int) = wd := IntWalk.i64_in _ (by omega)
  go_enter Try.func42, Try.ntmps42
  obtain ⟨DL, hDL⟩ : ∃ L, W.heap.size = L := ⟨_, rfl⟩
  have hBDL : B ≤ DL := by have := HI0.out.size; omega
  have z3 := HI0.out.oldCell CR0.out
  have z4 := HI0.out.oldCell CR1.out
  have z5 := HI0.out.oldCell CR2.out
  have z6 := HI0.out.oldCell CR3.out
  go_upto_region 2 with (at_make; refine make_cap rfl _ _ rfl DL _ wd rfl rfl (by first | rfl | omega) (by omega) (by omega) ?_; intro w1 ho hb; rw [hDL] at ho ⊢; have H2 := hid (HI0.out.grow hb (by rw [hDL]; exact ho)); clear ho hb hDL)
  clear z3 z4 z5 z6
  have z7 := H2.out.oldCell CX0.out
  have z8 := H2.out.oldCell CR0.out
  have z9 := H2.out.oldCell CR1.out
  have z10 := H2.out.oldCell CR2.out
  have z11 := H2.out.oldCell CR3.out
  go_wp2_with fail
  clear z7 z8 z9 z10 z11
  go_loopw [27, 8] (fun i v wr => ∃ (u g cp : Nat), u ≤ wd ∧ i = .int .i64 u ∧ v = .slice (some ⟨g, 0, none⟩) u cp ∧ St B W [.own (.slice (some ⟨g, 0, none⟩) u cp) ((List.range u).map G)] [] wr) (fun i _ _ => wd - (intOf i).toNat)
  case atStart => exact ⟨0, DL, wd, by omega, rfl, rfl, H2.out⟩
  case round =>
    obtain ⟨u, g, cp, hu, rfl, rfl, hst⟩ := hrel
    obtain ⟨u12, rfl⟩ : ∃ u12 : World, u12 = wr := ⟨_, rfl⟩
    have H13 := hid hst
    clear hst
    by_cases hun : u < wd
    · skip
      have hun' : (u : Int) < wd := by omega
      obtain ⟨U, hU⟩ : ∃ U, R0 + u = U := ⟨_, rfl⟩
      have hUx : U < xm := by omega
      have hxx : U < xm := by omega
      have hxx' : (U : Int) < xm := by omega
      obtain ⟨xta, xtn, xtc, e1, e2, e3⟩ := HX.out.row (i := U) hxx
      have ht1 := HTX.out U hxx
      obtain ⟨p9, hp⟩ : ∃ p9, xs.getD U (0, []) = p9 := ⟨_, rfl⟩
      obtain ⟨xk, ws⟩ := p9
      rw [hp] at e1 e3 ht1
      simp only at e1 e3 ht1
      have hl1 := e3.len
      rw [hl1] at ht1
      obtain ⟨xt1, xt2, xw1, xk1, xk2⟩ := ht1
      obtain ⟨xwb, xwo, hxta⟩ := row_at e3.row (by omega)
      subst hxta
      have HE1x := hid e1
      have HE2x := hid e2
      have HSLx := hid e3
      have HWLx := hid hl1
      have HWAx := hid xw1
      have xtnm : (xtn : Int) ≤ 8 := by omega
      have HPx := hid hp
      clear e1 e2 e3 hp hl1 xw1
      have HU := hid hU
      have hxa : xo + R0 * 2 + u * 2 = xo + U * 2 := by omega
      have hxa2 : xo + R0 * 2 + u * 2 + 1 = xo + U * 2 + 1 := by omega
      have f1x := H13.out.oldCell HE1x.out
      have f2x := H13.out.oldCell HE2x.out
      rw [← hxa] at f1x
      rw [← hxa2] at f2x
      clear hU hxa hxa2
      obtain ⟨D14, hD14⟩ : ∃ D, u12.heap.size = D := ⟨_, rfl⟩
      go_upto_region 5 with fail
      have H15 := hid (show St B W [.cells D14 #[.int .i64 xk, .slice (some ⟨xwb, xwo, none⟩) xtn xtc] 32, .own (.slice (some ⟨g, 0, none⟩) u cp) ((List.range u).map G)] [] (u12.alloc (.cells #[.int .i64 xk, .slice (some ⟨xwb, xwo, none⟩) xtn xtc] 32)) from (H13.out.alloc #[.int .i64 xk, .slice (some ⟨xwb, xwo, none⟩) xtn xtc] 32 hD14))
      first | refine gen_code H15.out ?_ | refine gen_list H15.out ?_ | refine gen_calls H15.out ?_
      intro w16 hG
      clear H15
      have H15 := hid hG
      clear hG
      clear hD14
      go_upto_region 6 with fail
      try clear f1x f2x
      have z17 := H15.out.cell 0 rfl 0 rfl
      have z18 := H15.out.cell 0 rfl 1 rfl
      go_wp2_with fail
      clear z17 z18
      go_loopw [34, 11] (fun i s wr => ∃ m : Nat, m ≤ xtn ∧ i = .int .i64 m ∧ s = .int .i64 (rzR w h zs p f (xk, ws) k m) ∧ St B W [.cells D14 #[.int .i64 xk, .slice (some ⟨xwb, xwo, none⟩) xtn xtc] 32, .own (.slice (some ⟨g, 0, none⟩) u cp) ((List.range u).map G)] [] wr) (fun i _ _ => xtn - (intOf i).toNat)
      case atStart => exact ⟨0, by omega, rfl, rfl, H15.out⟩
      case round =>
        obtain ⟨m, hm, rfl, rfl, hst⟩ := hrel
        obtain ⟨u19, rfl⟩ : ∃ u19 : World, u19 = wr := ⟨_, rfl⟩
        have H20 := hid hst
        clear hst
        obtain ⟨S2a, S2b⟩ := rzR_bd HV.out HB.out (t := (xk, ws)) HWAx.out k (n := m) (show m ≤ ws.length by rw [HWLx.out]; exact hm) (show ws.length ≤ 8 by rw [HWLx.out]; exact xt2)
        obtain ⟨S2, hS2⟩ : ∃ xx', rzR w h zs p f (xk, ws) k m = xx' := ⟨_, rfl⟩
        rw [hS2] at S2a S2b ⊢
        have HS2 := hid hS2
        clear hS2
        by_cases hmn : m < xtn
        · skip
          have hmn' : (m : Int) < xtn := by omega
          obtain ⟨wz, hwz⟩ : ∃ xx', ws.getD m 0 = xx' := ⟨_, rfl⟩
          have hzw := hid (show -32767 ≤ wz ∧ wz ≤ 32767 from by rw [← hwz]; exact wAll_iff.1 HWAx.out _ (by have := HWLx.out; omega))
          have HWZ := hid hwz
          clear hwz
          have cz := row_cell (H20.out.old HSLx.out).row (j := m) hmn
          rw [HWZ.out] at cz
          have wa3 : IntKind.i64.wrap (xk + (m : Int)) = xk + m := IntWalk.i64_in _ (by omega)
          have z21 := H20.out.oldCell CP0.out
          have z22 := H20.out.oldCell CP1.out
          have z23 := H20.out.oldCell CP2.out
          have z24 := H20.out.oldCell CP3.out
          have z25 := H20.out.oldCell CE0.out
          have z26 := H20.out.oldCell CE1.out
          have z27 := H20.out.cell 0 rfl 0 rfl
          have z28 := H20.out.cell 0 rfl 1 rfl
          go_wp2_with fail
          clear z21 z22 z23 z24 z25 z26 z27 z28
          clear cz
          refine (rzpixel_any _ _ _ _ _ _ _ _ _ _ _ _ (H20.out.old HS.out) HV.out).mono ?_
          rintro e w29 ⟨rfl, hb⟩
          have H30 := hid (H20.out.call hb)
          clear hb
          obtain ⟨pv31, hpv31⟩ : ∃ xx', pPix w h zs p f (xk + m) k = xx' := ⟨_, rfl⟩
          rw [hpv31]
          have HNpv31 := hid hpv31
          clear hpv31
          obtain ⟨pv1, pv2⟩ : 0 ≤ pv31 ∧ pv31 ≤ mx := by rw [← HNpv31.out]; exact pPix_bd HV.out HB.out _ _
          obtain ⟨pr1, pr2⟩ := wmul2 hzw.out ⟨pv1, show pv31 ≤ 4294967296 by have := HMX.out; omega⟩
          have HSN0 := hid (show rzR w h zs p f (xk, ws) k (m + 1) = S2 + wz * pv31 from by rw [← HS2.out]; show rzR w h zs p f (xk, ws) k m + ws.getD m 0 * pPix w h zs p f (xk + (m : Int)) k = _; rw [HWZ.out, HNpv31.out])
          obtain ⟨PR, hPR⟩ : ∃ xx', wz * pv31 = xx' := ⟨_, rfl⟩
          rw [hPR] at pr1 pr2 HSN0
          have w8 : IntKind.i64.wrap PR = PR := IntWalk.i64_in _ (by omega)
          have w9 : IntKind.i64.wrap (S2 + PR) = S2 + PR := IntWalk.i64_in _ (by omega)
          go_wp2_with fail
          go_roundw
          case rel => exact ⟨m + 1, by omega, by go_num, by rw [HSN0.out], H30.out⟩
          case measure => first | (simp [intOf]; omega) | (simp [intOf]; done)
        · skip
          have hmn' : ¬ ((m : Int) < xtn) := by omega
          have HMN := hid (show m = xtn by omega)
          go_upto_region 11 with fail
          have HFX := hid (show shV S2 shift = G u from by rw [← HG.out, HU.out, HPx.out, rzM_eq]; show _ = shV (rzR w h zs p f (xk, ws) k ws.length) shift; rw [HWLx.out, ← HMN.out, HS2.out])
          obtain ⟨gv, hgv⟩ : ∃ xx', G u = xx' := ⟨_, rfl⟩
          rw [hgv] at HFX
          have HGN := hid (show (List.range u).map G ++ [gv] = (List.range (u + 1)).map G from by rw [List.range_succ, List.map_append, ← hgv]; rfl)
          clear hgv
          have z32 := H20.out.oldCell CS0.out
          go_wp2_with fail
          clear z32
          refine (fshift_any _ _ _).mono ?_
          rintro e w33 ⟨rfl, hsw⟩
          have hsw2 : u19 = w33 := by first | exact hsw | exact hsw.symm
          clear hsw
          subst hsw2
          rw [HFX.out]
          obtain ⟨D34, hD34⟩ : ∃ D, u19.heap.size = D := ⟨_, rfl⟩
          have H35 := hid (show St B W [.cells D34 #[.int .i64 gv] 3, .cells D14 #[.int .i64 xk, .slice (some ⟨xwb, xwo, none⟩) xtn xtc] 32, .own (.slice (some ⟨g, 0, none⟩) u cp) ((List.range u).map G)] [] (u19.alloc (.cells #[.int .i64 gv] 3)) from (H20.out.alloc #[.int .i64 gv] 3 hD34))
          go_upto_region 12 with (at_builtin; refine append_int rfl _ _ rfl B _ ((List.range u).map G) gv D34 1 rfl rfl (H35.out.own 2 rfl) (H35.out.cell 0 rfl 0 rfl) (by simp; omega) H35.out.size ?_; intro v37 w38 ho hg hv; rw [HGN.out] at ho; have H36 := hid (H35.out.append 2 rfl ho hg hv); clear ho hg hv)
          clear H35
          obtain ⟨g9, c9, hva⟩ := (H36.out.own 2 rfl).pos (by simp)
          simp only [List.length_map, List.length_range] at hva
          subst hva
          clear hD34
          go_wp2_with fail
          go_roundw
          case rel => exact ⟨u + 1, g9, c9, by omega, by go_num, by go_num, H36.out.pick [2] rfl (by decide)⟩
          case measure => first | (simp [intOf]; omega) | (simp [intOf]; done)
    · skip
      have hun' : ¬ ((u : Int) < wd) := by omega
      have HUW := hid (show u = wd by omega)
      go_wp2_with fail
      go_ret
      exact ⟨_, rfl, by (try rw [hB]); have h9 := H13.out.own 0 rfl; rw [HUW.out] at h9; rw [HUW.out]; exact h9, by first | exact H13.out.below | exact H13.out.below'⟩
end Go.Proofs.Ytaefdkinpaonkaa
