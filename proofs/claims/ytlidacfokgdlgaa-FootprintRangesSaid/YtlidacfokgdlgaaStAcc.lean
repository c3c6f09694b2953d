/-
  Contracts: which stages have needs, and the source coordinates of an output coordinate, in the program and in the reference.
-/
import Derived.Test.YtlidacfokgdlgaaStF1
import Derived.Test.YtlidacfokgdlgaaStF2
import Derived.Test.YtlidacfokgdlgaaTab1
import Derived.Test.YtlidacfokgdlgaaCvChk
namespace Go.Proofs.Ytlidacfokgdlgaa
open Go.RowKit
attribute [local go_sem ↓] Go.wp_at_zero Go.wp_at_succ
set_option linter.unusedVariables false
set_option linter.unusedSimpArgs false

def tapOne (p : Int × List Int) : Bool := decide (p.2.length ≤ 8 ∧ -128 ≤ p.1 ∧ p.1 ≤ 256)
def tapsOk (ts : Tbl) : Bool := ts.all tapOne
theorem tapsOk_yes {ts : Tbl} (h : ∀ i, i < ts.length → tapOne (ts.getD i (0, [])) = true) : tapsOk ts = true := by
  unfold tapsOk; rw [List.all_eq_true]; intro x hx; obtain ⟨i, hi, rfl⟩ := List.mem_iff_getElem.1 hx
  have := h i hi; rwa [List.getD_eq_getElem?_getD, List.getElem?_eq_getElem hi] at this
theorem tapsOk_at {ts : Tbl} (h : tapsOk ts = true) {i : Nat} (hi : i < ts.length) : (ts.getD i (0, [])).2.length ≤ 8 ∧ -128 ≤ (ts.getD i (0, [])).1 ∧ (ts.getD i (0, [])).1 ≤ 256 := by
  unfold tapsOk at h; rw [List.all_eq_true] at h
  have := h _ (List.getElem_mem hi)
  rw [List.getD_eq_getElem?_getD, List.getElem?_eq_getElem hi]
  simpa [tapOne] using this
theorem tapsOk_no {ts : Tbl} {i : Nat} (hi : i < ts.length) (h : tapOne (ts.getD i (0, [])) = false) : tapsOk ts = false := by
  unfold tapsOk; rw [List.all_eq_false]; refine ⟨_, List.getElem_mem hi, ?_⟩
  rw [List.getD_eq_getElem?_getD, List.getElem?_eq_getElem hi] at h; simpa using h
def stAcc (kd kw kh : Int) (rn cn : Nat) (X Y : Tbl) : Bool := if kd = 1 then sideOk kw && sideOk kh else if kd = 2 then sideOk (rn : Int) && sideOk (cn : Int) else if kd = 3 then tapsOk X && tapsOk Y else true
def spF (kd i side : Int) (T : Tbl) : Int := if kd = 1 ∨ kd = 2 then i - Int.tdiv side 2 else if kd = 3 then (if i < (T.length : Int) then (T.getD i.toNat (0, [])).1 else 0) else i
def spC (kd i side : Int) (T : Tbl) : Int := if kd = 1 ∨ kd = 2 then side else if kd = 3 then (if i < (T.length : Int) then ((T.getD i.toNat (0, [])).2.length : Int) else 0) else 1

set_option maxHeartbeats 800000 in
theorem fkernel_any (k : Int) (W : World) : Calls Try.prog 54 #[.int .i64 k] W fun e w' => e = .returned (.bool (sideOk k)) ∧ w' = W := by
  obtain ⟨B, hB⟩ : ∃ B, W.heap.size = B := ⟨_, rfl⟩
  have HI0 := hid (St.init hB)
  go_enter Try.func54, Try.ntmps54
  by_cases c1 : (1 : Int) ≤ k
  · skip
    go_wp2_with fail
    go_ret
    exact ⟨ret_b (by unfold sideOk; rw [Bool.eq_iff_iff]; simp; omega), rfl⟩
  · skip
    go_wp2_with fail
    go_ret
    exact ⟨ret_b (by unfold sideOk; exact (decide_eq_false (by omega)).symm), rfl⟩

set_option maxRecDepth 100000 in
set_option maxHeartbeats 1600000 in
theorem ftaps_any (a : Option Addr) (m c : Nat) (ts : Tbl) (W : World) (hs : Tps W a m c ts) : Calls Try.prog 55 #[.slice a m c] W fun e w' => e = .returned (.bool (tapsOk ts)) ∧ Below W.heap.size W w' := by
  obtain ⟨B, hB⟩ : ∃ B, W.heap.size = B := ⟨_, rfl⟩
  have HI0 := hid (St.init hB)
  have HL := hid hs.len
  have nmx : (m : Int) ≤ 9223372036854775807 := by have := hs.nc; have := hs.cap; omega
  have HS := hid hs
  clear hs
  go_enter Try.func55, Try.ntmps55
  go_wp2_with fail
  go_loopw [7] (fun i wr => ∃ j : Nat, j ≤ m ∧ (∀ i, i < j → tapOne (ts.getD i (0, [])) = true) ∧ i = .int .i64 j ∧ St B W [] [] wr) (fun i _ => m - (intOf i).toNat)
  case atStart => exact ⟨0, by omega, fun i hi => by omega, rfl, HI0.out⟩
  case round =>
    obtain ⟨j, hj, hall, rfl, hst⟩ := hrel
    obtain ⟨u2, rfl⟩ : ∃ u2 : World, u2 = wr := ⟨_, rfl⟩
    have H3 := hid hst
    clear hst
    have HALL := hid hall
    clear hall
    by_cases hjn : j < m
    · skip
      obtain ⟨pb, po, hpa⟩ := HS.out.at (by omega)
      subst hpa
      have hjn' : (j : Int) < m := by omega
      obtain ⟨ta, tn, tc, e1, e2, e3⟩ := HS.out.row (i := j) hjn
      obtain ⟨p, hp⟩ : ∃ p, ts.getD j (0, []) = p := ⟨_, rfl⟩
      obtain ⟨k, ws⟩ := p
      rw [hp] at e1 e3
      simp only at e1 e3
      have HE1 := hid e1
      have HE2 := hid e2
      have HWL := hid e3.len
      have tnm : (tn : Int) ≤ 9223372036854775807 := by have := e3.nc; have := e3.cap; omega
      have HP := hid hp
      have f1 := H3.out.oldCell HE1.out
      have f2 := H3.out.oldCell HE2.out
      clear e1 e2 e3 hp
      obtain ⟨D4, hD4⟩ : ∃ D, u2.heap.size = D := ⟨_, rfl⟩
      go_upto_region 4 with fail
      have H5 := hid (show St B W [.cells D4 #[.int .i64 k, .slice ta tn tc] 68] [] (u2.alloc (.cells #[.int .i64 k, .slice ta tn tc] 68)) from (H3.out.alloc #[.int .i64 k, .slice ta tn tc] 68 hD4))
      first | refine gen_code H5.out ?_ | refine gen_list H5.out ?_ | refine gen_calls H5.out ?_
      intro w6 hG
      clear H5
      have H5 := hid hG
      clear hG
      clear hD4
      by_cases c7 : (8 : Int) < tn
      · skip
        have z8 := H5.out.cell 0 rfl 0 rfl
        have z9 := H5.out.cell 0 rfl 1 rfl
        go_wp2_with fail
        clear z8 z9
        go_ret
        exact ⟨ret_b (tapsOk_no (i := j) (by rw [← HL.out]; exact hjn) (by rw [HP.out]; exact decide_eq_false (show ¬ (ws.length ≤ 8 ∧ -128 ≤ k ∧ k ≤ 256) by rw [HWL.out]; omega))).symm, by first | exact H5.out.below | exact H5.out.below'⟩
      · skip
        by_cases c10 : (k : Int) < (-128)
        · skip
          have z11 := H5.out.cell 0 rfl 0 rfl
          have z12 := H5.out.cell 0 rfl 1 rfl
          go_wp2_with fail
          clear z11 z12
          go_ret
          exact ⟨ret_b (tapsOk_no (i := j) (by rw [← HL.out]; exact hjn) (by rw [HP.out]; exact decide_eq_false (show ¬ (ws.length ≤ 8 ∧ -128 ≤ k ∧ k ≤ 256) by rw [HWL.out]; omega))).symm, by first | exact H5.out.below | exact H5.out.below'⟩
        · skip
          by_cases c13 : (256 : Int) < k
          · skip
            have z14 := H5.out.cell 0 rfl 0 rfl
            have z15 := H5.out.cell 0 rfl 1 rfl
            go_wp2_with fail
            clear z14 z15
            go_ret
            exact ⟨ret_b (tapsOk_no (i := j) (by rw [← HL.out]; exact hjn) (by rw [HP.out]; exact decide_eq_false (show ¬ (ws.length ≤ 8 ∧ -128 ≤ k ∧ k ≤ 256) by rw [HWL.out]; omega))).symm, by first | exact H5.out.below | exact H5.out.below'⟩
          · skip
            have z16 := H5.out.cell 0 rfl 0 rfl
            have z17 := H5.out.cell 0 rfl 1 rfl
            go_wp2_with fail
            clear z16 z17
            go_roundw
            case rel => exact ⟨j + 1, by omega, fun i hi => by rcases Nat.lt_or_ge i j with h' | h'; exact HALL.out i h'; rw [show i = j by omega, HP.out]; exact decide_eq_true (show ws.length ≤ 8 ∧ -128 ≤ k ∧ k ≤ 256 by rw [HWL.out]; omega), by go_num, H5.out.pick [] rfl (by decide)⟩
            case measure => first | (simp [intOf]; omega) | (simp [intOf]; done)
    · skip
      have hjn' : ¬ ((j : Int) < m) := by omega
      have HJM := hid (show j = m by omega)
      go_wp2_with fail
      go_ret
      exact ⟨ret_b (tapsOk_yes fun i hi => HALL.out i (by rw [← HL.out] at hi; rw [HJM.out]; exact hi)).symm, by first | exact H3.out.below | exact H3.out.below'⟩

set_option maxRecDepth 100000 in
set_option maxHeartbeats 1600000 in
theorem rtaps_any (a : Option Addr) (m c : Nat) (ts : Tbl) (W : World) (hs : Tps W a m c ts) : Calls Try.prog 58 #[.slice a m c] W fun e w' => e = .returned (.bool (tapsOk ts)) ∧ Below W.heap.size W w' := by
  obtain ⟨B, hB⟩ : ∃ B, W.heap.size = B := ⟨_, rfl⟩
  have HI0 := hid (St.init hB)
  have HL := hid hs.len
  have nmx : (m : Int) ≤ 9223372036854775807 := by have := hs.nc; have := hs.cap; omega
  have HS := hid hs
  clear hs
  go_enter Try.func58, Try.ntmps58
  go_wp2_with fail
  go_loopw [3] (fun i wr => ∃ j : Nat, j ≤ m ∧ (∀ i, i < j → tapOne (ts.getD i (0, [])) = true) ∧ i = .int .i64 j ∧ St B W [] [] wr) (fun i _ => m - (intOf i).toNat)
  case atStart => exact ⟨0, by omega, fun i hi => by omega, rfl, HI0.out⟩
  case round =>
    obtain ⟨j, hj, hall, rfl, hst⟩ := hrel
    obtain ⟨u18, rfl⟩ : ∃ u18 : World, u18 = wr := ⟨_, rfl⟩
    have H19 := hid hst
    clear hst
    have HALL := hid hall
    clear hall
    by_cases hjn : j < m
    · skip
      obtain ⟨pb, po, hpa⟩ := HS.out.at (by omega)
      subst hpa
      have hjn' : (j : Int) < m := by omega
      obtain ⟨ta, tn, tc, e1, e2, e3⟩ := HS.out.row (i := j) hjn
      obtain ⟨p, hp⟩ : ∃ p, ts.getD j (0, []) = p := ⟨_, rfl⟩
      obtain ⟨k, ws⟩ := p
      rw [hp] at e1 e3
      simp only at e1 e3
      have HE1 := hid e1
      have HE2 := hid e2
      have HWL := hid e3.len
      have tnm : (tn : Int) ≤ 9223372036854775807 := by have := e3.nc; have := e3.cap; omega
      have HP := hid hp
      have f1 := H19.out.oldCell HE1.out
      have f2 := H19.out.oldCell HE2.out
      clear e1 e2 e3 hp
      by_cases c20 : (8 : Int) < tn
      · skip
        go_wp2_with fail
        go_ret
        exact ⟨ret_b (tapsOk_no (i := j) (by rw [← HL.out]; exact hjn) (by rw [HP.out]; exact decide_eq_false (show ¬ (ws.length ≤ 8 ∧ -128 ≤ k ∧ k ≤ 256) by rw [HWL.out]; omega))).symm, by first | exact H19.out.below | exact H19.out.below'⟩
      · skip
        by_cases c21 : (k : Int) < (-128)
        · skip
          go_wp2_with fail
          go_ret
          exact ⟨ret_b (tapsOk_no (i := j) (by rw [← HL.out]; exact hjn) (by rw [HP.out]; exact decide_eq_false (show ¬ (ws.length ≤ 8 ∧ -128 ≤ k ∧ k ≤ 256) by rw [HWL.out]; omega))).symm, by first | exact H19.out.below | exact H19.out.below'⟩
        · skip
          by_cases c22 : (256 : Int) < k
          · skip
            go_wp2_with fail
            go_ret
            exact ⟨ret_b (tapsOk_no (i := j) (by rw [← HL.out]; exact hjn) (by rw [HP.out]; exact decide_eq_false (show ¬ (ws.length ≤ 8 ∧ -128 ≤ k ∧ k ≤ 256) by rw [HWL.out]; omega))).symm, by first | exact H19.out.below | exact H19.out.below'⟩
          · skip
            go_wp2_with fail
            go_roundw
            case rel => exact ⟨j + 1, by omega, fun i hi => by rcases Nat.lt_or_ge i j with h' | h'; exact HALL.out i h'; rw [show i = j by omega, HP.out]; exact decide_eq_true (show ws.length ≤ 8 ∧ -128 ≤ k ∧ k ≤ 256 by rw [HWL.out]; omega), by go_num, H19.out.pick [] rfl (by decide)⟩
            case measure => first | (simp [intOf]; omega) | (simp [intOf]; done)
    · skip
      have hjn' : ¬ ((j : Int) < m) := by omega
      have HJM := hid (show j = m by omega)
      go_wp2_with fail
      go_ret
      exact ⟨ret_b (tapsOk_yes fun i hi => HALL.out i (by rw [← HL.out] at hi; rw [HJM.out]; exact hi)).symm, by first | exact H19.out.below | exact H19.out.below'⟩

set_option maxRecDepth 100000 in
set_option maxHeartbeats 6400000 in
theorem facc_any (kd sa sb : Int) (bar : Bool) (ep ef kw kh : Int) (wa : Option Addr) (wn wc : Nat) (ra : Option Addr) (rn rc : Nat) (ca : Option Addr) (cn cc : Nat) (sh sh2 : Int) (xa : Option Addr) (xn xc : Nat) (ya : Option Addr) (yn yc : Nat) (bins : Int) (oa : Option Addr) (on oc : Nat) (mx : Int) (X Y : Tbl) (W : World) (hx : Tps W xa xn xc X) (hy : Tps W ya yn yc Y) :
    Calls Try.prog 42 #[.agg #[.int .i64 kd, .int .i64 sa, .int .i64 sb, .bool bar, .int .i64 ep, .int .i64 ef, .int .i64 kw, .int .i64 kh, .slice wa wn wc, .slice ra rn rc, .slice ca cn cc, .int .i64 sh, .int .i64 sh2, .slice xa xn xc, .slice ya yn yc, .int .i64 bins, .slice oa on oc, .int .i64 mx]] W fun e w' => e = .returned (.bool (sfOk kd sb ep ef kw kh wn rn cn sh sh2 xn yn bins on mx && stAcc kd kw kh rn cn X Y)) ∧ Below W.heap.size W w' := by
  obtain ⟨B, hB⟩ : ∃ B, W.heap.size = B := ⟨_, rfl⟩
  have HI0 := hid (St.init hB)
  have HX := hid hx
  have HY := hid hy
  clear hx hy
  go_enter Try.func42, Try.ntmps42
  go_upto_region 1 with fail
  have H23 := hid (show St B W [.cells B #[.int .i64 kd, .int .i64 sa, .int .i64 sb, .bool bar, .int .i64 ep, .int .i64 ef, .int .i64 kw, .int .i64 kh, .slice wa wn wc, .slice ra rn rc, .slice ca cn cc, .int .i64 sh, .int .i64 sh2, .slice xa xn xc, .slice ya yn yc, .int .i64 bins, .slice oa on oc, .int .i64 mx] 33] [] (W.alloc (.cells #[.int .i64 kd, .int .i64 sa, .int .i64 sb, .bool bar, .int .i64 ep, .int .i64 ef, .int .i64 kw, .int .i64 kh, .slice wa wn wc, .slice ra rn rc, .slice ca cn cc, .int .i64 sh, .int .i64 sh2, .slice xa xn xc, .slice ya yn yc, .int .i64 bins, .slice oa on oc, .int .i64 mx] 33)) from (HI0.out.alloc #[.int .i64 kd, .int .i64 sa, .int .i64 sb, .bool bar, .int .i64 ep, .int .i64 ef, .int .i64 kw, .int .i64 kh, .slice wa wn wc, .slice ra rn rc, .slice ca cn cc, .int .i64 sh, .int .i64 sh2, .slice xa xn xc, .slice ya yn yc, .int .i64 bins, .slice oa on oc, .int .i64 mx] 33 hB))
  first | refine gen_code H23.out ?_ | refine gen_list H23.out ?_ | refine gen_calls H23.out ?_
  intro w24 hG
  clear H23
  have H23 := hid hG
  clear hG
  have z25 := H23.out.cell 0 rfl 0 rfl
  have z26 := H23.out.cell 0 rfl 1 rfl
  have z27 := H23.out.cell 0 rfl 2 rfl
  have z28 := H23.out.cell 0 rfl 3 rfl
  have z29 := H23.out.cell 0 rfl 4 rfl
  have z30 := H23.out.cell 0 rfl 5 rfl
  have z31 := H23.out.cell 0 rfl 6 rfl
  have z32 := H23.out.cell 0 rfl 7 rfl
  have z33 := H23.out.cell 0 rfl 8 rfl
  have z34 := H23.out.cell 0 rfl 9 rfl
  have z35 := H23.out.cell 0 rfl 10 rfl
  have z36 := H23.out.cell 0 rfl 11 rfl
  have z37 := H23.out.cell 0 rfl 12 rfl
  have z38 := H23.out.cell 0 rfl 13 rfl
  have z39 := H23.out.cell 0 rfl 14 rfl
  have z40 := H23.out.cell 0 rfl 15 rfl
  have z41 := H23.out.cell 0 rfl 16 rfl
  have z42 := H23.out.cell 0 rfl 17 rfl
  go_wp2_with fail
  clear z25 z26 z27 z28 z29 z30 z31 z32 z33 z34 z35 z36 z37 z38 z39 z40 z41 z42
  refine (sfields_any _ _ _ _ _ _ _ _ _ _ _ _ _ _ _ _ _ _ _ _ _ _ _ _ _ _ _ _ _ _ _).mono ?_
  rintro e w43 ⟨rfl, hb⟩
  have H44 := hid (H23.out.call hb)
  clear hb
  obtain ⟨b45, hb45⟩ : ∃ xx', sfOk kd sb ep ef kw kh wn rn cn sh sh2 xn yn bins on mx = xx' := ⟨_, rfl⟩
  rw [hb45]
  have HNb45 := hid hb45
  clear hb45
  cases b45 with
  | true =>
    by_cases c46 : (kd : Int) = 1
    · obtain ⟨c46c, c46d⟩ : (kd : Int) ≤ 1 ∧ (1 : Int) ≤ kd := by omega
      have c46a : ((kd : Int) == (1)) = true := by simpa using c46
      have c46b : ((kd : Int) != (1)) = false := by simpa using c46
      have c46h := hid c46
      clear c46
      have z47 := H44.out.cell 0 rfl 0 rfl
      have z48 := H44.out.cell 0 rfl 1 rfl
      have z49 := H44.out.cell 0 rfl 2 rfl
      have z50 := H44.out.cell 0 rfl 3 rfl
      have z51 := H44.out.cell 0 rfl 4 rfl
      have z52 := H44.out.cell 0 rfl 5 rfl
      have z53 := H44.out.cell 0 rfl 6 rfl
      have z54 := H44.out.cell 0 rfl 7 rfl
      have z55 := H44.out.cell 0 rfl 8 rfl
      have z56 := H44.out.cell 0 rfl 9 rfl
      have z57 := H44.out.cell 0 rfl 10 rfl
      have z58 := H44.out.cell 0 rfl 11 rfl
      have z59 := H44.out.cell 0 rfl 12 rfl
      have z60 := H44.out.cell 0 rfl 13 rfl
      have z61 := H44.out.cell 0 rfl 14 rfl
      have z62 := H44.out.cell 0 rfl 15 rfl
      have z63 := H44.out.cell 0 rfl 16 rfl
      have z64 := H44.out.cell 0 rfl 17 rfl
      go_wp2_with fail
      clear z47 z48 z49 z50 z51 z52 z53 z54 z55 z56 z57 z58 z59 z60 z61 z62 z63 z64
      refine (fkernel_any _ _).mono ?_
      rintro e w65 ⟨rfl, hsw⟩
      have hsw2 : w43 = w65 := by first | exact hsw | exact hsw.symm
      clear hsw
      subst hsw2
      obtain ⟨b66, hb66⟩ : ∃ xx', sideOk (kw : Int) = xx' := ⟨_, rfl⟩
      rw [hb66]
      have HNb66 := hid hb66
      clear hb66
      cases b66 with
      | true =>
        have z67 := H44.out.cell 0 rfl 0 rfl
        have z68 := H44.out.cell 0 rfl 1 rfl
        have z69 := H44.out.cell 0 rfl 2 rfl
        have z70 := H44.out.cell 0 rfl 3 rfl
        have z71 := H44.out.cell 0 rfl 4 rfl
        have z72 := H44.out.cell 0 rfl 5 rfl
        have z73 := H44.out.cell 0 rfl 6 rfl
        have z74 := H44.out.cell 0 rfl 7 rfl
        have z75 := H44.out.cell 0 rfl 8 rfl
        have z76 := H44.out.cell 0 rfl 9 rfl
        have z77 := H44.out.cell 0 rfl 10 rfl
        have z78 := H44.out.cell 0 rfl 11 rfl
        have z79 := H44.out.cell 0 rfl 12 rfl
        have z80 := H44.out.cell 0 rfl 13 rfl
        have z81 := H44.out.cell 0 rfl 14 rfl
        have z82 := H44.out.cell 0 rfl 15 rfl
        have z83 := H44.out.cell 0 rfl 16 rfl
        have z84 := H44.out.cell 0 rfl 17 rfl
        go_wp2_with fail
        clear z67 z68 z69 z70 z71 z72 z73 z74 z75 z76 z77 z78 z79 z80 z81 z82 z83 z84
        refine (fkernel_any _ _).mono ?_
        rintro e w85 ⟨rfl, hsw⟩
        have hsw2 : w43 = w85 := by first | exact hsw | exact hsw.symm
        clear hsw
        subst hsw2
        obtain ⟨b86, hb86⟩ : ∃ xx', sideOk (kh : Int) = xx' := ⟨_, rfl⟩
        rw [hb86]
        have HNb86 := hid hb86
        clear hb86
        go_wp2_with fail
        go_ret
        exact ⟨ret_b (by rw [HNb45.out, Bool.true_and]; unfold stAcc; have := c46h.out; rw [if_pos (by omega), HNb66.out, HNb86.out]; try simp), by first | exact H44.out.below | exact H44.out.below'⟩
      | false =>
        go_wp2_with fail
        go_ret
        exact ⟨ret_b (by rw [HNb45.out, Bool.true_and]; unfold stAcc; have := c46h.out; rw [if_pos (by omega), HNb66.out]; rfl), by first | exact H44.out.below | exact H44.out.below'⟩
    · have c46a : ((kd : Int) == (1)) = false := by simpa using c46
      have c46b : ((kd : Int) != (1)) = true := by simpa using c46
      have c46h := hid c46
      clear c46
      by_cases c87 : (kd : Int) = 2
      · obtain ⟨c87c, c87d⟩ : (kd : Int) ≤ 2 ∧ (2 : Int) ≤ kd := by omega
        have c87a : ((kd : Int) == (2)) = true := by simpa using c87
        have c87b : ((kd : Int) != (2)) = false := by simpa using c87
        have c87h := hid c87
        clear c87
        have z88 := H44.out.cell 0 rfl 0 rfl
        have z89 := H44.out.cell 0 rfl 1 rfl
        have z90 := H44.out.cell 0 rfl 2 rfl
        have z91 := H44.out.cell 0 rfl 3 rfl
        have z92 := H44.out.cell 0 rfl 4 rfl
        have z93 := H44.out.cell 0 rfl 5 rfl
        have z94 := H44.out.cell 0 rfl 6 rfl
        have z95 := H44.out.cell 0 rfl 7 rfl
        have z96 := H44.out.cell 0 rfl 8 rfl
        have z97 := H44.out.cell 0 rfl 9 rfl
        have z98 := H44.out.cell 0 rfl 10 rfl
        have z99 := H44.out.cell 0 rfl 11 rfl
        have z100 := H44.out.cell 0 rfl 12 rfl
        have z101 := H44.out.cell 0 rfl 13 rfl
        have z102 := H44.out.cell 0 rfl 14 rfl
        have z103 := H44.out.cell 0 rfl 15 rfl
        have z104 := H44.out.cell 0 rfl 16 rfl
        have z105 := H44.out.cell 0 rfl 17 rfl
        go_wp2_with fail
        clear z88 z89 z90 z91 z92 z93 z94 z95 z96 z97 z98 z99 z100 z101 z102 z103 z104 z105
        refine (fkernel_any _ _).mono ?_
        rintro e w106 ⟨rfl, hsw⟩
        have hsw2 : w43 = w106 := by first | exact hsw | exact hsw.symm
        clear hsw
        subst hsw2
        obtain ⟨b107, hb107⟩ : ∃ xx', sideOk (rn : Int) = xx' := ⟨_, rfl⟩
        rw [hb107]
        have HNb107 := hid hb107
        clear hb107
        cases b107 with
        | true =>
          have z108 := H44.out.cell 0 rfl 0 rfl
          have z109 := H44.out.cell 0 rfl 1 rfl
          have z110 := H44.out.cell 0 rfl 2 rfl
          have z111 := H44.out.cell 0 rfl 3 rfl
          have z112 := H44.out.cell 0 rfl 4 rfl
          have z113 := H44.out.cell 0 rfl 5 rfl
          have z114 := H44.out.cell 0 rfl 6 rfl
          have z115 := H44.out.cell 0 rfl 7 rfl
          have z116 := H44.out.cell 0 rfl 8 rfl
          have z117 := H44.out.cell 0 rfl 9 rfl
          have z118 := H44.out.cell 0 rfl 10 rfl
          have z119 := H44.out.cell 0 rfl 11 rfl
          have z120 := H44.out.cell 0 rfl 12 rfl
          have z121 := H44.out.cell 0 rfl 13 rfl
          have z122 := H44.out.cell 0 rfl 14 rfl
          have z123 := H44.out.cell 0 rfl 15 rfl
          have z124 := H44.out.cell 0 rfl 16 rfl
          have z125 := H44.out.cell 0 rfl 17 rfl
          go_wp2_with fail
          clear z108 z109 z110 z111 z112 z113 z114 z115 z116 z117 z118 z119 z120 z121 z122 z123 z124 z125
          refine (fkernel_any _ _).mono ?_
          rintro e w126 ⟨rfl, hsw⟩
          have hsw2 : w43 = w126 := by first | exact hsw | exact hsw.symm
          clear hsw
          subst hsw2
          obtain ⟨b127, hb127⟩ : ∃ xx', sideOk (cn : Int) = xx' := ⟨_, rfl⟩
          rw [hb127]
          have HNb127 := hid hb127
          clear hb127
          go_wp2_with fail
          go_ret
          exact ⟨ret_b (by rw [HNb45.out, Bool.true_and]; unfold stAcc; have := c46h.out; have := c87h.out; rw [if_neg (by omega), if_pos (by omega), HNb107.out, HNb127.out]; try simp), by first | exact H44.out.below | exact H44.out.below'⟩
        | false =>
          go_wp2_with fail
          go_ret
          exact ⟨ret_b (by rw [HNb45.out, Bool.true_and]; unfold stAcc; have := c46h.out; have := c87h.out; rw [if_neg (by omega), if_pos (by omega), HNb107.out]; rfl), by first | exact H44.out.below | exact H44.out.below'⟩
      · have c87a : ((kd : Int) == (2)) = false := by simpa using c87
        have c87b : ((kd : Int) != (2)) = true := by simpa using c87
        have c87h := hid c87
        clear c87
        by_cases c128 : (kd : Int) = 3
        · obtain ⟨c128c, c128d⟩ : (kd : Int) ≤ 3 ∧ (3 : Int) ≤ kd := by omega
          have c128a : ((kd : Int) == (3)) = true := by simpa using c128
          have c128b : ((kd : Int) != (3)) = false := by simpa using c128
          have c128h := hid c128
          clear c128
          have z129 := H44.out.cell 0 rfl 0 rfl
          have z130 := H44.out.cell 0 rfl 1 rfl
          have z131 := H44.out.cell 0 rfl 2 rfl
          have z132 := H44.out.cell 0 rfl 3 rfl
          have z133 := H44.out.cell 0 rfl 4 rfl
          have z134 := H44.out.cell 0 rfl 5 rfl
          have z135 := H44.out.cell 0 rfl 6 rfl
          have z136 := H44.out.cell 0 rfl 7 rfl
          have z137 := H44.out.cell 0 rfl 8 rfl
          have z138 := H44.out.cell 0 rfl 9 rfl
          have z139 := H44.out.cell 0 rfl 10 rfl
          have z140 := H44.out.cell 0 rfl 11 rfl
          have z141 := H44.out.cell 0 rfl 12 rfl
          have z142 := H44.out.cell 0 rfl 13 rfl
          have z143 := H44.out.cell 0 rfl 14 rfl
          have z144 := H44.out.cell 0 rfl 15 rfl
          have z145 := H44.out.cell 0 rfl 16 rfl
          have z146 := H44.out.cell 0 rfl 17 rfl
          go_wp2_with fail
          clear z129 z130 z131 z132 z133 z134 z135 z136 z137 z138 z139 z140 z141 z142 z143 z144 z145 z146
          refine (ftaps_any _ _ _ X _ (H44.out.oldTps HX.out)).mono ?_
          rintro e w147 ⟨rfl, hb⟩
          have H148 := hid (H44.out.call hb)
          clear hb
          obtain ⟨b149, hb149⟩ : ∃ xx', tapsOk X = xx' := ⟨_, rfl⟩
          rw [hb149]
          have HNb149 := hid hb149
          clear hb149
          cases b149 with
          | true =>
            have z150 := H148.out.cell 0 rfl 0 rfl
            have z151 := H148.out.cell 0 rfl 1 rfl
            have z152 := H148.out.cell 0 rfl 2 rfl
            have z153 := H148.out.cell 0 rfl 3 rfl
            have z154 := H148.out.cell 0 rfl 4 rfl
            have z155 := H148.out.cell 0 rfl 5 rfl
            have z156 := H148.out.cell 0 rfl 6 rfl
            have z157 := H148.out.cell 0 rfl 7 rfl
            have z158 := H148.out.cell 0 rfl 8 rfl
            have z159 := H148.out.cell 0 rfl 9 rfl
            have z160 := H148.out.cell 0 rfl 10 rfl
            have z161 := H148.out.cell 0 rfl 11 rfl
            have z162 := H148.out.cell 0 rfl 12 rfl
            have z163 := H148.out.cell 0 rfl 13 rfl
            have z164 := H148.out.cell 0 rfl 14 rfl
            have z165 := H148.out.cell 0 rfl 15 rfl
            have z166 := H148.out.cell 0 rfl 16 rfl
            have z167 := H148.out.cell 0 rfl 17 rfl
            go_wp2_with fail
            clear z150 z151 z152 z153 z154 z155 z156 z157 z158 z159 z160 z161 z162 z163 z164 z165 z166 z167
            refine (ftaps_any _ _ _ Y _ (H148.out.oldTps HY.out)).mono ?_
            rintro e w168 ⟨rfl, hb⟩
            have H169 := hid (H148.out.call hb)
            clear hb
            obtain ⟨b170, hb170⟩ : ∃ xx', tapsOk Y = xx' := ⟨_, rfl⟩
            rw [hb170]
            have HNb170 := hid hb170
            clear hb170
            go_wp2_with fail
            go_ret
            exact ⟨ret_b (by rw [HNb45.out, Bool.true_and]; unfold stAcc; have := c46h.out; have := c87h.out; have := c128h.out; rw [if_neg (by omega), if_neg (by omega), if_pos (by omega), HNb149.out, HNb170.out]; try simp), by first | exact H169.out.below | exact H169.out.below'⟩
          | false =>
            go_wp2_with fail
            go_ret
            exact ⟨ret_b (by rw [HNb45.out, Bool.true_and]; unfold stAcc; have := c46h.out; have := c87h.out; have := c128h.out; rw [if_neg (by omega), if_neg (by omega), if_pos (by omega), HNb149.out]; rfl), by first | exact H148.out.below | exact H148.out.below'⟩
        · have c128a : ((kd : Int) == (3)) = false := by simpa using c128
          have c128b : ((kd : Int) != (3)) = true := by simpa using c128
          have c128h := hid c128
          clear c128
          have z171 := H44.out.cell 0 rfl 0 rfl
          have z172 := H44.out.cell 0 rfl 1 rfl
          have z173 := H44.out.cell 0 rfl 2 rfl
          have z174 := H44.out.cell 0 rfl 3 rfl
          have z175 := H44.out.cell 0 rfl 4 rfl
          have z176 := H44.out.cell 0 rfl 5 rfl
          have z177 := H44.out.cell 0 rfl 6 rfl
          have z178 := H44.out.cell 0 rfl 7 rfl
          have z179 := H44.out.cell 0 rfl 8 rfl
          have z180 := H44.out.cell 0 rfl 9 rfl
          have z181 := H44.out.cell 0 rfl 10 rfl
          have z182 := H44.out.cell 0 rfl 11 rfl
          have z183 := H44.out.cell 0 rfl 12 rfl
          have z184 := H44.out.cell 0 rfl 13 rfl
          have z185 := H44.out.cell 0 rfl 14 rfl
          have z186 := H44.out.cell 0 rfl 15 rfl
          have z187 := H44.out.cell 0 rfl 16 rfl
          have z188 := H44.out.cell 0 rfl 17 rfl
          go_wp2_with fail
          clear z171 z172 z173 z174 z175 z176 z177 z178 z179 z180 z181 z182 z183 z184 z185 z186 z187 z188
          go_ret
          exact ⟨ret_b (by rw [HNb45.out, Bool.true_and]; unfold stAcc; have := c46h.out; have := c87h.out; have := c128h.out; rw [if_neg (by omega), if_neg (by omega), if_neg (by omega)]), by first | exact H44.out.below | exact H44.out.below'⟩
  | false =>
    go_wp2_with fail
    go_ret
    exact ⟨ret_b (by rw [HNb45.out]; rfl), by first | exact H44.out.below | exact H44.out.below'⟩
end Go.Proofs.Ytlidacfokgdlgaa
