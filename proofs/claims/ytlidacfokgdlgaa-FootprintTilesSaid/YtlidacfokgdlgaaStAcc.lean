/-
 Contracts: which stages have needs, and the source coordinates of an output coordinate, in the program and in the reference.
-/
import Derived.Test.YtlidacfokgdlgaaStF1
import Derived.Test.YtlidacfokgdlgaaStF2
import Derived.Test.YtlidacfokgdlgaaKJ
import Derived.Test.YtlidacfokgdlgaaKN
import Derived.Test.YtlidacfokgdlgaaKH
namespace Go.Proofs.Ytlidacfokgdlgaa
open Go.RowKit
attribute [local go_sem ↓] Go.wp_at_zero Go.wp_at_succ
set_option linter.unusedVariables false
set_option linter.unusedSimpArgs false

def tapOne (p : Int × List Int) : Bool := decide (p.2.length ≤ 8 ∧ -128 ≤ p.1 ∧ p.1 ≤ 256)
def tapsOk (ts : Tbl) : Bool := ts.all tapOne
theorem tapsOk_yes {ts : Tbl} (h : ∀ i, i < ts.length → tapOne (ts.getD i (0, [])) = true) : tapsOk ts = true := by
 unfold tapsOk; rw [List.all_eq_true]; intro x hx; obtain ⟨i, hi, rfl⟩ := List.mem_iff_getElem.1 hx
 have := h i hi; rwa [List.getD_eq_getElem?_getD, List.getElem?_eq_getElem hi] at this
theorem tapsOk_at {ts : Tbl} (h : tapsOk ts = true) {i : Nat} (hi : i < ts.length) : (ts.getD i (0, [])).2.length ≤ 8 ∧ -128 ≤ (ts.getD i (0, [])).1 ∧ (ts.getD i (0, [])).1 ≤ 256 := by
 unfold tapsOk at h; rw [List.all_eq_true] at h
 have := h _ (List.getElem_mem hi)
 rw [List.getD_eq_getElem?_getD, List.getElem?_eq_getElem hi]
 simpa [tapOne] using this
theorem tapsOk_no {ts : Tbl} {i : Nat} (hi : i < ts.length) (h : tapOne (ts.getD i (0, [])) = false) : tapsOk ts = false := by
 unfold tapsOk; rw [List.all_eq_false]; refine ⟨_, List.getElem_mem hi, ?_⟩
 rw [List.getD_eq_getElem?_getD, List.getElem?_eq_getElem hi] at h; simpa using h
def stAcc (kd kw kh : Int) (rn cn : Nat) (X Y : Tbl) : Bool := if kd = 1 then sideOk kw && sideOk kh else if kd = 2 then sideOk (rn : Int) && sideOk (cn : Int) else if kd = 3 then tapsOk X && tapsOk Y else true
def spF (kd i side : Int) (T : Tbl) : Int := if kd = 1 ∨ kd = 2 then i - Int.tdiv side 2 else if kd = 3 then (if i < (T.length : Int) then (T.getD i.toNat (0, [])).1 else 0) else i
def spC (kd i side : Int) (T : Tbl) : Int := if kd = 1 ∨ kd = 2 then side else if kd = 3 then (if i < (T.length : Int) then ((T.getD i.toNat (0, [])).2.length : Int) else 0) else 1

set_option maxHeartbeats 800000 in
theorem fkernel_any (k : Int) (W : World) : Calls Try.prog 54 #[.int .i64 k] W fun e w' => e = .returned (.bool (sideOk k)) ∧ w' = W := by
 obtain ⟨B, hB⟩ : ∃ B, W.heap.size = B := ⟨_, rfl⟩
 have HI0 := hid (St.init hB)
 go_enter Try.func54, Try.ntmps54
 by_cases c1 : (1 : Int) ≤ k
 ·
  skip
  go_wp2_with fail
  go_ret
  exact ⟨ret_b (by unfold sideOk; rw [Bool.eq_iff_iff]; simp; omega), rfl⟩
 ·
  skip
  go_wp2_with fail
  go_ret
  exact ⟨ret_b (by unfold sideOk; exact (decide_eq_false (by omega)).symm), rfl⟩

set_option maxRecDepth 100000 in
set_option maxHeartbeats 1600000 in
theorem ftaps_any (a : Option Addr) (m c : Nat) (ts : Tbl) (W : World) (hs : Tps W a m c ts) : Calls Try.prog 55 #[.slice a m c] W fun e w' => e = .returned (.bool (tapsOk ts)) ∧ Below W.heap.size W w' := by
 obtain ⟨B, hB⟩ : ∃ B, W.heap.size = B := ⟨_, rfl⟩
 have HI0 := hid (St.init hB)
 have HL := hid hs.len
 have nmx : (m : Int) ≤ 9223372036854775807 := by have := hs.nc; have := hs.cap; omega
 have HS := hid hs
 clear hs
 go_enter Try.func55, Try.ntmps55
 go_wp2_with fail
 go_loopw [7] (fun i wr => ∃ j : Nat, j ≤ m ∧ (∀ i, i < j → tapOne (ts.getD i (0, [])) = true) ∧ i = .int .i64 j ∧ St B W [] [] wr) (fun i _ => m - (intOf i).toNat)
 case atStart => exact ⟨0, by omega, fun i hi => by omega, rfl, HI0.out⟩
 case round =>
  obtain ⟨j, hj, hall, rfl, hst⟩ := hrel
  obtain ⟨u2, rfl⟩ : ∃ u2 : World, u2 = wr := ⟨_, rfl⟩
  have H3 := hid hst
  clear hst
  have HALL := hid hall
  clear hall
  by_cases hjn : j < m
  ·
   skip
   obtain ⟨pb, po, hpa⟩ := HS.out.at (by omega)
   subst hpa
   have hjn' : (j : Int) < m := by omega
   obtain ⟨ta, tn, tc, e1, e2, e3⟩ := HS.out.row (i := j) hjn
   obtain ⟨p, hp⟩ : ∃ p, ts.getD j (0, []) = p := ⟨_, rfl⟩
   obtain ⟨k, ws⟩ := p
   rw [hp] at e1 e3
   simp only at e1 e3
   have HE1 := hid e1
   have HE2 := hid e2
   have HWL := hid e3.len
   have tnm : (tn : Int) ≤ 9223372036854775807 := by have := e3.nc; have := e3.cap; omega
   have HP := hid hp
   have f1 := H3.out.oldCell HE1.out
   have f2 := H3.out.oldCell HE2.out
   clear e1 e2 e3 hp
   obtain ⟨D4, hD4⟩ : ∃ D, u2.heap.size = D := ⟨_, rfl⟩
   go_upto_region 4 with fail
   have H5 := hid (show St B W [.cells D4 #[.int .i64 k, .slice ta tn tc] 68] [] (u2.alloc (.cells #[.int .i64 k, .slice ta tn tc] 68)) from (H3.out.alloc #[.int .i64 k, .slice ta tn tc] 68 hD4))
   first | refine gen_code H5.out ?_ | refine gen_list H5.out ?_ | refine gen_calls H5.out ?_
   intro w6 hG
   clear H5
   have H5 := hid hG
   clear hG
   clear hD4
   by_cases c7 : (8 : Int) < tn
   ·
    skip
    have z8 := H5.out.cell 0 rfl 0 rfl
    have z9 := H5.out.cell 0 rfl 1 rfl
    go_wp2_with fail
    clear z8 z9
    go_ret
    exact ⟨ret_b (tapsOk_no (i := j) (by rw [← HL.out]; exact hjn) (by rw [HP.out]; exact decide_eq_false (show ¬ (ws.length ≤ 8 ∧ -128 ≤ k ∧ k ≤ 256) by rw [HWL.out]; omega))).symm, by first | exact H5.out.below | exact H5.out.below'⟩
   ·
    skip
    by_cases c10 : (k : Int) < (-128)
    ·
     skip
     have z11 := H5.out.cell 0 rfl 0 rfl
     have z12 := H5.out.cell 0 rfl 1 rfl
     go_wp2_with fail
     clear z11 z12
     go_ret
     exact ⟨ret_b (tapsOk_no (i := j) (by rw [← HL.out]; exact hjn) (by rw [HP.out]; exact decide_eq_false (show ¬ (ws.length ≤ 8 ∧ -128 ≤ k ∧ k ≤ 256) by rw [HWL.out]; omega))).symm, by first | exact H5.out.below | exact H5.out.below'⟩
    ·
     skip
     by_cases c13 : (256 : Int) < k
     ·
      skip
      have z14 := H5.out.cell 0 rfl 0 rfl
      have z15 := H5.out.cell 0 rfl 1 rfl
      go_wp2_with fail
      clear z14 z15
      go_ret
      exact ⟨ret_b (tapsOk_no (i := j) (by rw [← HL.out]; exact hjn) (by rw [HP.out]; exact decide_eq_false (show ¬ (ws.length ≤ 8 ∧ -128 ≤ k ∧ k ≤ 256) by rw [HWL.out]; omega))).symm, by first | exact H5.out.below | exact H5.out.below'⟩
     ·
      skip
      have z16 := H5.out.cell 0 rfl 0 rfl
      have z17 := H5.out.cell 0 rfl 1 rfl
      go_wp2_with fail
      clear z16 z17
      go_roundw
      case rel => exact ⟨j + 1, by omega, fun i hi => by rcases Nat.lt_or_ge i j with h' | h'; exact HALL.out i h'; rw [show i = j by omega, HP.out]; exact decide_eq_true (show ws.length ≤ 8 ∧ -128 ≤ k ∧ k ≤ 256 by rw [HWL.out]; omega), by go_num, H5.out.pick [] rfl (by decide)⟩
      case measure => first | (simp [intOf]; omega) | (simp [intOf]; done)
  ·
   skip
   have hjn' : ¬ ((j : Int) < m) := by omega
   have HJM := hid (show j = m by omega)
   go_wp2_with fail
   go_ret
   exact ⟨ret_b (tapsOk_yes fun i hi => HALL.out i (by rw [← HL.out] at hi; rw [HJM.out]; exact hi)).symm, by first | exact H3.out.below | exact H3.out.below'⟩

set_option maxRecDepth 100000 in
set_option maxHeartbeats 1600000 in
theorem rtaps_any (a : Option Addr) (m c : Nat) (ts : Tbl) (W : World) (hs : Tps W a m c ts) : Calls Try.prog 58 #[.slice a m c] W fun e w' => e = .returned (.bool (tapsOk ts)) ∧ Below W.heap.size W w' := by
 obtain ⟨B, hB⟩ : ∃ B, W.heap.size = B := ⟨_, rfl⟩
 have HI0 := hid (St.init hB)
 have HL := hid hs.len
 have nmx : (m : Int) ≤ 9223372036854775807 := by have := hs.nc; have := hs.cap; omega
 have HS := hid hs
 clear hs
 go_enter Try.func58, Try.ntmps58
 go_wp2_with fail
 go_loopw [3] (fun i wr => ∃ j : Nat, j ≤ m ∧ (∀ i, i < j → tapOne (ts.getD i (0, [])) = true) ∧ i = .int .i64 j ∧ St B W [] [] wr) (fun i _ => m - (intOf i).toNat)
 case atStart => exact ⟨0, by omega, fun i hi => by omega, rfl, HI0.out⟩
 case round =>
  obtain ⟨j, hj, hall, rfl, hst⟩ := hrel
  obtain ⟨u18, rfl⟩ : ∃ u18 : World, u18 = wr := ⟨_, rfl⟩
  have H19 := hid hst
  clear hst
  have HALL := hid hall
  clear hall
  by_cases hjn : j < m
  ·
   skip
   obtain ⟨pb, po, hpa⟩ := HS.out.at (by omega)
   subst hpa
   have hjn' : (j : Int) < m := by omega
   obtain ⟨ta, tn, tc, e1, e2, e3⟩ := HS.out.row (i := j) hjn
   obtain ⟨p, hp⟩ : ∃ p, ts.getD j (0, []) = p := ⟨_, rfl⟩
   obtain ⟨k, ws⟩ := p
   rw [hp] at e1 e3
   simp only at e1 e3
   have HE1 := hid e1
   have HE2 := hid e2
   have HWL := hid e3.len
   have tnm : (tn : Int) ≤ 9223372036854775807 := by have := e3.nc; have := e3.cap; omega
   have HP := hid hp
   have f1 := H19.out.oldCell HE1.out
   have f2 := H19.out.oldCell HE2.out
   clear e1 e2 e3 hp
   by_cases c20 : (8 : Int) < tn
   ·
    skip
    go_wp2_with fail
    go_ret
    exact ⟨ret_b (tapsOk_no (i := j) (by rw [← HL.out]; exact hjn) (by rw [HP.out]; exact decide_eq_false (show ¬ (ws.length ≤ 8 ∧ -128 ≤ k ∧ k ≤ 256) by rw [HWL.out]; omega))).symm, by first | exact H19.out.below | exact H19.out.below'⟩
   ·
    skip
    by_cases c21 : (k : Int) < (-128)
    ·
     skip
     go_wp2_with fail
     go_ret
     exact ⟨ret_b (tapsOk_no (i := j) (by rw [← HL.out]; exact hjn) (by rw [HP.out]; exact decide_eq_false (show ¬ (ws.length ≤ 8 ∧ -128 ≤ k ∧ k ≤ 256) by rw [HWL.out]; omega))).symm, by first | exact H19.out.below | exact H19.out.below'⟩
    ·
     skip
     by_cases c22 : (256 : Int) < k
     ·
      skip
      go_wp2_with fail
      go_ret
      exact ⟨ret_b (tapsOk_no (i := j) (by rw [← HL.out]; exact hjn) (by rw [HP.out]; exact decide_eq_false (show ¬ (ws.length ≤ 8 ∧ -128 ≤ k ∧ k ≤ 256) by rw [HWL.out]; omega))).symm, by first | exact H19.out.below | exact H19.out.below'⟩
     ·
      skip
      go_wp2_with fail
      go_roundw
      case rel => exact ⟨j + 1, by omega, fun i hi => by rcases Nat.lt_or_ge i j with h' | h'; exact HALL.out i h'; rw [show i = j by omega, HP.out]; exact decide_eq_true (show ws.length ≤ 8 ∧ -128 ≤ k ∧ k ≤ 256 by rw [HWL.out]; omega), by go_num, H19.out.pick [] rfl (by decide)⟩
      case measure => first | (simp [intOf]; omega) | (simp [intOf]; done)
  ·
   skip
   have hjn' : ¬ ((j : Int) < m) := by omega
   have HJM := hid (show j = m by omega)
   go_wp2_with fail
   go_ret
   exact ⟨ret_b (tapsOk_yes fun i hi => HALL.out i (by rw [← HL.out] at hi; rw [HJM.out]; exact hi)).symm, by first | exact H19.out.below | exact H19.out.below'⟩

theorem sfields_A {kd sa sb : Int} {bar : Bool} {ep ef kw kh : Int} {wa : Option Addr} {wn wc : Nat} {ra : Option Addr} {rn rc : Nat} {ca : Option Addr} {cn cc : Nat} {sh sh2 : Int} {xa : Option Addr} {xn xc : Nat} {ya : Option Addr} {yn yc : Nat} {bins : Int} {oa : Option Addr} {on oc : Nat} {mx : Int} {A : Array Value} (hA : A = #[.int .i64 kd, .int .i64 sa, .int .i64 sb, .bool bar, .int .i64 ep, .int .i64 ef, .int .i64 kw, .int .i64 kh, .slice wa wn wc, .slice ra rn rc, .slice ca cn cc, .int .i64 sh, .int .i64 sh2, .slice xa xn xc, .slice ya yn yc, .int .i64 bins, .slice oa on oc, .int .i64 mx]) (W : World) : Calls Try.prog 53 #[.agg A] W fun e w' => e = .returned (.bool (sfOk kd sb ep ef kw kh wn rn cn sh sh2 xn yn bins on mx)) ∧ Below W.heap.size W w' := by
 subst hA; exact sfields_any _ _ _ _ _ _ _ _ _ _ _ _ _ _ _ _ _ _ _ _ _ _ _ _ _ _ _ _ _ _ W

set_option maxRecDepth 100000 in
set_option maxHeartbeats 6400000 in
theorem facc_A {kd sa sb : Int} {bar : Bool} {ep ef kw kh : Int} {wa : Option Addr} {wn wc : Nat} {ra : Option Addr} {rn rc : Nat} {ca : Option Addr} {cn cc : Nat} {sh sh2 : Int} {xa : Option Addr} {xn xc : Nat} {ya : Option Addr} {yn yc : Nat} {bins : Int} {oa : Option Addr} {on oc : Nat} {mx : Int} {A : Array Value} (hA : A = #[.int .i64 kd, .int .i64 sa, .int .i64 sb, .bool bar, .int .i64 ep, .int .i64 ef, .int .i64 kw, .int .i64 kh, .slice wa wn wc, .slice ra rn rc, .slice ca cn cc, .int .i64 sh, .int .i64 sh2, .slice xa xn xc, .slice ya yn yc, .int .i64 bins, .slice oa on oc, .int .i64 mx]) (X Y : Tbl) (W : World) (hx : Tps W xa xn xc X) (hy : Tps W ya yn yc Y) :
  Calls Try.prog 42 #[.agg A] W fun e w' => e = .returned (.bool (sfOk kd sb ep ef kw kh wn rn cn sh sh2 xn yn bins on mx && stAcc kd kw kh rn cn X Y)) ∧ Below W.heap.size W w' := by
 obtain ⟨B, hB⟩ : ∃ B, W.heap.size = B := ⟨_, rfl⟩
 have HI0 := hid (St.init hB)
 have HX := hid hx
 have HY := hid hy
 have HA := hid hA
 clear hx hy hA
 go_enter Try.func42, Try.ntmps42
 go_upto_region 1 with fail
 have H23 := hid (show St B W [.cells B A 33] [] (W.alloc (.cells A 33)) from (HI0.out.alloc A 33 hB))
 first | refine gen_code H23.out ?_ | refine gen_list H23.out ?_ | refine gen_calls H23.out ?_
 intro w24 hG
 clear H23
 have H23 := hid hG
 clear hG
 have z25 := H23.out.loadStg 0 rfl (by rw [HA.out]; rfl)
 go_wp2_with (refine loadArm z25 (by rfl) (by rfl) ?_)
 clear z25
 refine (sfields_A HA.out _).mono ?_
 rintro e w26 ⟨rfl, hb⟩
 have H27 := hid (H23.out.call hb)
 clear hb
 obtain ⟨b28, hb28⟩ : ∃ xx', sfOk kd sb ep ef kw kh wn rn cn sh sh2 xn yn bins on mx = xx' := ⟨_, rfl⟩
 rw [hb28]
 have HNb28 := hid hb28
 clear hb28
 cases b28 with
 | true =>
  by_cases c29 : (kd : Int) = 1
  ·
   obtain ⟨c29c, c29d⟩ : (kd : Int) ≤ 1 ∧ (1 : Int) ≤ kd := by omega
   have c29a : ((kd : Int) == (1)) = true := by simpa using c29
   have c29b : ((kd : Int) != (1)) = false := by simpa using c29
   have c29h := hid c29
   clear c29
   have z30 := H27.out.cell 0 rfl 0 (show A[0]? = some (.int .i64 kd) from by rw [HA.out]; rfl)
   have z31 := H27.out.cell 0 rfl 6 (show A[6]? = some (.int .i64 kw) from by rw [HA.out]; rfl)
   go_wp2_with fail
   clear z30 z31
   refine (fkernel_any _ _).mono ?_
   rintro e w32 ⟨rfl, hsw⟩
   have hsw2 : w26 = w32 := by first | exact hsw | exact hsw.symm
   clear hsw
   subst hsw2
   obtain ⟨b33, hb33⟩ : ∃ xx', sideOk (kw : Int) = xx' := ⟨_, rfl⟩
   rw [hb33]
   have HNb33 := hid hb33
   clear hb33
   cases b33 with
   | true =>
    have z34 := H27.out.cell 0 rfl 7 (show A[7]? = some (.int .i64 kh) from by rw [HA.out]; rfl)
    go_wp2_with fail
    clear z34
    refine (fkernel_any _ _).mono ?_
    rintro e w35 ⟨rfl, hsw⟩
    have hsw2 : w26 = w35 := by first | exact hsw | exact hsw.symm
    clear hsw
    subst hsw2
    obtain ⟨b36, hb36⟩ : ∃ xx', sideOk (kh : Int) = xx' := ⟨_, rfl⟩
    rw [hb36]
    have HNb36 := hid hb36
    clear hb36
    go_wp2_with fail
    go_ret
    exact ⟨ret_b (by rw [HNb28.out, Bool.true_and]; unfold stAcc; have := c29h.out; rw [if_pos (by omega), HNb33.out, HNb36.out]; try simp), by first | exact H27.out.below | exact H27.out.below'⟩
   | false =>
    go_wp2_with fail
    go_ret
    exact ⟨ret_b (by rw [HNb28.out, Bool.true_and]; unfold stAcc; have := c29h.out; rw [if_pos (by omega), HNb33.out]; rfl), by first | exact H27.out.below | exact H27.out.below'⟩
  ·
   have c29a : ((kd : Int) == (1)) = false := by simpa using c29
   have c29b : ((kd : Int) != (1)) = true := by simpa using c29
   have c29h := hid c29
   clear c29
   by_cases c37 : (kd : Int) = 2
   ·
    obtain ⟨c37c, c37d⟩ : (kd : Int) ≤ 2 ∧ (2 : Int) ≤ kd := by omega
    have c37a : ((kd : Int) == (2)) = true := by simpa using c37
    have c37b : ((kd : Int) != (2)) = false := by simpa using c37
    have c37h := hid c37
    clear c37
    have z38 := H27.out.cell 0 rfl 0 (show A[0]? = some (.int .i64 kd) from by rw [HA.out]; rfl)
    have z39 := H27.out.cell 0 rfl 9 (show A[9]? = some (.slice ra rn rc) from by rw [HA.out]; rfl)
    go_wp2_with fail
    clear z38 z39
    refine (fkernel_any _ _).mono ?_
    rintro e w40 ⟨rfl, hsw⟩
    have hsw2 : w26 = w40 := by first | exact hsw | exact hsw.symm
    clear hsw
    subst hsw2
    obtain ⟨b41, hb41⟩ : ∃ xx', sideOk (rn : Int) = xx' := ⟨_, rfl⟩
    rw [hb41]
    have HNb41 := hid hb41
    clear hb41
    cases b41 with
    | true =>
     have z42 := H27.out.cell 0 rfl 10 (show A[10]? = some (.slice ca cn cc) from by rw [HA.out]; rfl)
     go_wp2_with fail
     clear z42
     refine (fkernel_any _ _).mono ?_
     rintro e w43 ⟨rfl, hsw⟩
     have hsw2 : w26 = w43 := by first | exact hsw | exact hsw.symm
     clear hsw
     subst hsw2
     obtain ⟨b44, hb44⟩ : ∃ xx', sideOk (cn : Int) = xx' := ⟨_, rfl⟩
     rw [hb44]
     have HNb44 := hid hb44
     clear hb44
     go_wp2_with fail
     go_ret
     exact ⟨ret_b (by rw [HNb28.out, Bool.true_and]; unfold stAcc; have := c29h.out; have := c37h.out; rw [if_neg (by omega), if_pos (by omega), HNb41.out, HNb44.out]; try simp), by first | exact H27.out.below | exact H27.out.below'⟩
    | false =>
     go_wp2_with fail
     go_ret
     exact ⟨ret_b (by rw [HNb28.out, Bool.true_and]; unfold stAcc; have := c29h.out; have := c37h.out; rw [if_neg (by omega), if_pos (by omega), HNb41.out]; rfl), by first | exact H27.out.below | exact H27.out.below'⟩
   ·
    have c37a : ((kd : Int) == (2)) = false := by simpa using c37
    have c37b : ((kd : Int) != (2)) = true := by simpa using c37
    have c37h := hid c37
    clear c37
    by_cases c45 : (kd : Int) = 3
    ·
     obtain ⟨c45c, c45d⟩ : (kd : Int) ≤ 3 ∧ (3 : Int) ≤ kd := by omega
     have c45a : ((kd : Int) == (3)) = true := by simpa using c45
     have c45b : ((kd : Int) != (3)) = false := by simpa using c45
     have c45h := hid c45
     clear c45
     have z46 := H27.out.cell 0 rfl 0 (show A[0]? = some (.int .i64 kd) from by rw [HA.out]; rfl)
     have z47 := H27.out.cell 0 rfl 13 (show A[13]? = some (.slice xa xn xc) from by rw [HA.out]; rfl)
     go_wp2_with fail
     clear z46 z47
     refine (ftaps_any _ _ _ X _ (H27.out.oldTps HX.out)).mono ?_
     rintro e w48 ⟨rfl, hb⟩
     have H49 := hid (H27.out.call hb)
     clear hb
     obtain ⟨b50, hb50⟩ : ∃ xx', tapsOk X = xx' := ⟨_, rfl⟩
     rw [hb50]
     have HNb50 := hid hb50
     clear hb50
     cases b50 with
     | true =>
      have z51 := H49.out.cell 0 rfl 14 (show A[14]? = some (.slice ya yn yc) from by rw [HA.out]; rfl)
      go_wp2_with fail
      clear z51
      refine (ftaps_any _ _ _ Y _ (H49.out.oldTps HY.out)).mono ?_
      rintro e w52 ⟨rfl, hb⟩
      have H53 := hid (H49.out.call hb)
      clear hb
      obtain ⟨b54, hb54⟩ : ∃ xx', tapsOk Y = xx' := ⟨_, rfl⟩
      rw [hb54]
      have HNb54 := hid hb54
      clear hb54
      go_wp2_with fail
      go_ret
      exact ⟨ret_b (by rw [HNb28.out, Bool.true_and]; unfold stAcc; have := c29h.out; have := c37h.out; have := c45h.out; rw [if_neg (by omega), if_neg (by omega), if_pos (by omega), HNb50.out, HNb54.out]; try simp), by first | exact H53.out.below | exact H53.out.below'⟩
     | false =>
      go_wp2_with fail
      go_ret
      exact ⟨ret_b (by rw [HNb28.out, Bool.true_and]; unfold stAcc; have := c29h.out; have := c37h.out; have := c45h.out; rw [if_neg (by omega), if_neg (by omega), if_pos (by omega), HNb50.out]; rfl), by first | exact H49.out.below | exact H49.out.below'⟩
    ·
     have c45a : ((kd : Int) == (3)) = false := by simpa using c45
     have c45b : ((kd : Int) != (3)) = true := by simpa using c45
     have c45h := hid c45
     clear c45
     have z55 := H27.out.cell 0 rfl 0 (show A[0]? = some (.int .i64 kd) from by rw [HA.out]; rfl)
     go_wp2_with fail
     clear z55
     go_ret
     exact ⟨ret_b (by rw [HNb28.out, Bool.true_and]; unfold stAcc; have := c29h.out; have := c37h.out; have := c45h.out; rw [if_neg (by omega), if_neg (by omega), if_neg (by omega)]), by first | exact H27.out.below | exact H27.out.below'⟩
 | false =>
  go_wp2_with fail
  go_ret
  exact ⟨ret_b (by rw [HNb28.out]; rfl), by first | exact H27.out.below | exact H27.out.below'⟩
end Go.Proofs.Ytlidacfokgdlgaa
