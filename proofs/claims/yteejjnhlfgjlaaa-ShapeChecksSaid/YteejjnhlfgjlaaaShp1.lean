/-
 Contracts: valid shapes, kinds with edges, pairs of sources and sources, in the program and in the reference.
-/
import Derived.Test.YteejjnhlfgjlaaaShPlain
import Derived.Test.YteejjnhlfgjlaaaKH
import Derived.Test.YteejjnhlfgjlaaaKB
namespace Go.Proofs.Yteejjnhlfgjlaaa
open Go.RowKit
attribute [local go_sem ↓] Go.wp_at_zero Go.wp_at_succ
set_option linter.unusedVariables false
set_option linter.unusedSimpArgs false

def shSrc (kd sa sb : Int) : List Int := if shTwo kd sb = true then [sa, sb] else [sa]

set_option maxRecDepth 100000 in
set_option maxHeartbeats 1600000 in
theorem shvalid_any (w h mx : Int) (W : World) : Calls Try.prog 16 #[.agg #[.int .i64 w, .int .i64 h, .int .i64 mx]] W fun e w' => e = .returned (.bool (pOk w h mx)) ∧ Below W.heap.size W w' := by
 obtain ⟨B, hB⟩ : ∃ B, W.heap.size = B := ⟨_, rfl⟩; have HI0 := hid (St.init hB)
 go_enter Try.func16, Try.ntmps16
 go_upto_region 1 with fail
 have H1 := hid (HI0.out.alloc #[.int .i64 w, .int .i64 h, .int .i64 mx] 24 hB); first | refine gK H1 ?_ | refine gL H1 ?_ | refine gC H1 ?_
 clear H1; intro w2 H1; by_cases c3 : (w : Int) < 1
 ·
  obtain ⟨z4, z5, z6⟩ := H1.out.c3 0 rfl; go_wp2_with fail
  clear z4 z5 z6
  go_ret
  exact ⟨ret_b (by unfold pOk; exact (decide_eq_false (by omega)).symm), H1.out.bl⟩
 by_cases c7 : (128 : Int) < w
 ·
  obtain ⟨z8, z9, z1⟩ := H1.out.c3 0 rfl; go_wp2_with fail
  clear z8 z9 z1
  go_ret
  exact ⟨ret_b (by unfold pOk; exact (decide_eq_false (by omega)).symm), H1.out.bl⟩
 by_cases c1 : (h : Int) < 1
 ·
  obtain ⟨z1, z2, z3⟩ := H1.out.c3 0 rfl; go_wp2_with fail
  clear z1 z2 z3
  go_ret
  exact ⟨ret_b (by unfold pOk; exact (decide_eq_false (by omega)).symm), H1.out.bl⟩
 by_cases c1 : (128 : Int) < h
 ·
  obtain ⟨z16, z1, z2⟩ := H1.out.c3 0 rfl; go_wp2_with fail
  clear z16 z1 z2
  go_ret
  exact ⟨ret_b (by unfold pOk; exact (decide_eq_false (by omega)).symm), H1.out.bl⟩
 by_cases c1 : (mx : Int) < 1
 ·
  obtain ⟨z1, z2, z3⟩ := H1.out.c3 0 rfl; go_wp2_with fail
  clear z1 z2 z3
  go_ret
  exact ⟨ret_b (by unfold pOk; exact (decide_eq_false (by omega)).symm), H1.out.bl⟩
 by_cases c1 : (4294967296 : Int) < mx
 ·
  obtain ⟨z1, z2, z3⟩ := H1.out.c3 0 rfl; go_wp2_with fail
  clear z1 z2 z3
  go_ret
  exact ⟨ret_b (by unfold pOk; exact (decide_eq_false (by omega)).symm), H1.out.bl⟩
 obtain ⟨z1, z2, z3⟩ := H1.out.c3 0 rfl; go_wp2_with fail
 clear z1 z2 z3; refine (mulAny w h 4096 _ (by omega)).mono ?_; rintro e w1 ⟨rfl, hsw⟩; have hsw2 : w2 = w1 := by first | exact hsw | exact hsw.symm
 clear hsw; subst hsw2; obtain ⟨mv, hmv⟩ : ∃ z, mVal w h 4096 = z := ⟨_, rfl⟩; rw [hmv]; clear hmv; obtain ⟨b1, hb1⟩ : ∃ xx', mOk w h 4096 = xx' := ⟨_, rfl⟩; rw [hb1]; have HNb1 := hid hb1; clear hb1; go_wp2_with fail
 go_ret
 exact ⟨ret_b (by rw [← HNb1.out]; unfold pOk mOk; exact decide_eq_decide.2 (by omega)), H1.out.bl⟩

set_option maxRecDepth 100000 in
set_option maxHeartbeats 1600000 in
theorem rshvalid_any (w h mx : Int) (W : World) : Calls Try.prog 17 #[.agg #[.int .i64 w, .int .i64 h, .int .i64 mx]] W fun e w' => e = .returned (.bool (pOk w h mx)) ∧ Below W.heap.size W w' := by
 obtain ⟨B, hB⟩ : ∃ B, W.heap.size = B := ⟨_, rfl⟩; have HI0 := hid (St.init hB)
 go_enter Try.func17, Try.ntmps17
 go_upto_region 1 with fail
 have H32 := hid (HI0.out.alloc #[.int .i64 w, .int .i64 h, .int .i64 mx] 24 hB); first | refine gK H32 ?_ | refine gL H32 ?_ | refine gC H32 ?_
 clear H32; intro w1 H32; obtain ⟨z1, z2, z3⟩ := H32.out.c3 0 rfl; go_wp2_with fail
 clear z1 z2 z3; refine (qsize_any _ _ _ _).mono ?_; rintro e w2 ⟨rfl, hsw⟩; have hsw2 : w1 = w2 := by first | exact hsw | exact hsw.symm
 clear hsw; subst hsw2; obtain ⟨b1, hb1⟩ : ∃ xx', pOk w h mx = xx' := ⟨_, rfl⟩; rw [hb1]; have HNb1 := hid hb1; clear hb1; go_wp2_with fail
 go_ret
 exact ⟨ret_b HNb1.out.symm, H32.out.bl⟩

set_option maxRecDepth 100000 in
set_option maxHeartbeats 1600000 in
theorem pair_any {kd sa sb : Int} {bar : Bool} {ep ef kw kh : Int} {wa : Option Addr} {wn wc : Nat} {ra : Option Addr} {rn rc : Nat} {ca : Option Addr} {cn cc : Nat} {sh sh2 : Int} {xa : Option Addr} {xn xc : Nat} {ya : Option Addr} {yn yc : Nat} {bins : Int} {oa : Option Addr} {on oc : Nat} {mx : Int} {A : Array Value} (hA : A = #[.int .i64 kd, .int .i64 sa, .int .i64 sb, .bool bar, .int .i64 ep, .int .i64 ef, .int .i64 kw, .int .i64 kh, .slice wa wn wc, .slice ra rn rc, .slice ca cn cc, .int .i64 sh, .int .i64 sh2, .slice xa xn xc, .slice ya yn yc, .int .i64 bins, .slice oa on oc, .int .i64 mx]) (W : World) : Calls Try.prog 25 #[.agg A] W fun e w' => e = .returned (.bool (shTwo kd sb)) ∧ Below W.heap.size W w' := by
 have HA := hid hA; clear hA; obtain ⟨B, hB⟩ : ∃ B, W.heap.size = B := ⟨_, rfl⟩; have HI0 := hid (St.init hB)
 go_enter Try.func25, Try.ntmps25
 go_upto_region 1 with fail
 have H1 := hid (HI0.out.alloc A 33 hB); first | refine gK H1 ?_ | refine gL H1 ?_ | refine gC H1 ?_
 clear H1; intro w1 H1; by_cases c1 : (kd : Int) = 6
 ·
  obtain ⟨c1c, c1d⟩ : (kd : Int) ≤ 6 ∧ (6 : Int) ≤ kd := by omega
  have c1a : ((kd : Int) == (6)) = true := by simpa using c1
  have c1b : ((kd : Int) != (6)) = false := by simpa using c1
  have c1h := hid c1; clear c1; have z1 := H1.out.cell 0 rfl 0 (show A[0]? = some (.int .i64 kd) from by rw [HA.out]; rfl); have z2 := H1.out.cell 0 rfl 2 (show A[2]? = some (.int .i64 sb) from by rw [HA.out]; rfl); go_wp2_with fail
  clear z1 z2
  go_ret
  exact ⟨ret_b (by unfold shTwo; have := c1h.out; rw [Bool.eq_iff_iff]; simp; omega), H1.out.bl⟩
 have c1a : ((kd : Int) == (6)) = false := by simpa using c1
 have c1b : ((kd : Int) != (6)) = true := by simpa using c1
 have c1h := hid c1; clear c1; have z1 := H1.out.cell 0 rfl 0 (show A[0]? = some (.int .i64 kd) from by rw [HA.out]; rfl); go_wp2_with fail
 clear z1
 go_ret
 exact ⟨ret_b (by unfold shTwo; have := c1h.out; exact (decide_eq_false (by omega)).symm), H1.out.bl⟩

set_option maxRecDepth 100000 in
set_option maxHeartbeats 1600000 in
theorem rtwo_any {kd sa sb : Int} {bar : Bool} {ep ef kw kh : Int} {wa : Option Addr} {wn wc : Nat} {ra : Option Addr} {rn rc : Nat} {ca : Option Addr} {cn cc : Nat} {sh sh2 : Int} {xa : Option Addr} {xn xc : Nat} {ya : Option Addr} {yn yc : Nat} {bins : Int} {oa : Option Addr} {on oc : Nat} {mx : Int} {A : Array Value} (hA : A = #[.int .i64 kd, .int .i64 sa, .int .i64 sb, .bool bar, .int .i64 ep, .int .i64 ef, .int .i64 kw, .int .i64 kh, .slice wa wn wc, .slice ra rn rc, .slice ca cn cc, .int .i64 sh, .int .i64 sh2, .slice xa xn xc, .slice ya yn yc, .int .i64 bins, .slice oa on oc, .int .i64 mx]) (W : World) : Calls Try.prog 29 #[.agg A] W fun e w' => e = .returned (.bool (shTwo kd sb)) ∧ Below W.heap.size W w' := by
 have HA := hid hA; clear hA; obtain ⟨B, hB⟩ : ∃ B, W.heap.size = B := ⟨_, rfl⟩; have HI0 := hid (St.init hB)
 go_enter Try.func29, Try.ntmps29
 go_upto_region 1 with fail
 have H1 := hid (HI0.out.alloc A 33 hB); first | refine gK H1 ?_ | refine gL H1 ?_ | refine gC H1 ?_
 clear H1; intro w1 H1; by_cases c1 : (kd : Int) = 6
 ·
  obtain ⟨c1c, c1d⟩ : (kd : Int) ≤ 6 ∧ (6 : Int) ≤ kd := by omega
  have c1a : ((kd : Int) == (6)) = true := by simpa using c1
  have c1b : ((kd : Int) != (6)) = false := by simpa using c1
  have c1h := hid c1; clear c1; have z1 := H1.out.cell 0 rfl 0 (show A[0]? = some (.int .i64 kd) from by rw [HA.out]; rfl); have z2 := H1.out.cell 0 rfl 2 (show A[2]? = some (.int .i64 sb) from by rw [HA.out]; rfl); go_wp2_with fail
  clear z1 z2
  go_ret
  exact ⟨ret_b (by unfold shTwo; have := c1h.out; rw [Bool.eq_iff_iff]; simp; omega), H1.out.bl⟩
 have c1a : ((kd : Int) == (6)) = false := by simpa using c1
 have c1b : ((kd : Int) != (6)) = true := by simpa using c1
 have c1h := hid c1; clear c1; have z1 := H1.out.cell 0 rfl 0 (show A[0]? = some (.int .i64 kd) from by rw [HA.out]; rfl); go_wp2_with fail
 clear z1
 go_ret
 exact ⟨ret_b (by unfold shTwo; have := c1h.out; exact (decide_eq_false (by omega)).symm), H1.out.bl⟩

set_option maxRecDepth 100000 in
set_option maxHeartbeats 1600000 in
theorem sources_any {kd sa sb : Int} {bar : Bool} {ep ef kw kh : Int} {wa : Option Addr} {wn wc : Nat} {ra : Option Addr} {rn rc : Nat} {ca : Option Addr} {cn cc : Nat} {sh sh2 : Int} {xa : Option Addr} {xn xc : Nat} {ya : Option Addr} {yn yc : Nat} {bins : Int} {oa : Option Addr} {on oc : Nat} {mx : Int} {A : Array Value} (hA : A = #[.int .i64 kd, .int .i64 sa, .int .i64 sb, .bool bar, .int .i64 ep, .int .i64 ef, .int .i64 kw, .int .i64 kh, .slice wa wn wc, .slice ra rn rc, .slice ca cn cc, .int .i64 sh, .int .i64 sh2, .slice xa xn xc, .slice ya yn yc, .int .i64 bins, .slice oa on oc, .int .i64 mx]) (W : World) : Calls Try.prog 14 #[.agg A] W fun e w' => ∃ v, e = .returned v ∧ Own W.heap.size w' v (shSrc kd sa sb) ∧ Below W.heap.size W w' := by
 have HA := hid hA; clear hA; obtain ⟨B, hB⟩ : ∃ B, W.heap.size = B := ⟨_, rfl⟩; have HI0 := hid (St.init hB)
 go_enter Try.func14, Try.ntmps14
 go_upto_region 1 with fail
 have H1 := hid (HI0.out.alloc A 33 hB); first | refine gK H1 ?_ | refine gL H1 ?_ | refine gC H1 ?_
 clear H1; intro w1 H1; have z1 := H1.out.loadStg 0 rfl (by rw [HA.out]; rfl)
 go_wp2_with (refine loadArm z1 (by rfl) (by rfl) ?_)
 clear z1; refine (pair_any HA.out _).mono ?_; rintro e w1 ⟨rfl, hb⟩; have H2 := hid (H1.out.call hb); clear hb; obtain ⟨b1, hb1⟩ : ∃ xx', shTwo kd sb = xx' := ⟨_, rfl⟩; rw [hb1]; have HNb1 := hid hb1; clear hb1; cases b1; rotate_left
 ·
  obtain ⟨D1, hD1⟩ : ∃ D, w1.heap.size = D := ⟨_, rfl⟩; have z1 := H2.out.cell 0 rfl 1 (show A[1]? = some (.int .i64 sa) from by rw [HA.out]; rfl); have z2 := H2.out.cell 0 rfl 2 (show A[2]? = some (.int .i64 sb) from by rw [HA.out]; rfl); go_wp2_with fail
  clear z1 z2; have H1 := hid (H2.out.alloc #[.int .i64 sa, .int .i64 sb] 3 hD1); clear hD1; have hsr : shSrc kd sa sb = [sa, sb] := by unfold shSrc; rw [HNb1.out]; rfl
  go_ret
  exact ⟨_, rfl, by (try rw [hB]); rw [hsr]; exact (H1.out.litOwn 0 [sa, sb] rfl (by simp)).own 0 rfl, H1.out.bl⟩
 obtain ⟨D1, hD1⟩ : ∃ D, w1.heap.size = D := ⟨_, rfl⟩; have z1 := H2.out.cell 0 rfl 1 (show A[1]? = some (.int .i64 sa) from by rw [HA.out]; rfl); go_wp2_with fail
 clear z1; have H1 := hid (H2.out.alloc #[.int .i64 sa] 3 hD1); clear hD1; have hsr : shSrc kd sa sb = [sa] := by unfold shSrc; rw [HNb1.out]; rfl
 go_ret
 exact ⟨_, rfl, by (try rw [hB]); rw [hsr]; exact (H1.out.litOwn 0 [sa] rfl (by simp)).own 0 rfl, H1.out.bl⟩

set_option maxRecDepth 100000 in
set_option maxHeartbeats 1600000 in
theorem rsources_any {kd sa sb : Int} {bar : Bool} {ep ef kw kh : Int} {wa : Option Addr} {wn wc : Nat} {ra : Option Addr} {rn rc : Nat} {ca : Option Addr} {cn cc : Nat} {sh sh2 : Int} {xa : Option Addr} {xn xc : Nat} {ya : Option Addr} {yn yc : Nat} {bins : Int} {oa : Option Addr} {on oc : Nat} {mx : Int} {A : Array Value} (hA : A = #[.int .i64 kd, .int .i64 sa, .int .i64 sb, .bool bar, .int .i64 ep, .int .i64 ef, .int .i64 kw, .int .i64 kh, .slice wa wn wc, .slice ra rn rc, .slice ca cn cc, .int .i64 sh, .int .i64 sh2, .slice xa xn xc, .slice ya yn yc, .int .i64 bins, .slice oa on oc, .int .i64 mx]) (W : World) : Calls Try.prog 15 #[.agg A] W fun e w' => ∃ v, e = .returned v ∧ Own W.heap.size w' v (shSrc kd sa sb) ∧ Below W.heap.size W w' := by
 have HA := hid hA; clear hA; obtain ⟨B, hB⟩ : ∃ B, W.heap.size = B := ⟨_, rfl⟩; have HI0 := hid (St.init hB)
 go_enter Try.func15, Try.ntmps15
 go_upto_region 1 with fail
 have H64 := hid (HI0.out.alloc A 33 hB); first | refine gK H64 ?_ | refine gL H64 ?_ | refine gC H64 ?_
 clear H64; intro w1 H64; have z1 := H64.out.loadStg 0 rfl (by rw [HA.out]; rfl)
 go_wp2_with (refine loadArm z1 (by rfl) (by rfl) ?_)
 clear z1; refine (rtwo_any HA.out _).mono ?_; rintro e w1 ⟨rfl, hb⟩; have H1 := hid (H64.out.call hb); clear hb; obtain ⟨b1, hb1⟩ : ∃ xx', shTwo kd sb = xx' := ⟨_, rfl⟩; rw [hb1]; have HNb1 := hid hb1; clear hb1; cases b1; rotate_left
 ·
  obtain ⟨D1, hD1⟩ : ∃ D, w1.heap.size = D := ⟨_, rfl⟩; have z1 := H1.out.cell 0 rfl 1 (show A[1]? = some (.int .i64 sa) from by rw [HA.out]; rfl); have z2 := H1.out.cell 0 rfl 2 (show A[2]? = some (.int .i64 sb) from by rw [HA.out]; rfl); go_wp2_with fail
  clear z1 z2; have H2 := hid (H1.out.alloc #[.int .i64 sa, .int .i64 sb] 3 hD1); clear hD1; have hsr : shSrc kd sa sb = [sa, sb] := by unfold shSrc; rw [HNb1.out]; rfl
  go_ret
  exact ⟨_, rfl, by (try rw [hB]); rw [hsr]; exact (H2.out.litOwn 0 [sa, sb] rfl (by simp)).own 0 rfl, H2.out.bl⟩
 obtain ⟨D1, hD1⟩ : ∃ D, w1.heap.size = D := ⟨_, rfl⟩; have z1 := H1.out.cell 0 rfl 1 (show A[1]? = some (.int .i64 sa) from by rw [HA.out]; rfl); go_wp2_with fail
 clear z1; have H2 := hid (H1.out.alloc #[.int .i64 sa] 3 hD1); clear hD1; have hsr : shSrc kd sa sb = [sa] := by unfold shSrc; rw [HNb1.out]; rfl
 go_ret
 exact ⟨_, rfl, by (try rw [hB]); rw [hsr]; exact (H2.out.litOwn 0 [sa] rfl (by simp)).own 0 rfl, H2.out.bl⟩
end Go.Proofs.Yteejjnhlfgjlaaa
