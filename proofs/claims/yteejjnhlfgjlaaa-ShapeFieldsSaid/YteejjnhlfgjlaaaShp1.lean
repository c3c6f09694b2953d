/-
 Contracts: valid shapes, kinds with edges, pairs of sources and sources, in the program and in the reference.
-/
import Derived.Test.YteejjnhlfgjlaaaShPlain
import Derived.Test.YteejjnhlfgjlaaaKH
import Derived.Test.YteejjnhlfgjlaaaKB
namespace Go.Proofs.Yteejjnhlfgjlaaa
open Go.RowKit
attribute [local go_sem ↓] Go.wp_at_zero Go.wp_at_succ
set_option linter.unusedVariables false
set_option linter.unusedSimpArgs false

def shSrc (kd sa sb : Int) : List Int := if shTwo kd sb = true then [sa, sb] else [sa]

set_option maxRecDepth 100000 in
set_option maxHeartbeats 1600000 in
theorem shvalid_any (w h mx : Int) (W : World) : Calls Try.prog 16 #[.agg #[.int .i64 w, .int .i64 h, .int .i64 mx]] W fun e w' => e = .returned (.bool (pOk w h mx)) ∧ Below W.heap.size W w' := by
 obtain ⟨B, hB⟩ : ∃ B, W.heap.size = B := ⟨_, rfl⟩
 have HI0 := hid (St.init hB)
 go_enter Try.func16, Try.ntmps16
 go_upto_region 1 with fail
 have H1 := hid (HI0.out.alloc #[.int .i64 w, .int .i64 h, .int .i64 mx] 24 hB)
 first | refine gen_code H1.out ?_ | refine gen_list H1.out ?_ | refine gen_calls H1.out ?_
 intro w2 hG
 clear H1
 have H1 := hid hG
 clear hG
 by_cases c3 : (w : Int) < 1
 ·
  skip
  have z4 := H1.out.cell 0 rfl 0 rfl
  have z5 := H1.out.cell 0 rfl 1 rfl
  have z6 := H1.out.cell 0 rfl 2 rfl
  go_wp2_with fail
  clear z4 z5 z6
  go_ret
  exact ⟨ret_b (by unfold pOk; exact (decide_eq_false (by omega)).symm), by first | exact H1.out.below | exact H1.out.below'⟩
 ·
  skip
  by_cases c7 : (128 : Int) < w
  ·
   skip
   have z8 := H1.out.cell 0 rfl 0 rfl
   have z9 := H1.out.cell 0 rfl 1 rfl
   have z10 := H1.out.cell 0 rfl 2 rfl
   go_wp2_with fail
   clear z8 z9 z10
   go_ret
   exact ⟨ret_b (by unfold pOk; exact (decide_eq_false (by omega)).symm), by first | exact H1.out.below | exact H1.out.below'⟩
  ·
   skip
   by_cases c11 : (h : Int) < 1
   ·
    skip
    have z12 := H1.out.cell 0 rfl 0 rfl
    have z13 := H1.out.cell 0 rfl 1 rfl
    have z14 := H1.out.cell 0 rfl 2 rfl
    go_wp2_with fail
    clear z12 z13 z14
    go_ret
    exact ⟨ret_b (by unfold pOk; exact (decide_eq_false (by omega)).symm), by first | exact H1.out.below | exact H1.out.below'⟩
   ·
    skip
    by_cases c15 : (128 : Int) < h
    ·
     skip
     have z16 := H1.out.cell 0 rfl 0 rfl
     have z17 := H1.out.cell 0 rfl 1 rfl
     have z18 := H1.out.cell 0 rfl 2 rfl
     go_wp2_with fail
     clear z16 z17 z18
     go_ret
     exact ⟨ret_b (by unfold pOk; exact (decide_eq_false (by omega)).symm), by first | exact H1.out.below | exact H1.out.below'⟩
    ·
     skip
     by_cases c19 : (mx : Int) < 1
     ·
      skip
      have z20 := H1.out.cell 0 rfl 0 rfl
      have z21 := H1.out.cell 0 rfl 1 rfl
      have z22 := H1.out.cell 0 rfl 2 rfl
      go_wp2_with fail
      clear z20 z21 z22
      go_ret
      exact ⟨ret_b (by unfold pOk; exact (decide_eq_false (by omega)).symm), by first | exact H1.out.below | exact H1.out.below'⟩
     ·
      skip
      by_cases c23 : (4294967296 : Int) < mx
      ·
       skip
       have z24 := H1.out.cell 0 rfl 0 rfl
       have z25 := H1.out.cell 0 rfl 1 rfl
       have z26 := H1.out.cell 0 rfl 2 rfl
       go_wp2_with fail
       clear z24 z25 z26
       go_ret
       exact ⟨ret_b (by unfold pOk; exact (decide_eq_false (by omega)).symm), by first | exact H1.out.below | exact H1.out.below'⟩
      ·
       skip
       have z27 := H1.out.cell 0 rfl 0 rfl
       have z28 := H1.out.cell 0 rfl 1 rfl
       have z29 := H1.out.cell 0 rfl 2 rfl
       go_wp2_with fail
       clear z27 z28 z29
       refine (mulAny w h 4096 _ (by omega)).mono ?_
       rintro e w30 ⟨rfl, hsw⟩
       have hsw2 : w2 = w30 := by first | exact hsw | exact hsw.symm
       clear hsw
       subst hsw2
       obtain ⟨mv, hmv⟩ : ∃ z, mVal w h 4096 = z := ⟨_, rfl⟩
       rw [hmv]
       clear hmv
       obtain ⟨b31, hb31⟩ : ∃ xx', mOk w h 4096 = xx' := ⟨_, rfl⟩
       rw [hb31]
       have HNb31 := hid hb31
       clear hb31
       go_wp2_with fail
       go_ret
       exact ⟨ret_b (by rw [← HNb31.out]; unfold pOk mOk; exact decide_eq_decide.2 (by omega)), by first | exact H1.out.below | exact H1.out.below'⟩

set_option maxRecDepth 100000 in
set_option maxHeartbeats 1600000 in
theorem pair_any {kd sa sb : Int} {bar : Bool} {ep ef kw kh : Int} {wa : Option Addr} {wn wc : Nat} {ra : Option Addr} {rn rc : Nat} {ca : Option Addr} {cn cc : Nat} {sh sh2 : Int} {xa : Option Addr} {xn xc : Nat} {ya : Option Addr} {yn yc : Nat} {bins : Int} {oa : Option Addr} {on oc : Nat} {mx : Int} {A : Array Value} (hA : A = #[.int .i64 kd, .int .i64 sa, .int .i64 sb, .bool bar, .int .i64 ep, .int .i64 ef, .int .i64 kw, .int .i64 kh, .slice wa wn wc, .slice ra rn rc, .slice ca cn cc, .int .i64 sh, .int .i64 sh2, .slice xa xn xc, .slice ya yn yc, .int .i64 bins, .slice oa on oc, .int .i64 mx]) (W : World) : Calls Try.prog 25 #[.agg A] W fun e w' => e = .returned (.bool (shTwo kd sb)) ∧ Below W.heap.size W w' := by
 have HA := hid hA
 clear hA
 obtain ⟨B, hB⟩ : ∃ B, W.heap.size = B := ⟨_, rfl⟩
 have HI0 := hid (St.init hB)
 go_enter Try.func25, Try.ntmps25
 go_upto_region 1 with fail
 have H39 := hid (HI0.out.alloc A 33 hB)
 first | refine gen_code H39.out ?_ | refine gen_list H39.out ?_ | refine gen_calls H39.out ?_
 intro w40 hG
 clear H39
 have H39 := hid hG
 clear hG
 by_cases c41 : (kd : Int) = 6
 ·
  obtain ⟨c41c, c41d⟩ : (kd : Int) ≤ 6 ∧ (6 : Int) ≤ kd := by omega
  have c41a : ((kd : Int) == (6)) = true := by simpa using c41
  have c41b : ((kd : Int) != (6)) = false := by simpa using c41
  have c41h := hid c41
  clear c41
  have z42 := H39.out.cell 0 rfl 0 (show A[0]? = some (.int .i64 kd) from by rw [HA.out]; rfl)
  have z43 := H39.out.cell 0 rfl 2 (show A[2]? = some (.int .i64 sb) from by rw [HA.out]; rfl)
  go_wp2_with fail
  clear z42 z43
  go_ret
  exact ⟨ret_b (by unfold shTwo; have := c41h.out; rw [Bool.eq_iff_iff]; simp; omega), by first | exact H39.out.below | exact H39.out.below'⟩
 ·
  have c41a : ((kd : Int) == (6)) = false := by simpa using c41
  have c41b : ((kd : Int) != (6)) = true := by simpa using c41
  have c41h := hid c41
  clear c41
  have z44 := H39.out.cell 0 rfl 0 (show A[0]? = some (.int .i64 kd) from by rw [HA.out]; rfl)
  go_wp2_with fail
  clear z44
  go_ret
  exact ⟨ret_b (by unfold shTwo; have := c41h.out; exact (decide_eq_false (by omega)).symm), by first | exact H39.out.below | exact H39.out.below'⟩

set_option maxRecDepth 100000 in
set_option maxHeartbeats 1600000 in
theorem sources_any {kd sa sb : Int} {bar : Bool} {ep ef kw kh : Int} {wa : Option Addr} {wn wc : Nat} {ra : Option Addr} {rn rc : Nat} {ca : Option Addr} {cn cc : Nat} {sh sh2 : Int} {xa : Option Addr} {xn xc : Nat} {ya : Option Addr} {yn yc : Nat} {bins : Int} {oa : Option Addr} {on oc : Nat} {mx : Int} {A : Array Value} (hA : A = #[.int .i64 kd, .int .i64 sa, .int .i64 sb, .bool bar, .int .i64 ep, .int .i64 ef, .int .i64 kw, .int .i64 kh, .slice wa wn wc, .slice ra rn rc, .slice ca cn cc, .int .i64 sh, .int .i64 sh2, .slice xa xn xc, .slice ya yn yc, .int .i64 bins, .slice oa on oc, .int .i64 mx]) (W : World) : Calls Try.prog 14 #[.agg A] W fun e w' => ∃ v, e = .returned v ∧ Own W.heap.size w' v (shSrc kd sa sb) ∧ Below W.heap.size W w' := by
 have HA := hid hA
 clear hA
 obtain ⟨B, hB⟩ : ∃ B, W.heap.size = B := ⟨_, rfl⟩
 have HI0 := hid (St.init hB)
 go_enter Try.func14, Try.ntmps14
 go_upto_region 1 with fail
 have H51 := hid (HI0.out.alloc A 33 hB)
 first | refine gen_code H51.out ?_ | refine gen_list H51.out ?_ | refine gen_calls H51.out ?_
 intro w52 hG
 clear H51
 have H51 := hid hG
 clear hG
 have z53 := H51.out.loadStg 0 rfl (by rw [HA.out]; rfl)
 go_wp2_with (refine loadArm z53 (by rfl) (by rfl) ?_)
 clear z53
 refine (pair_any HA.out _).mono ?_
 rintro e w54 ⟨rfl, hb⟩
 have H55 := hid (H51.out.call hb)
 clear hb
 obtain ⟨b56, hb56⟩ : ∃ xx', shTwo kd sb = xx' := ⟨_, rfl⟩
 rw [hb56]
 have HNb56 := hid hb56
 clear hb56
 cases b56 with
 | true =>
  obtain ⟨D57, hD57⟩ : ∃ D, w54.heap.size = D := ⟨_, rfl⟩
  have z58 := H55.out.cell 0 rfl 1 (show A[1]? = some (.int .i64 sa) from by rw [HA.out]; rfl)
  have z59 := H55.out.cell 0 rfl 2 (show A[2]? = some (.int .i64 sb) from by rw [HA.out]; rfl)
  go_wp2_with fail
  clear z58 z59
  have H60 := hid (H55.out.alloc #[.int .i64 sa, .int .i64 sb] 3 hD57)
  clear hD57
  have hsr : shSrc kd sa sb = [sa, sb] := by unfold shSrc; rw [HNb56.out]; rfl
  go_ret
  exact ⟨_, rfl, by (try rw [hB]); rw [hsr]; exact (H60.out.litOwn 0 [sa, sb] rfl (by simp)).own 0 rfl, by first | exact H60.out.below | exact H60.out.below'⟩
 | false =>
  obtain ⟨D61, hD61⟩ : ∃ D, w54.heap.size = D := ⟨_, rfl⟩
  have z62 := H55.out.cell 0 rfl 1 (show A[1]? = some (.int .i64 sa) from by rw [HA.out]; rfl)
  go_wp2_with fail
  clear z62
  have H63 := hid (H55.out.alloc #[.int .i64 sa] 3 hD61)
  clear hD61
  have hsr : shSrc kd sa sb = [sa] := by unfold shSrc; rw [HNb56.out]; rfl
  go_ret
  exact ⟨_, rfl, by (try rw [hB]); rw [hsr]; exact (H63.out.litOwn 0 [sa] rfl (by simp)).own 0 rfl, by first | exact H63.out.below | exact H63.out.below'⟩
end Go.Proofs.Yteejjnhlfgjlaaa
