/-
 Contract: which fields a stage may use, in the program, at the kind 3.
-/
import Derived.Test.YteejjnhlfgjlaaaStF
import Derived.Test.YteejjnhlfgjlaaaKH
namespace Go.Proofs.Yteejjnhlfgjlaaa
open Go.RowKit
attribute [local go_sem ↓] Go.wp_at_zero Go.wp_at_succ edge_eq edge_ne
set_option linter.unusedVariables false
set_option linter.unusedSimpArgs false

set_option maxRecDepth 100000 in
set_option maxHeartbeats 6400000 in
theorem sfields_3 (sa sb : Int) (bar : Bool) (ep ef kw kh : Int) (wa : Option Addr) (wn wc : Nat) (ra : Option Addr) (rn rc : Nat) (ca : Option Addr) (cn cc : Nat) (sh sh2 : Int) (xa : Option Addr) (xn xc : Nat) (ya : Option Addr) (yn yc : Nat) (bins : Int) (oa : Option Addr) (on oc : Nat) (mx : Int) (W : World) : Calls Try.prog 11 #[.agg #[.int .i64 3, .int .i64 sa, .int .i64 sb, .bool bar, .int .i64 ep, .int .i64 ef, .int .i64 kw, .int .i64 kh, .slice wa wn wc, .slice ra rn rc, .slice ca cn cc, .int .i64 sh, .int .i64 sh2, .slice xa xn xc, .slice ya yn yc, .int .i64 bins, .slice oa on oc, .int .i64 mx]] W fun e w' => e = .returned (.bool (sfOk 3 sb ep ef kw kh wn rn cn sh sh2 xn yn bins on mx)) ∧ Below W.heap.size W w' := by
 obtain ⟨B, hB⟩ : ∃ B, W.heap.size = B := ⟨_, rfl⟩
 have HI0 := hid (St.init hB)
 obtain ⟨eb, heb⟩ : ∃ x, decide (ep = 0 ∧ ef = 0) = x := ⟨_, rfl⟩
 have HEB := hid heb
 go_enter Try.func11, Try.ntmps11
 go_upto_region 1 with fail
 have H261 := hid (HI0.out.alloc #[.int .i64 3, .int .i64 sa, .int .i64 sb, .bool bar, .int .i64 ep, .int .i64 ef, .int .i64 kw, .int .i64 kh, .slice wa wn wc, .slice ra rn rc, .slice ca cn cc, .int .i64 sh, .int .i64 sh2, .slice xa xn xc, .slice ya yn yc, .int .i64 bins, .slice oa on oc, .int .i64 mx] 33 hB)
 first | refine gen_code H261.out ?_ | refine gen_list H261.out ?_ | refine gen_calls H261.out ?_
 intro w262 hG
 clear H261
 have H261 := hid hG
 clear hG
 by_cases c263 : (sb : Int) = (-1)
 ·
  obtain ⟨c263c, c263d⟩ : (sb : Int) ≤ (-1) ∧ ((-1) : Int) ≤ sb := by omega
  have c263a : ((sb : Int) == ((-1))) = true := by simpa using c263
  have c263b : ((sb : Int) != ((-1))) = false := by simpa using c263
  have c263h := hid c263
  clear c263
  obtain ⟨z264, z265, z266, z267, z268, z269, z270, z271, z272, z273, z274, z275, z276, z277, z278, z279, z280, z281⟩ := cs18 H261.out 0 rfl
  go_wp2_with fail
  clear z264 z265 z266 z267 z268 z269 z270 z271 z272 z273 z274 z275 z276 z277 z278 z279 z280 z281
  refine (edged_any _ _).mono ?_
  rintro e w282 ⟨rfl, hsw⟩
  have hsw2 : w262 = w282 := by first | exact hsw | exact hsw.symm
  clear hsw
  subst hsw2
  rw [show edOk 3 = true from by decide]
  obtain ⟨D283, hD283⟩ : ∃ D, w262.heap.size = D := ⟨_, rfl⟩
  go_wp2_with fail
  have H284 := hid (H261.out.alloc #[.int .i64 1] 3 hD283)
  first | refine gen_code H284.out ?_ | refine gen_list H284.out ?_ | refine gen_calls H284.out ?_
  intro w285 hG
  clear H284
  have H284 := hid hG
  clear hG
  clear hD283
  refine (is_any _ _ _ [1] B _ _ (H284.out.lit 0 [1] rfl (by simp)) (by decide) (hid (H284.out.cell 1 rfl 0 rfl))).mono ?_
  rintro e w286 ⟨rfl, hb⟩
  have H287 := hid (H284.out.call hb)
  clear hb
  rw [show isIn 3 [1] = false from by decide]
  obtain ⟨D288, hD288⟩ : ∃ D, w286.heap.size = D := ⟨_, rfl⟩
  go_wp2_with fail
  have H289 := hid (H287.out.alloc #[.int .i64 2] 3 hD288)
  first | refine gen_code H289.out ?_ | refine gen_list H289.out ?_ | refine gen_calls H289.out ?_
  intro w290 hG
  clear H289
  have H289 := hid hG
  clear hG
  clear hD288
  refine (is_any _ _ _ [2] B _ _ (H289.out.lit 0 [2] rfl (by simp)) (by decide) (hid (H289.out.cell 2 rfl 0 rfl))).mono ?_
  rintro e w291 ⟨rfl, hb⟩
  have H292 := hid (H289.out.call hb)
  clear hb
  rw [show isIn 3 [2] = false from by decide]
  obtain ⟨D293, hD293⟩ : ∃ D, w291.heap.size = D := ⟨_, rfl⟩
  go_wp2_with fail
  have H294 := hid (H292.out.alloc #[.int .i64 3] 3 hD293)
  first | refine gen_code H294.out ?_ | refine gen_list H294.out ?_ | refine gen_calls H294.out ?_
  intro w295 hG
  clear H294
  have H294 := hid hG
  clear hG
  clear hD293
  refine (is_any _ _ _ [3] B _ _ (H294.out.lit 0 [3] rfl (by simp)) (by decide) (hid (H294.out.cell 3 rfl 0 rfl))).mono ?_
  rintro e w296 ⟨rfl, hb⟩
  have H297 := hid (H294.out.call hb)
  clear hb
  rw [show isIn 3 [3] = true from by decide]
  obtain ⟨D298, hD298⟩ : ∃ D, w296.heap.size = D := ⟨_, rfl⟩
  go_wp2_with fail
  have H299 := hid (H297.out.alloc #[.int .i64 6] 3 hD298)
  first | refine gen_code H299.out ?_ | refine gen_list H299.out ?_ | refine gen_calls H299.out ?_
  intro w300 hG
  clear H299
  have H299 := hid hG
  clear hG
  clear hD298
  refine (is_any _ _ _ [6] B _ _ (H299.out.lit 0 [6] rfl (by simp)) (by decide) (hid (H299.out.cell 4 rfl 0 rfl))).mono ?_
  rintro e w301 ⟨rfl, hb⟩
  have H302 := hid (H299.out.call hb)
  clear hb
  rw [show isIn 3 [6] = false from by decide]
  go_upto_region 11 with fail
  first | refine wp_region_lit (wL_to ?_) | refine wp_seq (wp_region_lit (wL_to ?_))
  obtain ⟨z303, z304, z305, z306, z307, z308, z309, z310, z311, z312, z313, z314, z315, z316, z317, z318, z319, z320⟩ := cs18 H302.out 4 rfl
  iterate 2 (refine lsA ?_; try simp only [Act.put, p1, p2, p3, p4, p5, p6])
  iterate 4 (refine lsU ?_; try simp only [Act.put, p1, p2, p3, p4, p5, p6])
  iterate 6 (refine lsA ?_; try simp only [Act.put, p1, p2, p3, p4, p5, p6])
  by_cases c321 : (kw : Int) = 0
  ·
   obtain ⟨c321c, c321d⟩ : (kw : Int) ≤ 0 ∧ (0 : Int) ≤ kw := by omega
   have c321a : ((kw : Int) == (0)) = true := by simpa using c321
   have c321b : ((kw : Int) != (0)) = false := by simpa using c321
   have c321h := hid c321
   clear c321
   iterate 4 (refine lsA ?_; try simp only [Act.put, p1, p2, p3, p4, p5, p6])
   by_cases c322 : (kh : Int) = 0
   ·
    obtain ⟨c322c, c322d⟩ : (kh : Int) ≤ 0 ∧ (0 : Int) ≤ kh := by omega
    have c322a : ((kh : Int) == (0)) = true := by simpa using c322
    have c322b : ((kh : Int) != (0)) = false := by simpa using c322
    have c322h := hid c322
    clear c322
    iterate 6 (refine lsA ?_; try simp only [Act.put, p1, p2, p3, p4, p5, p6])
    by_cases c323 : (wn : Int) = 0
    ·
     obtain ⟨c323c, c323d⟩ : (wn : Int) ≤ 0 ∧ (0 : Int) ≤ wn := by omega
     have c323a : ((wn : Int) == (0)) = true := by simpa using c323
     have c323b : ((wn : Int) != (0)) = false := by simpa using c323
     have c323e : (wn == 0) = true := by simp; omega
     have c323f : (wn != 0) = false := by simp; omega
     have c323h := hid c323
     clear c323
     iterate 10 (refine lsA ?_; try simp only [Act.put, p1, p2, p3, p4, p5, p6])
     by_cases c324 : (rn : Int) = 0
     ·
      obtain ⟨c324c, c324d⟩ : (rn : Int) ≤ 0 ∧ (0 : Int) ≤ rn := by omega
      have c324a : ((rn : Int) == (0)) = true := by simpa using c324
      have c324b : ((rn : Int) != (0)) = false := by simpa using c324
      have c324e : (rn == 0) = true := by simp; omega
      have c324f : (rn != 0) = false := by simp; omega
      have c324h := hid c324
      clear c324
      iterate 5 (refine lsA ?_; try simp only [Act.put, p1, p2, p3, p4, p5, p6])
      by_cases c325 : (cn : Int) = 0
      ·
       obtain ⟨c325c, c325d⟩ : (cn : Int) ≤ 0 ∧ (0 : Int) ≤ cn := by omega
       have c325a : ((cn : Int) == (0)) = true := by simpa using c325
       have c325b : ((cn : Int) != (0)) = false := by simpa using c325
       have c325e : (cn == 0) = true := by simp; omega
       have c325f : (cn != 0) = false := by simp; omega
       have c325h := hid c325
       clear c325
       iterate 7 (refine lsA ?_; try simp only [Act.put, p1, p2, p3, p4, p5, p6])
       iterate 3 (refine lsU ?_; try simp only [Act.put, p1, p2, p3, p4, p5, p6])
       iterate 8 (refine lsA ?_; try simp only [Act.put, p1, p2, p3, p4, p5, p6])
       iterate 3 (refine lsU ?_; try simp only [Act.put, p1, p2, p3, p4, p5, p6])
       iterate 5 (refine lsA ?_; try simp only [Act.put, p1, p2, p3, p4, p5, p6])
       iterate 10 (refine lsU ?_; try simp only [Act.put, p1, p2, p3, p4, p5, p6])
       iterate 4 (refine lsA ?_; try simp only [Act.put, p1, p2, p3, p4, p5, p6])
       obtain ⟨D326, hD326⟩ : ∃ D, w301.heap.size = D := ⟨_, rfl⟩
       refine lsB ?_
       try simp only [Act.put, p1, p2, p3, p4, p5, p6]
       have H327 := hid (H302.out.alloc #[.int .i64 4] 3 hD326)
       clear hD326
       generalize (w301.alloc (.cells #[.int .i64 4] 3)) = k328 at *
       clear z303 z304 z305 z306 z307 z308 z309 z310 z311 z312 z313 z314 z315 z316 z317 z318 z319 z320
       obtain ⟨z329, z330, z331, z332, z333, z334, z335, z336, z337, z338, z339, z340, z341, z342, z343, z344, z345, z346⟩ := cs18 H327.out 5 rfl
       refine lsC ?_
       refine (is_any _ _ _ [4] B _ _ (H327.out.lit 0 [4] rfl (by simp)) (by decide) (hid (H327.out.cell 5 rfl 0 rfl))).mono ?_
       rintro e w347 ⟨rfl, hb⟩
       have H348 := hid (H327.out.call hb)
       clear hb
       rw [show isIn 3 [4] = false from by decide]
       refine ⟨_, rfl, ?_⟩
       try simp only [Act.put, p1, p2, p3, p4, p5, p6]
       clear z329 z330 z331 z332 z333 z334 z335 z336 z337 z338 z339 z340 z341 z342 z343 z344 z345 z346
       obtain ⟨z349, z350, z351, z352, z353, z354, z355, z356, z357, z358, z359, z360, z361, z362, z363, z364, z365, z366⟩ := cs18 H348.out 5 rfl
       iterate 3 (refine lsA ?_; try simp only [Act.put, p1, p2, p3, p4, p5, p6])
       by_cases c367 : (bins : Int) = 0
       ·
        obtain ⟨c367c, c367d⟩ : (bins : Int) ≤ 0 ∧ (0 : Int) ≤ bins := by omega
        have c367a : ((bins : Int) == (0)) = true := by simpa using c367
        have c367b : ((bins : Int) != (0)) = false := by simpa using c367
        have c367h := hid c367
        clear c367
        iterate 9 (refine lsA ?_; try simp only [Act.put, p1, p2, p3, p4, p5, p6])
        by_cases c368 : (on : Int) = 0
        ·
         obtain ⟨c368c, c368d⟩ : (on : Int) ≤ 0 ∧ (0 : Int) ≤ on := by omega
         have c368a : ((on : Int) == (0)) = true := by simpa using c368
         have c368b : ((on : Int) != (0)) = false := by simpa using c368
         have c368e : (on == 0) = true := by simp; omega
         have c368f : (on != 0) = false := by simp; omega
         have c368h := hid c368
         clear c368
         iterate 6 (refine lsA ?_; try simp only [Act.put, p1, p2, p3, p4, p5, p6])
         refine lsU ?_
         try simp only [Act.put, p1, p2, p3, p4, p5, p6]
         iterate 2 (refine lsA ?_; try simp only [Act.put, p1, p2, p3, p4, p5, p6])
         iterate 3 (refine lsU ?_; try simp only [Act.put, p1, p2, p3, p4, p5, p6])
         iterate 3 (refine lsA ?_; try simp only [Act.put, p1, p2, p3, p4, p5, p6])
         refine wL_nil ?_
         clear z349 z350 z351 z352 z353 z354 z355 z356 z357 z358 z359 z360 z361 z362 z363 z364 z365 z366
         go_wp2_with fail
         have he0 := HEB.out
         try simp only [decide_eq_true_eq, decide_eq_false_iff_not] at he0
         go_ret
         exact ⟨ret_b (by unfold sfOk; have := c263h.out; have := c321h.out; have := c322h.out; have := c323h.out; have := c324h.out; have := c325h.out; have := c367h.out; have := c368h.out; exact (decide_eq_true (by omega)).symm), by first | exact H348.out.below | exact H348.out.below'⟩
        ·
         have c368a : ((on : Int) == (0)) = false := by simpa using c368
         have c368b : ((on : Int) != (0)) = true := by simpa using c368
         have c368e : (on == 0) = false := by simp; omega
         have c368f : (on != 0) = true := by simp; omega
         have c368h := hid c368
         clear c368
         iterate 4 (refine lsA ?_; try simp only [Act.put, p1, p2, p3, p4, p5, p6])
         iterate 9 (refine lsU ?_; try simp only [Act.put, p1, p2, p3, p4, p5, p6])
         iterate 2 (refine lsA ?_; try simp only [Act.put, p1, p2, p3, p4, p5, p6])
         refine wL_nil ?_
         clear z349 z350 z351 z352 z353 z354 z355 z356 z357 z358 z359 z360 z361 z362 z363 z364 z365 z366
         go_wp2_with fail
         have he0 := HEB.out
         try simp only [decide_eq_true_eq, decide_eq_false_iff_not] at he0
         go_ret
         exact ⟨ret_b (by unfold sfOk; have := c263h.out; have := c321h.out; have := c322h.out; have := c323h.out; have := c324h.out; have := c325h.out; have := c367h.out; have := c368h.out; exact (decide_eq_false (by omega)).symm), by first | exact H348.out.below | exact H348.out.below'⟩
       ·
        have c367a : ((bins : Int) == (0)) = false := by simpa using c367
        have c367b : ((bins : Int) != (0)) = true := by simpa using c367
        have c367h := hid c367
        clear c367
        iterate 4 (refine lsA ?_; try simp only [Act.put, p1, p2, p3, p4, p5, p6])
        iterate 7 (refine lsU ?_; try simp only [Act.put, p1, p2, p3, p4, p5, p6])
        iterate 2 (refine lsA ?_; try simp only [Act.put, p1, p2, p3, p4, p5, p6])
        iterate 9 (refine lsU ?_; try simp only [Act.put, p1, p2, p3, p4, p5, p6])
        iterate 2 (refine lsA ?_; try simp only [Act.put, p1, p2, p3, p4, p5, p6])
        refine wL_nil ?_
        clear z349 z350 z351 z352 z353 z354 z355 z356 z357 z358 z359 z360 z361 z362 z363 z364 z365 z366
        go_wp2_with fail
        have he0 := HEB.out
        try simp only [decide_eq_true_eq, decide_eq_false_iff_not] at he0
        go_ret
        exact ⟨ret_b (by unfold sfOk; have := c263h.out; have := c321h.out; have := c322h.out; have := c323h.out; have := c324h.out; have := c325h.out; have := c367h.out; exact (decide_eq_false (by omega)).symm), by first | exact H348.out.below | exact H348.out.below'⟩
      ·
       have c325a : ((cn : Int) == (0)) = false := by simpa using c325
       have c325b : ((cn : Int) != (0)) = true := by simpa using c325
       have c325e : (cn == 0) = false := by simp; omega
       have c325f : (cn != 0) = true := by simp; omega
       have c325h := hid c325
       clear c325
       iterate 5 (refine lsA ?_; try simp only [Act.put, p1, p2, p3, p4, p5, p6])
       iterate 6 (refine lsU ?_; try simp only [Act.put, p1, p2, p3, p4, p5, p6])
       iterate 2 (refine lsA ?_; try simp only [Act.put, p1, p2, p3, p4, p5, p6])
       iterate 9 (refine lsU ?_; try simp only [Act.put, p1, p2, p3, p4, p5, p6])
       iterate 2 (refine lsA ?_; try simp only [Act.put, p1, p2, p3, p4, p5, p6])
       iterate 13 (refine lsU ?_; try simp only [Act.put, p1, p2, p3, p4, p5, p6])
       iterate 2 (refine lsA ?_; try simp only [Act.put, p1, p2, p3, p4, p5, p6])
       iterate 8 (refine lsU ?_; try simp only [Act.put, p1, p2, p3, p4, p5, p6])
       iterate 2 (refine lsA ?_; try simp only [Act.put, p1, p2, p3, p4, p5, p6])
       iterate 7 (refine lsU ?_; try simp only [Act.put, p1, p2, p3, p4, p5, p6])
       iterate 2 (refine lsA ?_; try simp only [Act.put, p1, p2, p3, p4, p5, p6])
       iterate 9 (refine lsU ?_; try simp only [Act.put, p1, p2, p3, p4, p5, p6])
       iterate 2 (refine lsA ?_; try simp only [Act.put, p1, p2, p3, p4, p5, p6])
       refine wL_nil ?_
       clear z303 z304 z305 z306 z307 z308 z309 z310 z311 z312 z313 z314 z315 z316 z317 z318 z319 z320
       go_wp2_with fail
       have he0 := HEB.out
       try simp only [decide_eq_true_eq, decide_eq_false_iff_not] at he0
       go_ret
       exact ⟨ret_b (by unfold sfOk; have := c263h.out; have := c321h.out; have := c322h.out; have := c323h.out; have := c324h.out; have := c325h.out; exact (decide_eq_false (by omega)).symm), by first | exact H302.out.below | exact H302.out.below'⟩
     ·
      have c324a : ((rn : Int) == (0)) = false := by simpa using c324
      have c324b : ((rn : Int) != (0)) = true := by simpa using c324
      have c324e : (rn == 0) = false := by simp; omega
      have c324f : (rn != 0) = true := by simp; omega
      have c324h := hid c324
      clear c324
      iterate 2 (refine lsA ?_; try simp only [Act.put, p1, p2, p3, p4, p5, p6])
      iterate 4 (refine lsU ?_; try simp only [Act.put, p1, p2, p3, p4, p5, p6])
      iterate 4 (refine lsA ?_; try simp only [Act.put, p1, p2, p3, p4, p5, p6])
      iterate 6 (refine lsU ?_; try simp only [Act.put, p1, p2, p3, p4, p5, p6])
      iterate 2 (refine lsA ?_; try simp only [Act.put, p1, p2, p3, p4, p5, p6])
      iterate 9 (refine lsU ?_; try simp only [Act.put, p1, p2, p3, p4, p5, p6])
      iterate 2 (refine lsA ?_; try simp only [Act.put, p1, p2, p3, p4, p5, p6])
      iterate 13 (refine lsU ?_; try simp only [Act.put, p1, p2, p3, p4, p5, p6])
      iterate 2 (refine lsA ?_; try simp only [Act.put, p1, p2, p3, p4, p5, p6])
      iterate 8 (refine lsU ?_; try simp only [Act.put, p1, p2, p3, p4, p5, p6])
      iterate 2 (refine lsA ?_; try simp only [Act.put, p1, p2, p3, p4, p5, p6])
      iterate 7 (refine lsU ?_; try simp only [Act.put, p1, p2, p3, p4, p5, p6])
      iterate 2 (refine lsA ?_; try simp only [Act.put, p1, p2, p3, p4, p5, p6])
      iterate 9 (refine lsU ?_; try simp only [Act.put, p1, p2, p3, p4, p5, p6])
      iterate 2 (refine lsA ?_; try simp only [Act.put, p1, p2, p3, p4, p5, p6])
      refine wL_nil ?_
      clear z303 z304 z305 z306 z307 z308 z309 z310 z311 z312 z313 z314 z315 z316 z317 z318 z319 z320
      go_wp2_with fail
      have he0 := HEB.out
      try simp only [decide_eq_true_eq, decide_eq_false_iff_not] at he0
      go_ret
      exact ⟨ret_b (by unfold sfOk; have := c263h.out; have := c321h.out; have := c322h.out; have := c323h.out; have := c324h.out; exact (decide_eq_false (by omega)).symm), by first | exact H302.out.below | exact H302.out.below'⟩
    ·
     have c323a : ((wn : Int) == (0)) = false := by simpa using c323
     have c323b : ((wn : Int) != (0)) = true := by simpa using c323
     have c323e : (wn == 0) = false := by simp; omega
     have c323f : (wn != 0) = true := by simp; omega
     have c323h := hid c323
     clear c323
     iterate 5 (refine lsA ?_; try simp only [Act.put, p1, p2, p3, p4, p5, p6])
     iterate 13 (refine lsU ?_; try simp only [Act.put, p1, p2, p3, p4, p5, p6])
     iterate 2 (refine lsA ?_; try simp only [Act.put, p1, p2, p3, p4, p5, p6])
     iterate 6 (refine lsU ?_; try simp only [Act.put, p1, p2, p3, p4, p5, p6])
     iterate 2 (refine lsA ?_; try simp only [Act.put, p1, p2, p3, p4, p5, p6])
     iterate 9 (refine lsU ?_; try simp only [Act.put, p1, p2, p3, p4, p5, p6])
     iterate 2 (refine lsA ?_; try simp only [Act.put, p1, p2, p3, p4, p5, p6])
     iterate 13 (refine lsU ?_; try simp only [Act.put, p1, p2, p3, p4, p5, p6])
     iterate 2 (refine lsA ?_; try simp only [Act.put, p1, p2, p3, p4, p5, p6])
     iterate 8 (refine lsU ?_; try simp only [Act.put, p1, p2, p3, p4, p5, p6])
     iterate 2 (refine lsA ?_; try simp only [Act.put, p1, p2, p3, p4, p5, p6])
     iterate 7 (refine lsU ?_; try simp only [Act.put, p1, p2, p3, p4, p5, p6])
     iterate 2 (refine lsA ?_; try simp only [Act.put, p1, p2, p3, p4, p5, p6])
     iterate 9 (refine lsU ?_; try simp only [Act.put, p1, p2, p3, p4, p5, p6])
     iterate 2 (refine lsA ?_; try simp only [Act.put, p1, p2, p3, p4, p5, p6])
     refine wL_nil ?_
     clear z303 z304 z305 z306 z307 z308 z309 z310 z311 z312 z313 z314 z315 z316 z317 z318 z319 z320
     go_wp2_with fail
     have he0 := HEB.out
     try simp only [decide_eq_true_eq, decide_eq_false_iff_not] at he0
     go_ret
     exact ⟨ret_b (by unfold sfOk; have := c263h.out; have := c321h.out; have := c322h.out; have := c323h.out; exact (decide_eq_false (by omega)).symm), by first | exact H302.out.below | exact H302.out.below'⟩
   ·
    have c322a : ((kh : Int) == (0)) = false := by simpa using c322
    have c322b : ((kh : Int) != (0)) = true := by simpa using c322
    have c322h := hid c322
    clear c322
    iterate 3 (refine lsA ?_; try simp only [Act.put, p1, p2, p3, p4, p5, p6])
    iterate 4 (refine lsU ?_; try simp only [Act.put, p1, p2, p3, p4, p5, p6])
    iterate 4 (refine lsA ?_; try simp only [Act.put, p1, p2, p3, p4, p5, p6])
    iterate 13 (refine lsU ?_; try simp only [Act.put, p1, p2, p3, p4, p5, p6])
    iterate 2 (refine lsA ?_; try simp only [Act.put, p1, p2, p3, p4, p5, p6])
    iterate 6 (refine lsU ?_; try simp only [Act.put, p1, p2, p3, p4, p5, p6])
    iterate 2 (refine lsA ?_; try simp only [Act.put, p1, p2, p3, p4, p5, p6])
    iterate 9 (refine lsU ?_; try simp only [Act.put, p1, p2, p3, p4, p5, p6])
    iterate 2 (refine lsA ?_; try simp only [Act.put, p1, p2, p3, p4, p5, p6])
    iterate 13 (refine lsU ?_; try simp only [Act.put, p1, p2, p3, p4, p5, p6])
    iterate 2 (refine lsA ?_; try simp only [Act.put, p1, p2, p3, p4, p5, p6])
    iterate 8 (refine lsU ?_; try simp only [Act.put, p1, p2, p3, p4, p5, p6])
    iterate 2 (refine lsA ?_; try simp only [Act.put, p1, p2, p3, p4, p5, p6])
    iterate 7 (refine lsU ?_; try simp only [Act.put, p1, p2, p3, p4, p5, p6])
    iterate 2 (refine lsA ?_; try simp only [Act.put, p1, p2, p3, p4, p5, p6])
    iterate 9 (refine lsU ?_; try simp only [Act.put, p1, p2, p3, p4, p5, p6])
    iterate 2 (refine lsA ?_; try simp only [Act.put, p1, p2, p3, p4, p5, p6])
    refine wL_nil ?_
    clear z303 z304 z305 z306 z307 z308 z309 z310 z311 z312 z313 z314 z315 z316 z317 z318 z319 z320
    go_wp2_with fail
    have he0 := HEB.out
    try simp only [decide_eq_true_eq, decide_eq_false_iff_not] at he0
    go_ret
    exact ⟨ret_b (by unfold sfOk; have := c263h.out; have := c321h.out; have := c322h.out; exact (decide_eq_false (by omega)).symm), by first | exact H302.out.below | exact H302.out.below'⟩
  ·
   have c321a : ((kw : Int) == (0)) = false := by simpa using c321
   have c321b : ((kw : Int) != (0)) = true := by simpa using c321
   have c321h := hid c321
   clear c321
   iterate 2 (refine lsA ?_; try simp only [Act.put, p1, p2, p3, p4, p5, p6])
   iterate 3 (refine lsU ?_; try simp only [Act.put, p1, p2, p3, p4, p5, p6])
   iterate 2 (refine lsA ?_; try simp only [Act.put, p1, p2, p3, p4, p5, p6])
   iterate 4 (refine lsU ?_; try simp only [Act.put, p1, p2, p3, p4, p5, p6])
   iterate 4 (refine lsA ?_; try simp only [Act.put, p1, p2, p3, p4, p5, p6])
   iterate 13 (refine lsU ?_; try simp only [Act.put, p1, p2, p3, p4, p5, p6])
   iterate 2 (refine lsA ?_; try simp only [Act.put, p1, p2, p3, p4, p5, p6])
   iterate 6 (refine lsU ?_; try simp only [Act.put, p1, p2, p3, p4, p5, p6])
   iterate 2 (refine lsA ?_; try simp only [Act.put, p1, p2, p3, p4, p5, p6])
   iterate 9 (refine lsU ?_; try simp only [Act.put, p1, p2, p3, p4, p5, p6])
   iterate 2 (refine lsA ?_; try simp only [Act.put, p1, p2, p3, p4, p5, p6])
   iterate 13 (refine lsU ?_; try simp only [Act.put, p1, p2, p3, p4, p5, p6])
   iterate 2 (refine lsA ?_; try simp only [Act.put, p1, p2, p3, p4, p5, p6])
   iterate 8 (refine lsU ?_; try simp only [Act.put, p1, p2, p3, p4, p5, p6])
   iterate 2 (refine lsA ?_; try simp only [Act.put, p1, p2, p3, p4, p5, p6])
   iterate 7 (refine lsU ?_; try simp only [Act.put, p1, p2, p3, p4, p5, p6])
   iterate 2 (refine lsA ?_; try simp only [Act.put, p1, p2, p3, p4, p5, p6])
   iterate 9 (refine lsU ?_; try simp only [Act.put, p1, p2, p3, p4, p5, p6])
   iterate 2 (refine lsA ?_; try simp only [Act.put, p1, p2, p3, p4, p5, p6])
   refine wL_nil ?_
   clear z303 z304 z305 z306 z307 z308 z309 z310 z311 z312 z313 z314 z315 z316 z317 z318 z319 z320
   go_wp2_with fail
   have he0 := HEB.out
   try simp only [decide_eq_true_eq, decide_eq_false_iff_not] at he0
   go_ret
   exact ⟨ret_b (by unfold sfOk; have := c263h.out; have := c321h.out; exact (decide_eq_false (by omega)).symm), by first | exact H302.out.below | exact H302.out.below'⟩
 ·
  have c263a : ((sb : Int) == ((-1))) = false := by simpa using c263
  have c263b : ((sb : Int) != ((-1))) = true := by simpa using c263
  have c263h := hid c263
  clear c263
  obtain ⟨z369, z370, z371, z372, z373, z374, z375, z376, z377, z378, z379, z380, z381, z382, z383, z384, z385, z386⟩ := cs18 H261.out 0 rfl
  go_wp2_with fail
  clear z369 z370 z371 z372 z373 z374 z375 z376 z377 z378 z379 z380 z381 z382 z383 z384 z385 z386
  have he0 := HEB.out
  try simp only [decide_eq_true_eq, decide_eq_false_iff_not] at he0
  go_ret
  exact ⟨ret_b (by unfold sfOk; have := c263h.out; exact (decide_eq_false (by omega)).symm), by first | exact H261.out.below | exact H261.out.below'⟩
end Go.Proofs.Yteejjnhlfgjlaaa
