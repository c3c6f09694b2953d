/-
  Contracts: the interval of a product, in the reference.
-/
import Derived.Test.YtnnpnljdefmmcaaPw3
namespace Go.Proofs.Ytnnpnljdefmmcaa
open Go.RowKit
attribute [local go_sem ↓] Go.wp_at_zero Go.wp_at_succ
set_option linter.unusedVariables false
set_option linter.unusedSimpArgs false

attribute [local go_sem ↓] run_min4 run_max4

set_option maxRecDepth 100000 in
set_option maxHeartbeats 6400000 in
theorem rproduct_any (xl xh yl yh : Int) (W : World) (hxl : accOk xl = true) (hxh : accOk xh = true) (hyl : accOk yl = true) (hyh : accOk yh = true) : Calls Try.prog 119 #[.agg #[.int .i64 xl, .int .i64 xh], .agg #[.int .i64 yl, .int .i64 yh]] W fun e w' => (∃ lo hi, e = .returned (.tuple #[.agg #[.int .i64 lo, .int .i64 hi], .bool (pwMul (xl, xh) (yl, yh))]) ∧ (pwMul (xl, xh) (yl, yh) = true → lo = mnI (mnI (mnI (xl * yl) (xl * yh)) (xh * yl)) (xh * yh) ∧ hi = mxI (mxI (mxI (xl * yl) (xl * yh)) (xh * yl)) (xh * yh))) ∧ Below W.heap.size W w' := by
  obtain ⟨xl1, xl2⟩ := accOk_iff.1 hxl
  obtain ⟨xh1, xh2⟩ := accOk_iff.1 hxh
  obtain ⟨yl1, yl2⟩ := accOk_iff.1 hyl
  obtain ⟨yh1, yh2⟩ := accOk_iff.1 hyh
  obtain ⟨B, hB⟩ : ∃ B, W.heap.size = B := ⟨_, rfl⟩
  have HI0 := hid (St.init hB)
  go_enter Try.func119, Try.ntmps119
  go_upto_region 1 with fail
  have H310 := hid (show St B W [.cells (B + 1 + 1) #[.int .i64 0, .int .i64 0] 99, .cells (B + 1) #[.int .i64 yl, .int .i64 yh] 99, .cells B #[.int .i64 xl, .int .i64 xh] 99] [] (((W.alloc (.cells #[.int .i64 xl, .int .i64 xh] 99)).alloc (.cells #[.int .i64 yl, .int .i64 yh] 99)).alloc (.cells #[.int .i64 0, .int .i64 0] 99)) from (((HI0.out.alloc #[.int .i64 xl, .int .i64 xh] 99 hB).alloc #[.int .i64 yl, .int .i64 yh] 99 (by first | exact hB | simp [hB])).alloc #[.int .i64 0, .int .i64 0] 99 (by first | exact hB | simp [hB])))
  first | refine gen_code H310.out ?_ | refine gen_list H310.out ?_ | refine gen_calls H310.out ?_
  intro w311 hG
  clear H310
  have H310 := hid hG
  clear hG
  have z312 := H310.out.cell 2 rfl 0 rfl
  have z313 := H310.out.cell 2 rfl 1 rfl
  have z314 := H310.out.cell 1 rfl 0 rfl
  have z315 := H310.out.cell 1 rfl 1 rfl
  go_wp2_with fail
  clear z312 z313 z314 z315
  refine (rtimes_any _ _ _ hxl hyl).mono ?_
  rintro e w316 ⟨rfl, hsw⟩
  have hsw2 : w311 = w316 := by first | exact hsw | exact hsw.symm
  clear hsw
  subst hsw2
  obtain ⟨b317, hb317⟩ : ∃ xx', accOk (xl * yl) = xx' := ⟨_, rfl⟩
  rw [hb317]
  have HNb317 := hid hb317
  clear hb317
  obtain ⟨t318, ht318⟩ : ∃ xx', (if b317 = true then xl * yl else 0) = xx' := ⟨_, rfl⟩
  rw [ht318]
  have HNt318 := hid (show b317 = true → t318 = xl * yl from fun h => by rw [← ht318, if_pos h])
  clear ht318
  have z319 := H310.out.cell 2 rfl 0 rfl
  have z320 := H310.out.cell 2 rfl 1 rfl
  have z321 := H310.out.cell 1 rfl 0 rfl
  have z322 := H310.out.cell 1 rfl 1 rfl
  go_wp2_with fail
  clear z319 z320 z321 z322
  refine (rtimes_any _ _ _ hxl hyh).mono ?_
  rintro e w323 ⟨rfl, hsw⟩
  have hsw2 : w311 = w323 := by first | exact hsw | exact hsw.symm
  clear hsw
  subst hsw2
  obtain ⟨b324, hb324⟩ : ∃ xx', accOk (xl * yh) = xx' := ⟨_, rfl⟩
  rw [hb324]
  have HNb324 := hid hb324
  clear hb324
  obtain ⟨t325, ht325⟩ : ∃ xx', (if b324 = true then xl * yh else 0) = xx' := ⟨_, rfl⟩
  rw [ht325]
  have HNt325 := hid (show b324 = true → t325 = xl * yh from fun h => by rw [← ht325, if_pos h])
  clear ht325
  have z326 := H310.out.cell 2 rfl 0 rfl
  have z327 := H310.out.cell 2 rfl 1 rfl
  have z328 := H310.out.cell 1 rfl 0 rfl
  have z329 := H310.out.cell 1 rfl 1 rfl
  go_wp2_with fail
  clear z326 z327 z328 z329
  refine (rtimes_any _ _ _ hxh hyl).mono ?_
  rintro e w330 ⟨rfl, hsw⟩
  have hsw2 : w311 = w330 := by first | exact hsw | exact hsw.symm
  clear hsw
  subst hsw2
  obtain ⟨b331, hb331⟩ : ∃ xx', accOk (xh * yl) = xx' := ⟨_, rfl⟩
  rw [hb331]
  have HNb331 := hid hb331
  clear hb331
  obtain ⟨t332, ht332⟩ : ∃ xx', (if b331 = true then xh * yl else 0) = xx' := ⟨_, rfl⟩
  rw [ht332]
  have HNt332 := hid (show b331 = true → t332 = xh * yl from fun h => by rw [← ht332, if_pos h])
  clear ht332
  have z333 := H310.out.cell 2 rfl 0 rfl
  have z334 := H310.out.cell 2 rfl 1 rfl
  have z335 := H310.out.cell 1 rfl 0 rfl
  have z336 := H310.out.cell 1 rfl 1 rfl
  go_wp2_with fail
  clear z333 z334 z335 z336
  refine (rtimes_any _ _ _ hxh hyh).mono ?_
  rintro e w337 ⟨rfl, hsw⟩
  have hsw2 : w311 = w337 := by first | exact hsw | exact hsw.symm
  clear hsw
  subst hsw2
  obtain ⟨b338, hb338⟩ : ∃ xx', accOk (xh * yh) = xx' := ⟨_, rfl⟩
  rw [hb338]
  have HNb338 := hid hb338
  clear hb338
  obtain ⟨t339, ht339⟩ : ∃ xx', (if b338 = true then xh * yh else 0) = xx' := ⟨_, rfl⟩
  rw [ht339]
  have HNt339 := hid (show b338 = true → t339 = xh * yh from fun h => by rw [← ht339, if_pos h])
  clear ht339
  cases b317 with
  | true =>
    cases b324 with
    | true =>
      cases b331 with
      | true =>
        obtain ⟨m340, hm340⟩ : ∃ zz : Int, (mnI (mnI (mnI t318 t325) t332) t339) = zz := ⟨_, rfl⟩
        obtain ⟨m341, hm341⟩ : ∃ zz : Int, (mxI (mxI (mxI t318 t325) t332) t339) = zz := ⟨_, rfl⟩
        have z342 := H310.out.cell 0 rfl 0 rfl
        have z343 := H310.out.free 0 rfl 0
        have z344 := H310.out.cell 0 rfl 1 rfl
        have z345 := H310.out.free 0 rfl 1
        go_wp2_with fail
        clear z342 z343 z344 z345
        have HNm340 := hid hm340
        clear hm340
        have HNm341 := hid hm341
        clear hm341
        have H346 := hid (show St B W [.cells (B + 1 + 1) #[.int .i64 m340, .int .i64 m341] 99, .cells (B + 1) #[.int .i64 yl, .int .i64 yh] 99, .cells B #[.int .i64 xl, .int .i64 xh] 99] [] ((w311.setCell ⟨B + 1 + 1, 0, none⟩ (.int .i64 m340)).setCell ⟨B + 1 + 1, 1, none⟩ (.int .i64 m341)) from ((H310.out.set 0 rfl 0 (.int .i64 m340)).set 0 rfl 1 (.int .i64 m341)))
        have hmul := hid (show pwMul (xl, xh) (yl, yh) = b338 from by simp only [pwMul]; rw [HNb317.out, HNb324.out, HNb331.out, HNb338.out]; rfl)
        have q347 := H346.out.cell 0 rfl 0 rfl
        have q348 := H346.out.cell 0 rfl 1 rfl
        refine bodyPost_ret (v := .tuple #[.agg #[.int .i64 m340, .int .i64 m341], .bool b338]) ?_ rfl ⟨⟨_, _, by rw [hmul.out], fun h => by have e0 := (show t318 = xl * yl from by first | exact HNt318.out rfl | exact HNt318.out trivial); have e1 := (show t325 = xl * yh from by first | exact HNt325.out rfl | exact HNt325.out trivial); have e2 := (show t332 = xh * yl from by first | exact HNt332.out rfl | exact HNt332.out trivial); have e3 := (show t339 = xh * yh from HNt339.out (hmul.out.symm.trans h)); rw [← HNm340.out, ← HNm341.out, e0, e1, e2, e3]; exact ⟨rfl, rfl⟩⟩, by first | exact H346.out.below | exact H346.out.below'⟩
        simp [results, Try.results119, go_sem, q347, q348]
      | false =>
        obtain ⟨m340, hm340⟩ : ∃ zz : Int, (mnI (mnI (mnI t318 t325) t332) t339) = zz := ⟨_, rfl⟩
        obtain ⟨m341, hm341⟩ : ∃ zz : Int, (mxI (mxI (mxI t318 t325) t332) t339) = zz := ⟨_, rfl⟩
        have z349 := H310.out.cell 0 rfl 0 rfl
        have z350 := H310.out.free 0 rfl 0
        have z351 := H310.out.cell 0 rfl 1 rfl
        have z352 := H310.out.free 0 rfl 1
        go_wp2_with fail
        clear z349 z350 z351 z352
        have HNm340 := hid hm340
        clear hm340
        have HNm341 := hid hm341
        clear hm341
        have H353 := hid (show St B W [.cells (B + 1 + 1) #[.int .i64 m340, .int .i64 m341] 99, .cells (B + 1) #[.int .i64 yl, .int .i64 yh] 99, .cells B #[.int .i64 xl, .int .i64 xh] 99] [] ((w311.setCell ⟨B + 1 + 1, 0, none⟩ (.int .i64 m340)).setCell ⟨B + 1 + 1, 1, none⟩ (.int .i64 m341)) from ((H310.out.set 0 rfl 0 (.int .i64 m340)).set 0 rfl 1 (.int .i64 m341)))
        have q354 := H353.out.cell 0 rfl 0 rfl
        have q355 := H353.out.cell 0 rfl 1 rfl
        refine bodyPost_ret (v := .tuple #[.agg #[.int .i64 m340, .int .i64 m341], .bool false]) ?_ rfl ⟨⟨_, _, by rw [pwMul_no 2 HNb331.out], fun h => by rw [pwMul_no 2 HNb331.out] at h; cases h⟩, by first | exact H353.out.below | exact H353.out.below'⟩
        simp [results, Try.results119, go_sem, q354, q355]
    | false =>
      obtain ⟨m340, hm340⟩ : ∃ zz : Int, (mnI (mnI (mnI t318 t325) t332) t339) = zz := ⟨_, rfl⟩
      obtain ⟨m341, hm341⟩ : ∃ zz : Int, (mxI (mxI (mxI t318 t325) t332) t339) = zz := ⟨_, rfl⟩
      have z356 := H310.out.cell 0 rfl 0 rfl
      have z357 := H310.out.free 0 rfl 0
      have z358 := H310.out.cell 0 rfl 1 rfl
      have z359 := H310.out.free 0 rfl 1
      go_wp2_with fail
      clear z356 z357 z358 z359
      have HNm340 := hid hm340
      clear hm340
      have HNm341 := hid hm341
      clear hm341
      have H360 := hid (show St B W [.cells (B + 1 + 1) #[.int .i64 m340, .int .i64 m341] 99, .cells (B + 1) #[.int .i64 yl, .int .i64 yh] 99, .cells B #[.int .i64 xl, .int .i64 xh] 99] [] ((w311.setCell ⟨B + 1 + 1, 0, none⟩ (.int .i64 m340)).setCell ⟨B + 1 + 1, 1, none⟩ (.int .i64 m341)) from ((H310.out.set 0 rfl 0 (.int .i64 m340)).set 0 rfl 1 (.int .i64 m341)))
      have q361 := H360.out.cell 0 rfl 0 rfl
      have q362 := H360.out.cell 0 rfl 1 rfl
      refine bodyPost_ret (v := .tuple #[.agg #[.int .i64 m340, .int .i64 m341], .bool false]) ?_ rfl ⟨⟨_, _, by rw [pwMul_no 1 HNb324.out], fun h => by rw [pwMul_no 1 HNb324.out] at h; cases h⟩, by first | exact H360.out.below | exact H360.out.below'⟩
      simp [results, Try.results119, go_sem, q361, q362]
  | false =>
    obtain ⟨m340, hm340⟩ : ∃ zz : Int, (mnI (mnI (mnI t318 t325) t332) t339) = zz := ⟨_, rfl⟩
    obtain ⟨m341, hm341⟩ : ∃ zz : Int, (mxI (mxI (mxI t318 t325) t332) t339) = zz := ⟨_, rfl⟩
    have z363 := H310.out.cell 0 rfl 0 rfl
    have z364 := H310.out.free 0 rfl 0
    have z365 := H310.out.cell 0 rfl 1 rfl
    have z366 := H310.out.free 0 rfl 1
    go_wp2_with fail
    clear z363 z364 z365 z366
    have HNm340 := hid hm340
    clear hm340
    have HNm341 := hid hm341
    clear hm341
    have H367 := hid (show St B W [.cells (B + 1 + 1) #[.int .i64 m340, .int .i64 m341] 99, .cells (B + 1) #[.int .i64 yl, .int .i64 yh] 99, .cells B #[.int .i64 xl, .int .i64 xh] 99] [] ((w311.setCell ⟨B + 1 + 1, 0, none⟩ (.int .i64 m340)).setCell ⟨B + 1 + 1, 1, none⟩ (.int .i64 m341)) from ((H310.out.set 0 rfl 0 (.int .i64 m340)).set 0 rfl 1 (.int .i64 m341)))
    have q368 := H367.out.cell 0 rfl 0 rfl
    have q369 := H367.out.cell 0 rfl 1 rfl
    refine bodyPost_ret (v := .tuple #[.agg #[.int .i64 m340, .int .i64 m341], .bool false]) ?_ rfl ⟨⟨_, _, by rw [pwMul_no 0 HNb317.out], fun h => by rw [pwMul_no 0 HNb317.out] at h; cases h⟩, by first | exact H367.out.below | exact H367.out.below'⟩
    simp [results, Try.results119, go_sem, q368, q369]
end Go.Proofs.Ytnnpnljdefmmcaa
