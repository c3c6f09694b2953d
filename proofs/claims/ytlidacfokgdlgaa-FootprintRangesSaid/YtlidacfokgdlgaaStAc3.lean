/-
  Contracts: the source coordinates of an output coordinate, in the program and in the reference.
-/
import Derived.Test.YtlidacfokgdlgaaStAcc
namespace Go.Proofs.Ytlidacfokgdlgaa
open Go.RowKit
attribute [local go_sem ↓] Go.wp_at_zero Go.wp_at_succ
set_option linter.unusedVariables false
set_option linter.unusedSimpArgs false

theorem ret_pp {a b c d : Int} (h : a = c) (h2 : b = d) : Ending.returned (.tuple #[.int .i64 a, .int .i64 b]) = .returned (.tuple #[.int .i64 c, .int .i64 d]) := by rw [h, h2]

set_option maxRecDepth 100000 in
set_option maxHeartbeats 6400000 in
theorem fspan16_any (kd sa sb : Int) (bar : Bool) (ep ef kw kh : Int) (wa : Option Addr) (wn wc : Nat) (ra : Option Addr) (rn rc : Nat) (ca : Option Addr) (cn cc : Nat) (sh sh2 : Int) (xa : Option Addr) (xn xc : Nat) (ya : Option Addr) (yn yc : Nat) (bins : Int) (oa : Option Addr) (on oc : Nat) (mx : Int) (i side : Int) (a : Option Addr) (m c : Nat) (T : Tbl) (W : World) (hs : Tps W a m c T) (hi : 0 ≤ i ∧ i ≤ 128) (hsd : kd = 1 ∨ kd = 2 → 1 ≤ side ∧ side ≤ 9) :
    Calls Try.prog 43 #[.agg #[.int .i64 kd, .int .i64 sa, .int .i64 sb, .bool bar, .int .i64 ep, .int .i64 ef, .int .i64 kw, .int .i64 kh, .slice wa wn wc, .slice ra rn rc, .slice ca cn cc, .int .i64 sh, .int .i64 sh2, .slice xa xn xc, .slice ya yn yc, .int .i64 bins, .slice oa on oc, .int .i64 mx], .int .i64 i, .int .i64 side, .slice a m c] W fun e w' => e = .returned (.tuple #[.int .i64 (spF kd i side T), .int .i64 (spC kd i side T)]) ∧ Below W.heap.size W w' := by
  obtain ⟨B, hB⟩ : ∃ B, W.heap.size = B := ⟨_, rfl⟩
  have HI0 := hid (St.init hB)
  have HL := hid hs.len
  have nmx : (m : Int) ≤ 9223372036854775807 := by have := hs.nc; have := hs.cap; omega
  have HS := hid hs
  obtain ⟨i0, i1⟩ := hi
  obtain ⟨I, hI⟩ : ∃ I : Nat, i = I := ⟨i.toNat, by omega⟩
  subst hI
  clear hs
  go_enter Try.func43, Try.ntmps43
  go_upto_region 1 with fail
  have H361 := hid (show St B W [.cells B #[.int .i64 kd, .int .i64 sa, .int .i64 sb, .bool bar, .int .i64 ep, .int .i64 ef, .int .i64 kw, .int .i64 kh, .slice wa wn wc, .slice ra rn rc, .slice ca cn cc, .int .i64 sh, .int .i64 sh2, .slice xa xn xc, .slice ya yn yc, .int .i64 bins, .slice oa on oc, .int .i64 mx] 33] [] (W.alloc (.cells #[.int .i64 kd, .int .i64 sa, .int .i64 sb, .bool bar, .int .i64 ep, .int .i64 ef, .int .i64 kw, .int .i64 kh, .slice wa wn wc, .slice ra rn rc, .slice ca cn cc, .int .i64 sh, .int .i64 sh2, .slice xa xn xc, .slice ya yn yc, .int .i64 bins, .slice oa on oc, .int .i64 mx] 33)) from (HI0.out.alloc #[.int .i64 kd, .int .i64 sa, .int .i64 sb, .bool bar, .int .i64 ep, .int .i64 ef, .int .i64 kw, .int .i64 kh, .slice wa wn wc, .slice ra rn rc, .slice ca cn cc, .int .i64 sh, .int .i64 sh2, .slice xa xn xc, .slice ya yn yc, .int .i64 bins, .slice oa on oc, .int .i64 mx] 33 hB))
  first | refine gen_code H361.out ?_ | refine gen_list H361.out ?_ | refine gen_calls H361.out ?_
  intro w362 hG
  clear H361
  have H361 := hid hG
  clear hG
  by_cases c363 : (kd : Int) = 1
  · obtain ⟨c363c, c363d⟩ : (kd : Int) ≤ 1 ∧ (1 : Int) ≤ kd := by omega
    have c363a : ((kd : Int) == (1)) = true := by simpa using c363
    have c363b : ((kd : Int) != (1)) = false := by simpa using c363
    have c363h := hid c363
    clear c363
    have z364 := H361.out.cell 0 rfl 0 rfl
    have z365 := H361.out.cell 0 rfl 1 rfl
    have z366 := H361.out.cell 0 rfl 2 rfl
    have z367 := H361.out.cell 0 rfl 3 rfl
    have z368 := H361.out.cell 0 rfl 4 rfl
    have z369 := H361.out.cell 0 rfl 5 rfl
    have z370 := H361.out.cell 0 rfl 6 rfl
    have z371 := H361.out.cell 0 rfl 7 rfl
    have z372 := H361.out.cell 0 rfl 8 rfl
    have z373 := H361.out.cell 0 rfl 9 rfl
    have z374 := H361.out.cell 0 rfl 10 rfl
    have z375 := H361.out.cell 0 rfl 11 rfl
    have z376 := H361.out.cell 0 rfl 12 rfl
    have z377 := H361.out.cell 0 rfl 13 rfl
    have z378 := H361.out.cell 0 rfl 14 rfl
    have z379 := H361.out.cell 0 rfl 15 rfl
    have z380 := H361.out.cell 0 rfl 16 rfl
    have z381 := H361.out.cell 0 rfl 17 rfl
    go_upto_region 4 with fail
    clear z364 z365 z366 z367 z368 z369 z370 z371 z372 z373 z374 z375 z376 z377 z378 z379 z380 z381
    obtain ⟨sd1, sd2⟩ := hsd (by have := c363h.out; omega)
    obtain ⟨hf, hhf⟩ : ∃ z, Int.tdiv side 2 = z := ⟨_, rfl⟩
    have hf1 : 0 ≤ hf ∧ hf ≤ 4 := by rw [← hhf, Int.tdiv_eq_ediv_of_nonneg (by omega)]; omega
    have HHF := hid hhf
    have whf : IntKind.i64.wrap hf = hf := IntWalk.i64_in _ (by omega)
    have whi : IntKind.i64.wrap ((I : Int) - hf) = (I : Int) - hf := IntWalk.i64_in _ (by omega)
    go_wp2_with fail
    go_ret2
    exact ⟨ret_pp (by unfold spF; rw [if_pos (by have := c363h.out; omega), HHF.out]) (by unfold spC; rw [if_pos (by have := c363h.out; omega)]), by first | exact H361.out.below | exact H361.out.below'⟩
  · have c363a : ((kd : Int) == (1)) = false := by simpa using c363
    have c363b : ((kd : Int) != (1)) = true := by simpa using c363
    have c363h := hid c363
    clear c363
    by_cases c382 : (kd : Int) = 2
    · obtain ⟨c382c, c382d⟩ : (kd : Int) ≤ 2 ∧ (2 : Int) ≤ kd := by omega
      have c382a : ((kd : Int) == (2)) = true := by simpa using c382
      have c382b : ((kd : Int) != (2)) = false := by simpa using c382
      have c382h := hid c382
      clear c382
      have z383 := H361.out.cell 0 rfl 0 rfl
      have z384 := H361.out.cell 0 rfl 1 rfl
      have z385 := H361.out.cell 0 rfl 2 rfl
      have z386 := H361.out.cell 0 rfl 3 rfl
      have z387 := H361.out.cell 0 rfl 4 rfl
      have z388 := H361.out.cell 0 rfl 5 rfl
      have z389 := H361.out.cell 0 rfl 6 rfl
      have z390 := H361.out.cell 0 rfl 7 rfl
      have z391 := H361.out.cell 0 rfl 8 rfl
      have z392 := H361.out.cell 0 rfl 9 rfl
      have z393 := H361.out.cell 0 rfl 10 rfl
      have z394 := H361.out.cell 0 rfl 11 rfl
      have z395 := H361.out.cell 0 rfl 12 rfl
      have z396 := H361.out.cell 0 rfl 13 rfl
      have z397 := H361.out.cell 0 rfl 14 rfl
      have z398 := H361.out.cell 0 rfl 15 rfl
      have z399 := H361.out.cell 0 rfl 16 rfl
      have z400 := H361.out.cell 0 rfl 17 rfl
      go_upto_region 4 with fail
      clear z383 z384 z385 z386 z387 z388 z389 z390 z391 z392 z393 z394 z395 z396 z397 z398 z399 z400
      obtain ⟨sd1, sd2⟩ := hsd (by have := c363h.out; have := c382h.out; omega)
      obtain ⟨hf, hhf⟩ : ∃ z, Int.tdiv side 2 = z := ⟨_, rfl⟩
      have hf1 : 0 ≤ hf ∧ hf ≤ 4 := by rw [← hhf, Int.tdiv_eq_ediv_of_nonneg (by omega)]; omega
      have HHF := hid hhf
      have whf : IntKind.i64.wrap hf = hf := IntWalk.i64_in _ (by omega)
      have whi : IntKind.i64.wrap ((I : Int) - hf) = (I : Int) - hf := IntWalk.i64_in _ (by omega)
      go_wp2_with fail
      go_ret2
      exact ⟨ret_pp (by unfold spF; rw [if_pos (by have := c363h.out; have := c382h.out; omega), HHF.out]) (by unfold spC; rw [if_pos (by have := c363h.out; have := c382h.out; omega)]), by first | exact H361.out.below | exact H361.out.below'⟩
    · have c382a : ((kd : Int) == (2)) = false := by simpa using c382
      have c382b : ((kd : Int) != (2)) = true := by simpa using c382
      have c382h := hid c382
      clear c382
      by_cases c401 : (kd : Int) = 3
      · obtain ⟨c401c, c401d⟩ : (kd : Int) ≤ 3 ∧ (3 : Int) ≤ kd := by omega
        have c401a : ((kd : Int) == (3)) = true := by simpa using c401
        have c401b : ((kd : Int) != (3)) = false := by simpa using c401
        have c401h := hid c401
        clear c401
        by_cases hin : I < m
        · skip
          have hin' : (I : Int) < m := by omega
          have hin2 : ¬ ((m : Int) ≤ (I : Int)) := by omega
          obtain ⟨pb, po, hpa⟩ := HS.out.at (by omega)
          subst hpa
          obtain ⟨ta, tn, tc, e1, e2, e3⟩ := HS.out.row (i := I) hin
          obtain ⟨p, hp⟩ : ∃ p, T.getD I (0, []) = p := ⟨_, rfl⟩
          obtain ⟨k, ws⟩ := p
          rw [hp] at e1 e3
          simp only at e1 e3
          have HE1 := hid e1
          have HE2 := hid e2
          have HWL := hid e3.len
          have tnm : (tn : Int) ≤ 9223372036854775807 := by have := e3.nc; have := e3.cap; omega
          have HP := hid hp
          clear e1 e2 e3 hp
          have z402 := H361.out.cell 0 rfl 0 rfl
          have z403 := H361.out.cell 0 rfl 1 rfl
          have z404 := H361.out.cell 0 rfl 2 rfl
          have z405 := H361.out.cell 0 rfl 3 rfl
          have z406 := H361.out.cell 0 rfl 4 rfl
          have z407 := H361.out.cell 0 rfl 5 rfl
          have z408 := H361.out.cell 0 rfl 6 rfl
          have z409 := H361.out.cell 0 rfl 7 rfl
          have z410 := H361.out.cell 0 rfl 8 rfl
          have z411 := H361.out.cell 0 rfl 9 rfl
          have z412 := H361.out.cell 0 rfl 10 rfl
          have z413 := H361.out.cell 0 rfl 11 rfl
          have z414 := H361.out.cell 0 rfl 12 rfl
          have z415 := H361.out.cell 0 rfl 13 rfl
          have z416 := H361.out.cell 0 rfl 14 rfl
          have z417 := H361.out.cell 0 rfl 15 rfl
          have z418 := H361.out.cell 0 rfl 16 rfl
          have z419 := H361.out.cell 0 rfl 17 rfl
          go_upto_region 8 with fail
          clear z402 z403 z404 z405 z406 z407 z408 z409 z410 z411 z412 z413 z414 z415 z416 z417 z418 z419
          have H420 := hid H361.out.drew
          refine wp_region_held_drew (S := (fun w' => w'.cell? ⟨pb, po + I * 2, none⟩ = some (.int .i64 k) ∧ w'.cell? ⟨pb, po + I * 2 + 1, none⟩ = some (.slice ta tn tc))) (by kernel_rfl) ⟨(H420.out.oldCell HE1.out), (H420.out.oldCell HE2.out)⟩ (fun hHeld => ?_)
          generalize w362.drew = k421 at *
          refine tkA 0 ?_
          try simp only [Act.put, p1, p2, p3, p4, p5, p6]
          refine tkA 1 ?_
          try simp only [Act.put, p1, p2, p3, p4, p5, p6]
          refine tkA 2 ?_
          try simp only [Act.put, p1, p2, p3, p4, p5, p6]
          refine tkA 3 ?_
          try simp only [Act.put, p1, p2, p3, p4, p5, p6]
          refine tkA 4 ?_
          try simp only [Act.put, p1, p2, p3, p4, p5, p6]
          refine tkA 5 ?_
          try simp only [Act.put, p1, p2, p3, p4, p5, p6]
          refine tkA 6 ?_
          try simp only [Act.put, p1, p2, p3, p4, p5, p6]
          refine tkA 7 ?_
          try simp only [Act.put, p1, p2, p3, p4, p5, p6]
          refine tkA 8 ?_
          try simp only [Act.put, p1, p2, p3, p4, p5, p6]
          refine tkA 9 ?_
          try simp only [Act.put, p1, p2, p3, p4, p5, p6]
          refine tkA 10 ?_
          try simp only [Act.put, p1, p2, p3, p4, p5, p6]
          refine tkA 11 ?_
          try simp only [Act.put, p1, p2, p3, p4, p5, p6]
          refine tkA 12 ?_
          try simp only [Act.put, p1, p2, p3, p4, p5, p6]
          refine wpAnyH_done (by kernel_rfl) ?_ _
          try clear hHeld
          go_wp2_with fail
          go_ret2
          exact ⟨ret_pp (by unfold spF; rw [if_neg (by have := c363h.out; have := c382h.out; have := c401h.out; omega), if_pos (by have := c363h.out; have := c382h.out; have := c401h.out; omega), if_pos (by rw [← HL.out]; omega), Int.toNat_natCast, HP.out]) (by unfold spC; rw [if_neg (by have := c363h.out; have := c382h.out; have := c401h.out; omega), if_pos (by have := c363h.out; have := c382h.out; have := c401h.out; omega), if_pos (by rw [← HL.out]; omega), Int.toNat_natCast, HP.out]; show _ = (ws.length : Int); rw [HWL.out]), by first | exact H420.out.below | exact H420.out.below'⟩
        · skip
          have hin' : ¬ ((I : Int) < m) := by omega
          have hin2 : (m : Int) ≤ (I : Int) := by omega
          have z422 := H361.out.cell 0 rfl 0 rfl
          have z423 := H361.out.cell 0 rfl 1 rfl
          have z424 := H361.out.cell 0 rfl 2 rfl
          have z425 := H361.out.cell 0 rfl 3 rfl
          have z426 := H361.out.cell 0 rfl 4 rfl
          have z427 := H361.out.cell 0 rfl 5 rfl
          have z428 := H361.out.cell 0 rfl 6 rfl
          have z429 := H361.out.cell 0 rfl 7 rfl
          have z430 := H361.out.cell 0 rfl 8 rfl
          have z431 := H361.out.cell 0 rfl 9 rfl
          have z432 := H361.out.cell 0 rfl 10 rfl
          have z433 := H361.out.cell 0 rfl 11 rfl
          have z434 := H361.out.cell 0 rfl 12 rfl
          have z435 := H361.out.cell 0 rfl 13 rfl
          have z436 := H361.out.cell 0 rfl 14 rfl
          have z437 := H361.out.cell 0 rfl 15 rfl
          have z438 := H361.out.cell 0 rfl 16 rfl
          have z439 := H361.out.cell 0 rfl 17 rfl
          go_wp2_with fail
          clear z422 z423 z424 z425 z426 z427 z428 z429 z430 z431 z432 z433 z434 z435 z436 z437 z438 z439
          go_ret2
          exact ⟨ret_pp (by unfold spF; rw [if_neg (by have := c363h.out; have := c382h.out; have := c401h.out; omega), if_pos (by have := c363h.out; have := c382h.out; have := c401h.out; omega), if_neg (by rw [← HL.out]; omega)]) (by unfold spC; rw [if_neg (by have := c363h.out; have := c382h.out; have := c401h.out; omega), if_pos (by have := c363h.out; have := c382h.out; have := c401h.out; omega), if_neg (by rw [← HL.out]; omega)]), by first | exact H361.out.below | exact H361.out.below'⟩
      · have c401a : ((kd : Int) == (3)) = false := by simpa using c401
        have c401b : ((kd : Int) != (3)) = true := by simpa using c401
        have c401h := hid c401
        clear c401
        have z440 := H361.out.cell 0 rfl 0 rfl
        have z441 := H361.out.cell 0 rfl 1 rfl
        have z442 := H361.out.cell 0 rfl 2 rfl
        have z443 := H361.out.cell 0 rfl 3 rfl
        have z444 := H361.out.cell 0 rfl 4 rfl
        have z445 := H361.out.cell 0 rfl 5 rfl
        have z446 := H361.out.cell 0 rfl 6 rfl
        have z447 := H361.out.cell 0 rfl 7 rfl
        have z448 := H361.out.cell 0 rfl 8 rfl
        have z449 := H361.out.cell 0 rfl 9 rfl
        have z450 := H361.out.cell 0 rfl 10 rfl
        have z451 := H361.out.cell 0 rfl 11 rfl
        have z452 := H361.out.cell 0 rfl 12 rfl
        have z453 := H361.out.cell 0 rfl 13 rfl
        have z454 := H361.out.cell 0 rfl 14 rfl
        have z455 := H361.out.cell 0 rfl 15 rfl
        have z456 := H361.out.cell 0 rfl 16 rfl
        have z457 := H361.out.cell 0 rfl 17 rfl
        go_wp2_with fail
        clear z440 z441 z442 z443 z444 z445 z446 z447 z448 z449 z450 z451 z452 z453 z454 z455 z456 z457
        go_ret2
        exact ⟨ret_pp (by unfold spF; rw [if_neg (by have := c363h.out; have := c382h.out; have := c401h.out; omega), if_neg (by have := c363h.out; have := c382h.out; have := c401h.out; omega)]) (by unfold spC; rw [if_neg (by have := c363h.out; have := c382h.out; have := c401h.out; omega), if_neg (by have := c363h.out; have := c382h.out; have := c401h.out; omega)]), by first | exact H361.out.below | exact H361.out.below'⟩

set_option maxRecDepth 100000 in
set_option maxHeartbeats 6400000 in
theorem rwindow_any (kd : Int) (i side : Int) (a : Option Addr) (m c : Nat) (T : Tbl) (W : World) (hs : Tps W a m c T) (hi : 0 ≤ i ∧ i ≤ 128) (hsd : kd = 1 ∨ kd = 2 → 1 ≤ side ∧ side ≤ 9) :
    Calls Try.prog 45 #[.int .i64 kd, .int .i64 i, .int .i64 side, .slice a m c] W fun e w' => e = .returned (.tuple #[.int .i64 (spF kd i side T), .int .i64 (spC kd i side T)]) ∧ Below W.heap.size W w' := by
  obtain ⟨B, hB⟩ : ∃ B, W.heap.size = B := ⟨_, rfl⟩
  have HI0 := hid (St.init hB)
  have HL := hid hs.len
  have nmx : (m : Int) ≤ 9223372036854775807 := by have := hs.nc; have := hs.cap; omega
  have HS := hid hs
  obtain ⟨i0, i1⟩ := hi
  obtain ⟨I, hI⟩ : ∃ I : Nat, i = I := ⟨i.toNat, by omega⟩
  subst hI
  clear hs
  go_enter Try.func45, Try.ntmps45
  by_cases c458 : (kd : Int) = 1
  · obtain ⟨c458c, c458d⟩ : (kd : Int) ≤ 1 ∧ (1 : Int) ≤ kd := by omega
    have c458a : ((kd : Int) == (1)) = true := by simpa using c458
    have c458b : ((kd : Int) != (1)) = false := by simpa using c458
    have c458h := hid c458
    clear c458
    go_upto_region 4 with fail
    obtain ⟨sd1, sd2⟩ := hsd (by have := c458h.out; omega)
    obtain ⟨hf, hhf⟩ : ∃ z, Int.tdiv side 2 = z := ⟨_, rfl⟩
    have hf1 : 0 ≤ hf ∧ hf ≤ 4 := by rw [← hhf, Int.tdiv_eq_ediv_of_nonneg (by omega)]; omega
    have HHF := hid hhf
    have whf : IntKind.i64.wrap hf = hf := IntWalk.i64_in _ (by omega)
    have whi : IntKind.i64.wrap ((I : Int) - hf) = (I : Int) - hf := IntWalk.i64_in _ (by omega)
    go_wp2_with fail
    go_ret2
    exact ⟨ret_pp (by unfold spF; rw [if_pos (by have := c458h.out; omega), HHF.out]) (by unfold spC; rw [if_pos (by have := c458h.out; omega)]), by first | exact HI0.out.below | exact HI0.out.below'⟩
  · have c458a : ((kd : Int) == (1)) = false := by simpa using c458
    have c458b : ((kd : Int) != (1)) = true := by simpa using c458
    have c458h := hid c458
    clear c458
    by_cases c459 : (kd : Int) = 2
    · obtain ⟨c459c, c459d⟩ : (kd : Int) ≤ 2 ∧ (2 : Int) ≤ kd := by omega
      have c459a : ((kd : Int) == (2)) = true := by simpa using c459
      have c459b : ((kd : Int) != (2)) = false := by simpa using c459
      have c459h := hid c459
      clear c459
      go_upto_region 4 with fail
      obtain ⟨sd1, sd2⟩ := hsd (by have := c458h.out; have := c459h.out; omega)
      obtain ⟨hf, hhf⟩ : ∃ z, Int.tdiv side 2 = z := ⟨_, rfl⟩
      have hf1 : 0 ≤ hf ∧ hf ≤ 4 := by rw [← hhf, Int.tdiv_eq_ediv_of_nonneg (by omega)]; omega
      have HHF := hid hhf
      have whf : IntKind.i64.wrap hf = hf := IntWalk.i64_in _ (by omega)
      have whi : IntKind.i64.wrap ((I : Int) - hf) = (I : Int) - hf := IntWalk.i64_in _ (by omega)
      go_wp2_with fail
      go_ret2
      exact ⟨ret_pp (by unfold spF; rw [if_pos (by have := c458h.out; have := c459h.out; omega), HHF.out]) (by unfold spC; rw [if_pos (by have := c458h.out; have := c459h.out; omega)]), by first | exact HI0.out.below | exact HI0.out.below'⟩
    · have c459a : ((kd : Int) == (2)) = false := by simpa using c459
      have c459b : ((kd : Int) != (2)) = true := by simpa using c459
      have c459h := hid c459
      clear c459
      by_cases c460 : (kd : Int) = 3
      · obtain ⟨c460c, c460d⟩ : (kd : Int) ≤ 3 ∧ (3 : Int) ≤ kd := by omega
        have c460a : ((kd : Int) == (3)) = true := by simpa using c460
        have c460b : ((kd : Int) != (3)) = false := by simpa using c460
        have c460h := hid c460
        clear c460
        by_cases hin : I < m
        · skip
          have hin' : (I : Int) < m := by omega
          have hin2 : ¬ ((m : Int) ≤ (I : Int)) := by omega
          obtain ⟨pb, po, hpa⟩ := HS.out.at (by omega)
          subst hpa
          obtain ⟨ta, tn, tc, e1, e2, e3⟩ := HS.out.row (i := I) hin
          obtain ⟨p, hp⟩ : ∃ p, T.getD I (0, []) = p := ⟨_, rfl⟩
          obtain ⟨k, ws⟩ := p
          rw [hp] at e1 e3
          simp only at e1 e3
          have HE1 := hid e1
          have HE2 := hid e2
          have HWL := hid e3.len
          have tnm : (tn : Int) ≤ 9223372036854775807 := by have := e3.nc; have := e3.cap; omega
          have HP := hid hp
          clear e1 e2 e3 hp
          go_upto_region 7 with fail
          have H461 := hid HI0.out.drew
          refine wp_region_held_drew (S := (fun w' => w'.cell? ⟨pb, po + I * 2, none⟩ = some (.int .i64 k) ∧ w'.cell? ⟨pb, po + I * 2 + 1, none⟩ = some (.slice ta tn tc))) (by kernel_rfl) ⟨(H461.out.oldCell HE1.out), (H461.out.oldCell HE2.out)⟩ (fun hHeld => ?_)
          generalize W.drew = k462 at *
          refine tkA 0 ?_
          try simp only [Act.put, p1, p2, p3, p4, p5, p6]
          refine tkA 1 ?_
          try simp only [Act.put, p1, p2, p3, p4, p5, p6]
          refine tkA 2 ?_
          try simp only [Act.put, p1, p2, p3, p4, p5, p6]
          refine tkA 3 ?_
          try simp only [Act.put, p1, p2, p3, p4, p5, p6]
          refine tkA 4 ?_
          try simp only [Act.put, p1, p2, p3, p4, p5, p6]
          refine tkA 5 ?_
          try simp only [Act.put, p1, p2, p3, p4, p5, p6]
          refine tkA 6 ?_
          try simp only [Act.put, p1, p2, p3, p4, p5, p6]
          refine tkA 7 ?_
          try simp only [Act.put, p1, p2, p3, p4, p5, p6]
          refine tkA 8 ?_
          try simp only [Act.put, p1, p2, p3, p4, p5, p6]
          refine tkA 9 ?_
          try simp only [Act.put, p1, p2, p3, p4, p5, p6]
          refine tkA 10 ?_
          try simp only [Act.put, p1, p2, p3, p4, p5, p6]
          refine tkA 11 ?_
          try simp only [Act.put, p1, p2, p3, p4, p5, p6]
          refine tkA 12 ?_
          try simp only [Act.put, p1, p2, p3, p4, p5, p6]
          refine wpAnyH_done (by kernel_rfl) ?_ _
          try clear hHeld
          go_wp2_with fail
          go_ret2
          exact ⟨ret_pp (by unfold spF; rw [if_neg (by have := c458h.out; have := c459h.out; have := c460h.out; omega), if_pos (by have := c458h.out; have := c459h.out; have := c460h.out; omega), if_pos (by rw [← HL.out]; omega), Int.toNat_natCast, HP.out]) (by unfold spC; rw [if_neg (by have := c458h.out; have := c459h.out; have := c460h.out; omega), if_pos (by have := c458h.out; have := c459h.out; have := c460h.out; omega), if_pos (by rw [← HL.out]; omega), Int.toNat_natCast, HP.out]; show _ = (ws.length : Int); rw [HWL.out]), by first | exact H461.out.below | exact H461.out.below'⟩
        · skip
          have hin' : ¬ ((I : Int) < m) := by omega
          have hin2 : (m : Int) ≤ (I : Int) := by omega
          go_wp2_with fail
          go_ret2
          exact ⟨ret_pp (by unfold spF; rw [if_neg (by have := c458h.out; have := c459h.out; have := c460h.out; omega), if_pos (by have := c458h.out; have := c459h.out; have := c460h.out; omega), if_neg (by rw [← HL.out]; omega)]) (by unfold spC; rw [if_neg (by have := c458h.out; have := c459h.out; have := c460h.out; omega), if_pos (by have := c458h.out; have := c459h.out; have := c460h.out; omega), if_neg (by rw [← HL.out]; omega)]), by first | exact HI0.out.below | exact HI0.out.below'⟩
      · have c460a : ((kd : Int) == (3)) = false := by simpa using c460
        have c460b : ((kd : Int) != (3)) = true := by simpa using c460
        have c460h := hid c460
        clear c460
        go_wp2_with fail
        go_ret2
        exact ⟨ret_pp (by unfold spF; rw [if_neg (by have := c458h.out; have := c459h.out; have := c460h.out; omega), if_neg (by have := c458h.out; have := c459h.out; have := c460h.out; omega)]) (by unfold spC; rw [if_neg (by have := c458h.out; have := c459h.out; have := c460h.out; omega), if_neg (by have := c458h.out; have := c459h.out; have := c460h.out; omega)]), by first | exact HI0.out.below | exact HI0.out.below'⟩
end Go.Proofs.Ytlidacfokgdlgaa
