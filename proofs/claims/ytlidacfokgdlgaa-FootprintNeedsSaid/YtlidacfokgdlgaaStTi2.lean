/-
 Contract: the needed tiles of a stage, in the reference.
-/
import Derived.Test.YtlidacfokgdlgaaKL
import Derived.Test.YtlidacfokgdlgaaGrid
import Derived.Test.YtlidacfokgdlgaaKB
import Derived.Test.YtlidacfokgdlgaaStTi
import Derived.Test.YtlidacfokgdlgaaKH
namespace Go.Proofs.Ytlidacfokgdlgaa
open Go.RowKit
attribute [local go_sem ↓] Go.wp_at_zero Go.wp_at_succ
set_option linter.unusedVariables false
set_option linter.unusedSimpArgs false

set_option maxRecDepth 100000 in
set_option maxHeartbeats 3200000 in
theorem rtiles_any {kd sa sb : Int} {bar : Bool} {ep ef kw kh : Int} {wa : Option Addr} {wn wc : Nat} {ra : Option Addr} {rn rc : Nat} {ca : Option Addr} {cn cc : Nat} {sh sh2 : Int} {xa : Option Addr} {xn xc : Nat} {ya : Option Addr} {yn yc : Nat} {bins : Int} {oa : Option Addr} {on oc : Nat} {mx : Int} {A : Array Value} (hA : A = #[.int .i64 kd, .int .i64 sa, .int .i64 sb, .bool bar, .int .i64 ep, .int .i64 ef, .int .i64 kw, .int .i64 kh, .slice wa wn wc, .slice ra rn rc, .slice ca cn cc, .int .i64 sh, .int .i64 sh2, .slice xa xn xc, .slice ya yn yc, .int .i64 bins, .slice oa on oc, .int .i64 mx]) (X Y : Tbl) (w h tw th x0 y0 x1 y1 : Int) (W : World) (hx : Tps W xa xn xc X) (hy : Tps W ya yn yc Y) :
  Calls Try.prog 17 #[.agg A, .int .i64 w, .int .i64 h, .int .i64 tw, .int .i64 th, .agg #[.int .i64 x0, .int .i64 y0, .int .i64 x1, .int .i64 y1]] W fun e w' => ∃ v, e = .returned v ∧ Own W.heap.size w' v (tlL (stCol kd sb ep ef kw kh wn rn cn sh sh2 xn yn bins on mx X Y w x0 x1) (stRow kd sb ep ef kw kh wn rn cn sh sh2 xn yn bins on mx X Y h y0 y1) w h tw th) ∧ Below W.heap.size W w' := by
 obtain ⟨B, hB⟩ : ∃ B, W.heap.size = B := ⟨_, rfl⟩
 have HI0 := hid (St.init hB)
 have HX := hid hx
 have HY := hid hy
 have HA := hid hA
 clear hx hy hA
 go_enter Try.func17, Try.ntmps17
 go_upto_region 1 with fail
 have H1 := hid (show St B W [.cells (B + 1) #[.int .i64 x0, .int .i64 y0, .int .i64 x1, .int .i64 y1] 24, .cells B A 33] [] ((W.alloc (.cells A 33)).alloc (.cells #[.int .i64 x0, .int .i64 y0, .int .i64 x1, .int .i64 y1] 24)) from ((HI0.out.alloc A 33 hB).alloc #[.int .i64 x0, .int .i64 y0, .int .i64 x1, .int .i64 y1] 24 (by first | exact hB | simp [hB])))
 first | refine gen_code H1.out ?_ | refine gen_list H1.out ?_ | refine gen_calls H1.out ?_
 intro w2 hG
 clear H1
 have H1 := hid hG
 clear hG
 have z3 := H1.out.cell 0 rfl 0 rfl
 have z4 := H1.out.cell 0 rfl 1 rfl
 have z5 := H1.out.cell 0 rfl 2 rfl
 have z6 := H1.out.cell 0 rfl 3 rfl
 go_wp2_with fail
 clear z3 z4 z5 z6
 refine (qvalid_any x0 y0 x1 y1 _).mono ?_
 rintro e w7 ⟨rfl, hb⟩
 have H8 := hid (H1.out.call hb)
 clear hb
 obtain ⟨b9, hb9⟩ : ∃ xx', rValid x0 y0 x1 y1 = xx' := ⟨_, rfl⟩
 rw [hb9]
 have HNb9 := hid hb9
 clear hb9
 cases b9 with
 | true =>
  go_upto_region 3 with fail
  have H10 := hid H8.out.drew
  refine wp_region_held_drew (S := (fun w' => w'.cell? ⟨B + 1, 0, none⟩ = some (.int .i64 x0) ∧ w'.cell? ⟨B + 1, 1, none⟩ = some (.int .i64 y0) ∧ w'.cell? ⟨B + 1, 2, none⟩ = some (.int .i64 x1) ∧ w'.cell? ⟨B + 1, 3, none⟩ = some (.int .i64 y1) ∧ (Instr.loadAt 33 (.pointer (some ⟨B, 0, none⟩))).run Try.prog w' = .ok (.agg A) w')) (by kernel_rfl) ⟨H10.out.cell 0 rfl 0 rfl, H10.out.cell 0 rfl 1 rfl, H10.out.cell 0 rfl 2 rfl, H10.out.cell 0 rfl 3 rfl, H10.out.loadStg 1 rfl (by rw [HA.out]; rfl)⟩ (fun hHeld => ?_)
  generalize w7.drew = k11 at *
  refine tkA 0 (v := .agg A) ?_ (hy := fun wS hSw => loadExec hSw.2.2.2.2 (by rfl))
  try simp only [Act.put, p1, p2, p3, p4, p5, p6]
  refine tkA 1 ?_
  try simp only [Act.put, p1, p2, p3, p4, p5, p6]
  refine tkA 2 ?_
  try simp only [Act.put, p1, p2, p3, p4, p5, p6]
  refine tkA 3 ?_
  try simp only [Act.put, p1, p2, p3, p4, p5, p6]
  refine tkA 4 ?_
  try simp only [Act.put, p1, p2, p3, p4, p5, p6]
  refine tkA 5 ?_
  try simp only [Act.put, p1, p2, p3, p4, p5, p6]
  refine tkA 7 (v := .agg A) ?_ (hy := fun wS hSw => loadExec hSw.2.2.2.2 (by rfl))
  try simp only [Act.put, p1, p2, p3, p4, p5, p6]
  refine tkA 8 ?_
  try simp only [Act.put, p1, p2, p3, p4, p5, p6]
  refine tkA 9 ?_
  try simp only [Act.put, p1, p2, p3, p4, p5, p6]
  refine tkA 10 ?_
  try simp only [Act.put, p1, p2, p3, p4, p5, p6]
  refine tkA 11 ?_
  try simp only [Act.put, p1, p2, p3, p4, p5, p6]
  refine tkA 12 ?_
  try simp only [Act.put, p1, p2, p3, p4, p5, p6]
  refine wpAnyH_ready (rs := [6]) (by kernel_rfl) (by simp) (AllReadyH.cons (o := _) rfl (fun K hK => ?_) AllReadyH.nil)
  go_simp
  go_at_call 13
  refine (rcolumns_A HA.out X Y _ _ _ _ (H10.out.oldTps HX.out) (H10.out.oldTps HY.out)).mono ?_
  rintro e w12 ⟨v13, rfl, ho, hb⟩
  have H14 := hid (H10.out.grow hb ho)
  obtain ⟨v13a, v13c, rfl, _⟩ := ho.slc
  clear ho hb
  obtain ⟨C9, hC9⟩ : ∃ xx', stCol kd sb ep ef kw kh wn rn cn sh sh2 xn yn bins on mx X Y w x0 x1 = xx' := ⟨_, rfl⟩
  rw [hC9] at H14 ⊢
  have HLC9 := hid hC9
  clear hC9
  refine hK.out _ _ ?_ (fun hHeld2 => ?_)
  focus ((try dsimp only); (exact ⟨H14.out.cell 1 rfl 0 rfl, H14.out.cell 1 rfl 1 rfl, H14.out.cell 1 rfl 2 rfl, H14.out.cell 1 rfl 3 rfl, H14.out.loadStg 2 rfl (by rw [HA.out]; rfl)⟩))
  clear hK K
  try simp only [Act.put, p1, p2, p3, p4, p5, p6]
  clear hHeld
  have hHeld := hHeld2
  clear hHeld2
  refine wpAnyH_ready (rs := [13]) (by kernel_rfl) (by simp) (AllReadyH.cons (o := _) rfl (fun K hK => ?_) AllReadyH.nil)
  go_simp
  go_at_call 15
  refine (rrows_A HA.out X Y _ _ _ _ (H14.out.oldTps HX.out) (H14.out.oldTps HY.out)).mono ?_
  rintro e w15 ⟨v16, rfl, ho, hb⟩
  have H17 := hid (H14.out.grow hb ho)
  obtain ⟨v16a, v16c, rfl, _⟩ := ho.slc
  clear ho hb
  obtain ⟨R9, hR9⟩ : ∃ xx', stRow kd sb ep ef kw kh wn rn cn sh sh2 xn yn bins on mx X Y h y0 y1 = xx' := ⟨_, rfl⟩
  rw [hR9] at H17 ⊢
  have HLR9 := hid hR9
  clear hR9
  refine hK.out _ _ ?_ (fun hHeld2 => ?_)
  focus ((try dsimp only); (exact ⟨H17.out.cell 2 rfl 0 rfl, H17.out.cell 2 rfl 1 rfl, H17.out.cell 2 rfl 2 rfl, H17.out.cell 2 rfl 3 rfl, H17.out.loadStg 3 rfl (by rw [HA.out]; rfl)⟩))
  clear hK K
  try simp only [Act.put, p1, p2, p3, p4, p5, p6]
  clear hHeld
  have hHeld := hHeld2
  clear hHeld2
  refine tkA 14 ?_
  try simp only [Act.put, p1, p2, p3, p4, p5, p6]
  refine tkA 15 ?_
  try simp only [Act.put, p1, p2, p3, p4, p5, p6]
  refine wpAnyH_done (by kernel_rfl) ?_ _
  try clear hHeld
  go_wp2_with fail
  refine (qcount_any _ _ _ _ _).mono ?_
  rintro e w18 ⟨rfl, hsw⟩
  have hsw2 : w15 = w18 := by first | exact hsw | exact hsw.symm
  clear hsw
  subst hsw2
  obtain ⟨NX, hNX, nx2⟩ : ∃ m : Nat, gNx w h tw th = m ∧ m ≤ 128 := by cases hg : gOk w h tw th with | true => have := gN_bd hg; exact ⟨(gNx w h tw th).toNat, by omega, by omega⟩ | false => exact ⟨0, (gN_no hg).1, by omega⟩
  obtain ⟨NY, hNY, ny2⟩ : ∃ m : Nat, gNy w h tw th = m ∧ m ≤ 128 := by cases hg : gOk w h tw th with | true => have := gN_bd hg; exact ⟨(gNy w h tw th).toNat, by omega, by omega⟩ | false => exact ⟨0, (gN_no hg).2, by omega⟩
  rw [hNX, hNY]
  have HNX := hid hNX
  have HNY := hid hNY
  clear hNX hNY
  obtain ⟨NN, hNN⟩ : ∃ m : Nat, NX * NY = m := ⟨_, rfl⟩
  have nn2 : NN ≤ 16384 := by rw [← hNN]; exact Nat.mul_le_mul nx2 ny2
  have hNI : (NX : Int) * (NY : Int) = (NN : Int) := by rw [← hNN, Int.natCast_mul]
  have HNI := hid hNI
  have wpn : IntKind.i64.wrap ((NX : Int) * (NY : Int)) = (NN : Int) := by rw [hNI]; exact IntWalk.i64_in _ (by omega)
  clear hNI
  have HNN := hid hNN
  clear hNN
  go_upto_region 6 with fail
  obtain ⟨P, hP⟩ : ∃ P : Nat → Bool, tlP C9 R9 w h tw th = P := ⟨_, rfl⟩
  have HP := hid hP
  clear hP
  go_wp2_with fail
  have H19 := hid (show St B W [.own (.slice none 0 0) ([]), .own (.slice v16a R9.length v16c) R9, .own (.slice v13a C9.length v13c) C9, .cells (B + 1) #[.int .i64 x0, .int .i64 y0, .int .i64 x1, .int .i64 y1] 24, .cells B A 33] [] w15 from H17.out.grow (Below.refl _ _) (Own.nil _ _))
  go_loopw [18, 17] (fun i v wr => ∃ (j : Nat) (oa9 : Option Addr) (ln cp : Nat), j ≤ NN ∧ i = .int .i64 j ∧ v = .slice oa9 ln cp ∧ (outL P j).length = ln ∧ St B W [.own (.slice oa9 ln cp) (outL P j), .own (.slice v16a R9.length v16c) R9, .own (.slice v13a C9.length v13c) C9, .cells (B + 1) #[.int .i64 x0, .int .i64 y0, .int .i64 x1, .int .i64 y1] 24, .cells B A 33] [] wr) (fun i _ _ => NN - (intOf i).toNat)
  case atStart => exact ⟨0, none, 0, 0, by omega, rfl, rfl, rfl, H19.out⟩
  case round =>
   obtain ⟨j, oa9, ln, cp, hj, rfl, rfl, hln, hst⟩ := hrel
   obtain ⟨u20, rfl⟩ : ∃ u20 : World, u20 = wr := ⟨_, rfl⟩
   have H21 := hid hst
   clear hst
   have HLN := hid hln
   have hlm := outL_len P j
   rw [hln] at hlm
   clear hln
   by_cases hjn : j < NN
   ·
    skip
    have hjn' : (j : Int) < NN := by omega
    go_wp2_with fail
    refine (gqtile_any w h tw th (j : Int) _ (by omega)).mono ?_
    rintro e w22 ⟨rfl, hb⟩
    have H23 := hid (H21.out.call hb)
    clear hb
    obtain ⟨g0, hg0⟩ : ∃ xx', gT0 w h tw th (j : Int) = xx' := ⟨_, rfl⟩
    rw [hg0]
    have HG0 := hid hg0
    clear hg0
    obtain ⟨g1, hg1⟩ : ∃ xx', gT1 w h tw th (j : Int) = xx' := ⟨_, rfl⟩
    rw [hg1]
    have HG1 := hid hg1
    clear hg1
    obtain ⟨g2, hg2⟩ : ∃ xx', gT2 w h tw th (j : Int) = xx' := ⟨_, rfl⟩
    rw [hg2]
    have HG2 := hid hg2
    clear hg2
    obtain ⟨g3, hg3⟩ : ∃ xx', gT3 w h tw th (j : Int) = xx' := ⟨_, rfl⟩
    rw [hg3]
    have HG3 := hid hg3
    clear hg3
    obtain ⟨gk, hgk⟩ : ∃ xx', gTok w h tw th (j : Int) = xx' := ⟨_, rfl⟩
    rw [hgk]
    have HGK := hid hgk
    clear hgk
    obtain ⟨D24, hD24⟩ : ∃ D, w22.heap.size = D := ⟨_, rfl⟩
    go_upto_region 10 with fail
    have H25 := hid (show St B W [.cells D24 #[.int .i64 g0, .int .i64 g1, .int .i64 g2, .int .i64 g3] 24, .own (.slice oa9 ln cp) (outL P j), .own (.slice v16a R9.length v16c) R9, .own (.slice v13a C9.length v13c) C9, .cells (B + 1) #[.int .i64 x0, .int .i64 y0, .int .i64 x1, .int .i64 y1] 24, .cells B A 33] [] (w22.alloc (.cells #[.int .i64 g0, .int .i64 g1, .int .i64 g2, .int .i64 g3] 24)) from (H23.out.alloc #[.int .i64 g0, .int .i64 g1, .int .i64 g2, .int .i64 g3] 24 hD24))
    first | refine gen_code H25.out ?_ | refine gen_list H25.out ?_ | refine gen_calls H25.out ?_
    intro w26 hG
    clear H25
    have H25 := hid hG
    clear hG
    clear hD24
    have z27 := H25.out.cell 0 rfl 0 rfl
    have z28 := H25.out.cell 0 rfl 1 rfl
    have z29 := H25.out.cell 0 rfl 2 rfl
    have z30 := H25.out.cell 0 rfl 3 rfl
    go_wp2_with fail
    clear z27 z28 z29 z30
    refine (rsome_any _ _ _ _ _ _ _ (H25.out.slc 3 rfl)).mono ?_
    rintro e w31 ⟨rfl, hb⟩
    have H32 := hid (H25.out.call hb)
    clear hb
    obtain ⟨b33, hb33⟩ : ∃ xx', memL C9 g0 g2 = xx' := ⟨_, rfl⟩
    rw [hb33]
    have HNb33 := hid hb33
    clear hb33
    cases b33 with
    | true =>
     have z34 := H32.out.cell 0 rfl 0 rfl
     have z35 := H32.out.cell 0 rfl 1 rfl
     have z36 := H32.out.cell 0 rfl 2 rfl
     have z37 := H32.out.cell 0 rfl 3 rfl
     go_wp2_with fail
     clear z34 z35 z36 z37
     refine (rsome_any _ _ _ _ _ _ _ (H32.out.slc 2 rfl)).mono ?_
     rintro e w38 ⟨rfl, hb⟩
     have H39 := hid (H32.out.call hb)
     clear hb
     obtain ⟨b40, hb40⟩ : ∃ xx', memL R9 g1 g3 = xx' := ⟨_, rfl⟩
     rw [hb40]
     have HNb40 := hid hb40
     clear hb40
     cases b40 with
     | true =>
      go_upto_region 11 with fail
      have HPB := hid (show P j = true from by rw [show P j = (memL C9 g0 g2 && memL R9 g1 g3) from by rw [← HP.out, ← HG0.out, ← HG1.out, ← HG2.out, ← HG3.out]; rfl, HNb33.out, HNb40.out] <;> rfl)
      obtain ⟨D41, hD41⟩ : ∃ D, w38.heap.size = D := ⟨_, rfl⟩
      have HOUT := hid (show outL P (j + 1) = outL P (j) ++ [(j : Int)] from by simp only [outL]; rw [if_pos HPB.out])
      have HLN2 := hid (show (outL P (j) ++ [(j : Int)]).length = ln + 1 from by rw [List.length_append, HLN.out]; rfl)
      have H42 := hid (show St B W [.cells D41 #[.int .i64 j] 3, .cells D24 #[.int .i64 g0, .int .i64 g1, .int .i64 g2, .int .i64 g3] 24, .own (.slice oa9 ln cp) (outL P j), .own (.slice v16a R9.length v16c) R9, .own (.slice v13a C9.length v13c) C9, .cells (B + 1) #[.int .i64 x0, .int .i64 y0, .int .i64 x1, .int .i64 y1] 24, .cells B A 33] [] (w38.alloc (.cells #[.int .i64 j] 3)) from (H39.out.alloc #[.int .i64 j] 3 hD41))
      go_upto_region 8 with (at_builtin; refine append_int rfl _ _ rfl B _ (outL P j) j D41 1 rfl rfl (H42.out.own 2 rfl) (H42.out.cell 0 rfl 0 rfl) (by have := HLN.out; omega) H42.out.size ?_; intro v44 w45 ho hg hv; have H43 := hid (H42.out.append 2 rfl ho hg hv); clear ho hg hv)
      clear H42
      obtain ⟨g9, c9, hva⟩ := (H43.out.own 2 rfl).pos (by rw [HLN2.out]; omega)
      rw [HLN2.out] at hva
      subst hva
      clear hD41
      go_wp2_with fail
      go_roundw
      case rel => exact ⟨j + 1, some ⟨g9, 0, none⟩, ln + 1, c9, by omega, by go_num, by go_num, by rw [HOUT.out]; exact HLN2.out, by rw [HOUT.out]; exact H43.out.pick [2, 3, 4, 5, 6] rfl (by decide)⟩
      case measure => first | (simp [intOf]; omega) | (simp [intOf]; done)
     | false =>
      go_upto_region 8 with fail
      have HPB := hid (show P j = false from by rw [show P j = (memL C9 g0 g2 && memL R9 g1 g3) from by rw [← HP.out, ← HG0.out, ← HG1.out, ← HG2.out, ← HG3.out]; rfl, HNb33.out, HNb40.out] <;> rfl)
      have HOUT := hid (show outL P (j + 1) = outL P j from by simp only [outL]; rw [if_neg (by rw [HPB.out]; simp)])
      go_wp2_with fail
      go_roundw
      case rel => exact ⟨j + 1, oa9, ln, cp, by omega, by go_num, rfl, by rw [HOUT.out]; exact HLN.out, by rw [HOUT.out]; exact H39.out.pick [1, 2, 3, 4, 5] rfl (by decide)⟩
      case measure => first | (simp [intOf]; omega) | (simp [intOf]; done)
    | false =>
     go_upto_region 8 with fail
     have HPB := hid (show P j = false from by rw [show P j = (memL C9 g0 g2 && memL R9 g1 g3) from by rw [← HP.out, ← HG0.out, ← HG1.out, ← HG2.out, ← HG3.out]; rfl, HNb33.out, Bool.false_and] <;> rfl)
     have HOUT := hid (show outL P (j + 1) = outL P j from by simp only [outL]; rw [if_neg (by rw [HPB.out]; simp)])
     go_wp2_with fail
     go_roundw
     case rel => exact ⟨j + 1, oa9, ln, cp, by omega, by go_num, rfl, by rw [HOUT.out]; exact HLN.out, by rw [HOUT.out]; exact H32.out.pick [1, 2, 3, 4, 5] rfl (by decide)⟩
     case measure => first | (simp [intOf]; omega) | (simp [intOf]; done)
   ·
    skip
    have hjn' : ¬ ((j : Int) < NN) := by omega
    have HJE := hid (show j = NN by omega)
    go_wp2_with fail
    have hnl : tlL (stCol kd sb ep ef kw kh wn rn cn sh sh2 xn yn bins on mx X Y w x0 x1) (stRow kd sb ep ef kw kh wn rn cn sh sh2 xn yn bins on mx X Y h y0 y1) w h tw th = outL P j := by rw [← HP.out, HJE.out, HLC9.out, HLR9.out]; unfold tlL; rw [HNX.out, HNY.out, HNI.out, Int.toNat_natCast]
    go_ret
    exact ⟨_, rfl, by (try rw [hB]); rw [hnl]; exact H21.out.own 0 rfl, by first | exact H21.out.below | exact H21.out.below'⟩
 | false =>
  go_wp2_with fail
  have hnl : tlL (stCol kd sb ep ef kw kh wn rn cn sh sh2 xn yn bins on mx X Y w x0 x1) (stRow kd sb ep ef kw kh wn rn cn sh sh2 xn yn bins on mx X Y h y0 y1) w h tw th = [] := tl_invalid HNb9.out
  go_ret
  exact ⟨_, rfl, by rw [hnl]; exact Own.nil _ _, by first | exact H8.out.below | exact H8.out.below'⟩
end Go.Proofs.Ytlidacfokgdlgaa
