/-
 Contracts: the interval of an operation, in the reference.
-/
import Derived.Test.YteejjnhlfgjlaaaPA
namespace Go.Proofs.Yteejjnhlfgjlaaa
open Go.RowKit
attribute [local go_sem ↓] Go.wp_at_zero Go.wp_at_succ
set_option linter.unusedVariables false
set_option linter.unusedSimpArgs false


set_option maxRecDepth 100000 in
set_option maxHeartbeats 3200000 in
theorem rnext_any_0 (g xl xh yl yh a b : Int) (W : World) (hxl : accOk xl = true) (hxh : accOk xh = true) (hyl : accOk yl = true) (hyh : accOk yh = true) : Calls Try.prog 84 #[.agg #[.int .i64 0, .int .i64 g], .agg #[.int .i64 xl, .int .i64 xh], .agg #[.int .i64 yl, .int .i64 yh], .int .i64 a, .int .i64 b] W fun e w' => (∃ lo hi, e = .returned (.tuple #[.agg #[.int .i64 lo, .int .i64 hi], .bool (pwIok 0 g (xl, xh) (yl, yh) a b)]) ∧ (pwIok 0 g (xl, xh) (yl, yh) a b = true → lo = (pwInt 0 g (xl, xh) (yl, yh) a b).1 ∧ hi = (pwInt 0 g (xl, xh) (yl, yh) a b).2)) ∧ Below W.heap.size W w' := by
 obtain ⟨xl1, xl2⟩ := accOk_iff.1 hxl; obtain ⟨xh1, xh2⟩ := accOk_iff.1 hxh; obtain ⟨yl1, yl2⟩ := accOk_iff.1 hyl; obtain ⟨yh1, yh2⟩ := accOk_iff.1 hyh; obtain ⟨B, hB⟩ : ∃ B, W.heap.size = B := ⟨_, rfl⟩; have HI0 := hid (St.init hB)
 go_enter Try.func84, Try.ntmps84
 go_upto_region 1 with fail
 have H1 := hid (show St _ _ (.cells (B + 1 + 1 + 1) _ _ :: .cells (B + 1 + 1) _ _ :: .cells (B + 1) _ _ :: .cells B _ _ :: _) _ _ from ((((HI0.out.alloc #[.int .i64 0, .int .i64 g] 57 hB).alloc #[.int .i64 xl, .int .i64 xh] 99 (by first | exact hB | simp [hB])).alloc #[.int .i64 yl, .int .i64 yh] 99 (by first | exact hB | simp [hB])).alloc #[.int .i64 0, .int .i64 0] 99 (by first | exact hB | simp [hB]))); first | refine gK H1 ?_ | refine gL H1 ?_ | refine gC H1 ?_
 clear H1; intro w1 H1; obtain ⟨mg, hmg⟩ : ∃ zz : Int, (if absI xl < absI xh then absI xh else absI xl) = zz := ⟨_, rfl⟩; have H2 := hid H1.out.drew; refine wp_region_held_drew (S := (fun w' => w'.cell? ⟨B + 1, 0, none⟩ = some (.int .i64 xl) ∧ w'.cell? ⟨B + 1, 1, none⟩ = some (.int .i64 xh))) (by kernel_rfl) ⟨H2.out.cell 2 rfl 0 rfl, H2.out.cell 2 rfl 1 rfl⟩ (fun hHeld => ?_); generalize w1.drew = k1 at *; refine tk 0 ?_; refine tk 1 ?_; refine tk 3 ?_; refine tk 4 ?_; refine rdy 2 fun K hK => ?_
 go_simp
 go_at_call 88
 refine (rabs_any _ (by omega) _).mono ?_; rintro e w1 ⟨rfl, hsw⟩; have hsw2 : k1 = w1 := by first | exact hsw | exact hsw.symm
 clear hsw; subst hsw2; refine hK.out _ _ (by (try dsimp only); exact ⟨H2.out.cell 2 rfl 0 rfl, H2.out.cell 2 rfl 1 rfl⟩) ?_; clear hK K hHeld; intro hHeld; try simp only [pz]
 refine rdy 5 fun K hK => ?_
 go_simp
 go_at_call 88
 refine (rabs_any _ (by omega) _).mono ?_; rintro e w1 ⟨rfl, hsw⟩; have hsw2 : k1 = w1 := by first | exact hsw | exact hsw.symm
 clear hsw; subst hsw2; refine hK.out _ _ (by (try dsimp only); exact ⟨H2.out.cell 2 rfl 0 rfl, H2.out.cell 2 rfl 1 rfl⟩) ?_; clear hK K hHeld; intro hHeld; try simp only [pz]
 refine tk 6 ?_; refine tk 7 ?_; refine wpAnyH_done (by kernel_rfl) ?_ _; try clear hHeld
 have HMG := hid (show mxI (absI xl) (absI xh) = mg from hmg); clear hmg; obtain ⟨mga, mgb⟩ : 0 ≤ mg ∧ mg ≤ 17592186044416 := by rw [← HMG.out]; exact mag_bd hxl hxh
 have mgw : IntKind.i64.wrap (-mg) = -mg := IntWalk.i64_in _ (by omega); obtain ⟨D1, hD1⟩ : ∃ D, k1.heap.size = D := ⟨_, rfl⟩; go_upto_region 3 with fail
 have H1 := hid (H2.out.alloc #[.int .i64 0, .int .i64 0] 99 hD1); first | refine gK H1 ?_ | refine gL H1 ?_ | refine gC H1 ?_
 clear H1; intro w1 H1; clear hD1; obtain ⟨z1, z2⟩ := H1.out.c2 4 rfl; obtain ⟨z3, z4, z5, z6⟩ := H1.out.f2 0 rfl; go_upto_region 27 with fail
 clear z1 z2 z3 z4 z5 z6; have H2 := hid (show St _ _ (.cells D1 #[.int .i64 0, .int .i64 a] 99 :: _) _ _ from ((H1.out.set 0 rfl 0 (.int .i64 0)).set 0 rfl 1 (.int .i64 a))); first | refine gK H2 ?_ | refine gL H2 ?_ | refine gC H2 ?_
 clear H2; intro w1 H2; have H1 := hid H2.out.drew; refine wp_region_held_drew (S := (fun w' => w'.cell? ⟨D1, 0, none⟩ = some (.int .i64 0) ∧ w'.cell? ⟨D1, 1, none⟩ = some (.int .i64 a))) (by kernel_rfl) ⟨H1.out.cell 0 rfl 0 rfl, H1.out.cell 0 rfl 1 rfl⟩ (fun hHeld => ?_); generalize w1.drew = k1 at *; refine tk 0 ?_; refine tk 1 ?_; refine tk 2 ?_; refine tk 3 ?_; refine tk 4 ?_; refine rdy 5 fun K hK => ?_
 go_simp
 go_at_call 79
 refine (racc_any _ _).mono ?_; rintro e w1 ⟨rfl, hsw⟩; have hsw2 : k1 = w1 := by first | exact hsw | exact hsw.symm
 clear hsw; subst hsw2; obtain ⟨b1, hb1⟩ : ∃ xx', accOk 0 = xx' := ⟨_, rfl⟩; rw [hb1]; have HNb1 := hid hb1; clear hb1; refine hK.out _ _ (by (try dsimp only); exact ⟨H1.out.cell 0 rfl 0 rfl, H1.out.cell 0 rfl 1 rfl⟩) ?_; clear hK K hHeld; intro hHeld; try simp only [pz]
 cases b1
 ·
  refine tk 6 ?_; refine tk 7 ?_; refine tu 8 ?_; refine tu 9 ?_; refine tu 10 ?_; refine tk 11 ?_; refine rdy 12 fun K hK => ?_
  obtain ⟨z1, z2, z3, z4⟩ := H1.out.f2 1 rfl; have H2 := hid (show St _ _ (_ :: .cells (B + 1 + 1 + 1) #[.int .i64 0, .int .i64 a] 99 :: _) _ _ from ((H1.out.set 1 rfl 0 (.int .i64 0)).set 1 rfl 1 (.int .i64 a))); go_simp
  refine hK.out _ _ (by (try dsimp only); exact ⟨H2.out.cell 0 rfl 0 rfl, H2.out.cell 0 rfl 1 rfl⟩) ?_; clear hK K hHeld; intro hHeld; try simp only [pz]
  clear z1 z2 z3 z4; generalize ((k1.setCell ⟨B + 1 + 1 + 1, 0, none⟩ (.int .i64 0)).setCell ⟨B + 1 + 1 + 1, 1, none⟩ (.int .i64 a)) = k2 at *; refine tk 13 ?_; refine wpAnyH_done (by kernel_rfl) ?_ _; try clear hHeld
  obtain ⟨z1, z2⟩ := H2.out.c2 1 rfl; go_wp2_with fail
  clear z1 z2; have hpk := hid (show pwIok 0 g (xl, xh) (yl, yh) a b = false from by unfold pwIok; rw [(show (pwInt 0 g (xl, xh) (yl, yh) a b).1 = 0 from rfl), (show (pwInt 0 g (xl, xh) (yl, yh) a b).2 = a from rfl), HNb1.out]; rfl); obtain ⟨q1, q2⟩ := H2.out.c2 1 rfl; refine bodyPost_ret (v := .tuple #[.agg #[.int .i64 0, .int .i64 a], .bool false]) ?_ rfl ⟨⟨_, _, by rw [hpk.out], fun _ => ⟨(show (pwInt 0 g (xl, xh) (yl, yh) a b).1 = 0 from rfl).symm, (show (pwInt 0 g (xl, xh) (yl, yh) a b).2 = a from rfl).symm⟩⟩, H2.out.bl⟩; simp [results, Try.results84, go_sem, q1, q2]
 refine tk 6 ?_; refine tk 7 ?_; refine tk 8 ?_; refine tk 9 ?_; refine rdy 10 fun K hK => ?_
 go_simp
 go_at_call 79
 refine (racc_any _ _).mono ?_; rintro e w1 ⟨rfl, hsw⟩; have hsw2 : k1 = w1 := by first | exact hsw | exact hsw.symm
 clear hsw; subst hsw2; obtain ⟨b1, hb1⟩ : ∃ xx', accOk a = xx' := ⟨_, rfl⟩; rw [hb1]; have HNb2 := hid hb1; clear hb1; refine hK.out _ _ (by (try dsimp only); exact ⟨H1.out.cell 0 rfl 0 rfl, H1.out.cell 0 rfl 1 rfl⟩) ?_; clear hK K hHeld; intro hHeld; try simp only [pz]
 refine tk 11 ?_; refine rdy 12 fun K hK => ?_
 obtain ⟨z1, z2, z3, z4⟩ := H1.out.f2 1 rfl; have H2 := hid (show St _ _ (_ :: .cells (B + 1 + 1 + 1) #[.int .i64 0, .int .i64 a] 99 :: _) _ _ from ((H1.out.set 1 rfl 0 (.int .i64 0)).set 1 rfl 1 (.int .i64 a))); go_simp
 refine hK.out _ _ (by (try dsimp only); exact ⟨H2.out.cell 0 rfl 0 rfl, H2.out.cell 0 rfl 1 rfl⟩) ?_; clear hK K hHeld; intro hHeld; try simp only [pz]
 clear z1 z2 z3 z4; generalize ((k1.setCell ⟨B + 1 + 1 + 1, 0, none⟩ (.int .i64 0)).setCell ⟨B + 1 + 1 + 1, 1, none⟩ (.int .i64 a)) = k1 at *; refine tk 13 ?_; refine wpAnyH_done (by kernel_rfl) ?_ _; try clear hHeld
 obtain ⟨z1, z2⟩ := H2.out.c2 1 rfl; go_wp2_with fail
 clear z1 z2; have hpk := hid (show pwIok 0 g (xl, xh) (yl, yh) a b = b1 from by unfold pwIok; rw [(show (pwInt 0 g (xl, xh) (yl, yh) a b).1 = 0 from rfl), (show (pwInt 0 g (xl, xh) (yl, yh) a b).2 = a from rfl), HNb1.out, HNb2.out]; rfl); obtain ⟨q1, q2⟩ := H2.out.c2 1 rfl; refine bodyPost_ret (v := .tuple #[.agg #[.int .i64 0, .int .i64 a], .bool b1]) ?_ rfl ⟨⟨_, _, by rw [hpk.out], fun _ => ⟨(show (pwInt 0 g (xl, xh) (yl, yh) a b).1 = 0 from rfl).symm, (show (pwInt 0 g (xl, xh) (yl, yh) a b).2 = a from rfl).symm⟩⟩, H2.out.bl⟩; simp [results, Try.results84, go_sem, q1, q2]

set_option maxRecDepth 100000 in
set_option maxHeartbeats 3200000 in
theorem rnext_any_1 (g xl xh yl yh a b : Int) (W : World) (hxl : accOk xl = true) (hxh : accOk xh = true) (hyl : accOk yl = true) (hyh : accOk yh = true) : Calls Try.prog 84 #[.agg #[.int .i64 1, .int .i64 g], .agg #[.int .i64 xl, .int .i64 xh], .agg #[.int .i64 yl, .int .i64 yh], .int .i64 a, .int .i64 b] W fun e w' => (∃ lo hi, e = .returned (.tuple #[.agg #[.int .i64 lo, .int .i64 hi], .bool (pwIok 1 g (xl, xh) (yl, yh) a b)]) ∧ (pwIok 1 g (xl, xh) (yl, yh) a b = true → lo = (pwInt 1 g (xl, xh) (yl, yh) a b).1 ∧ hi = (pwInt 1 g (xl, xh) (yl, yh) a b).2)) ∧ Below W.heap.size W w' := by
 obtain ⟨xl1, xl2⟩ := accOk_iff.1 hxl; obtain ⟨xh1, xh2⟩ := accOk_iff.1 hxh; obtain ⟨yl1, yl2⟩ := accOk_iff.1 hyl; obtain ⟨yh1, yh2⟩ := accOk_iff.1 hyh; obtain ⟨B, hB⟩ : ∃ B, W.heap.size = B := ⟨_, rfl⟩; have HI0 := hid (St.init hB)
 go_enter Try.func84, Try.ntmps84
 go_upto_region 1 with fail
 have H1 := hid (show St _ _ (.cells (B + 1 + 1 + 1) _ _ :: .cells (B + 1 + 1) _ _ :: .cells (B + 1) _ _ :: .cells B _ _ :: _) _ _ from ((((HI0.out.alloc #[.int .i64 1, .int .i64 g] 57 hB).alloc #[.int .i64 xl, .int .i64 xh] 99 (by first | exact hB | simp [hB])).alloc #[.int .i64 yl, .int .i64 yh] 99 (by first | exact hB | simp [hB])).alloc #[.int .i64 0, .int .i64 0] 99 (by first | exact hB | simp [hB]))); first | refine gK H1 ?_ | refine gL H1 ?_ | refine gC H1 ?_
 clear H1; intro w1 H1; obtain ⟨mg, hmg⟩ : ∃ zz : Int, (if absI xl < absI xh then absI xh else absI xl) = zz := ⟨_, rfl⟩; have H2 := hid H1.out.drew; refine wp_region_held_drew (S := (fun w' => w'.cell? ⟨B + 1, 0, none⟩ = some (.int .i64 xl) ∧ w'.cell? ⟨B + 1, 1, none⟩ = some (.int .i64 xh))) (by kernel_rfl) ⟨H2.out.cell 2 rfl 0 rfl, H2.out.cell 2 rfl 1 rfl⟩ (fun hHeld => ?_); generalize w1.drew = k1 at *; refine tk 0 ?_; refine tk 1 ?_; refine tk 3 ?_; refine tk 4 ?_; refine rdy 2 fun K hK => ?_
 go_simp
 go_at_call 88
 refine (rabs_any _ (by omega) _).mono ?_; rintro e w1 ⟨rfl, hsw⟩; have hsw2 : k1 = w1 := by first | exact hsw | exact hsw.symm
 clear hsw; subst hsw2; refine hK.out _ _ (by (try dsimp only); exact ⟨H2.out.cell 2 rfl 0 rfl, H2.out.cell 2 rfl 1 rfl⟩) ?_; clear hK K hHeld; intro hHeld; try simp only [pz]
 refine rdy 5 fun K hK => ?_
 go_simp
 go_at_call 88
 refine (rabs_any _ (by omega) _).mono ?_; rintro e w1 ⟨rfl, hsw⟩; have hsw2 : k1 = w1 := by first | exact hsw | exact hsw.symm
 clear hsw; subst hsw2; refine hK.out _ _ (by (try dsimp only); exact ⟨H2.out.cell 2 rfl 0 rfl, H2.out.cell 2 rfl 1 rfl⟩) ?_; clear hK K hHeld; intro hHeld; try simp only [pz]
 refine tk 6 ?_; refine tk 7 ?_; refine wpAnyH_done (by kernel_rfl) ?_ _; try clear hHeld
 have HMG := hid (show mxI (absI xl) (absI xh) = mg from hmg); clear hmg; obtain ⟨mga, mgb⟩ : 0 ≤ mg ∧ mg ≤ 17592186044416 := by rw [← HMG.out]; exact mag_bd hxl hxh
 have mgw : IntKind.i64.wrap (-mg) = -mg := IntWalk.i64_in _ (by omega); obtain ⟨D1, hD1⟩ : ∃ D, k1.heap.size = D := ⟨_, rfl⟩; go_upto_region 3 with fail
 have H1 := hid (H2.out.alloc #[.int .i64 0, .int .i64 0] 99 hD1); first | refine gK H1 ?_ | refine gL H1 ?_ | refine gC H1 ?_
 clear H1; intro w1 H1; clear hD1; obtain ⟨z1, z2⟩ := H1.out.c2 4 rfl; obtain ⟨z3, z4, z5, z6⟩ := H1.out.f2 0 rfl; go_upto_region 27 with fail
 clear z1 z2 z3 z4 z5 z6; have H2 := hid (show St _ _ (.cells D1 #[.int .i64 0, .int .i64 b] 99 :: _) _ _ from ((H1.out.set 0 rfl 0 (.int .i64 0)).set 0 rfl 1 (.int .i64 b))); first | refine gK H2 ?_ | refine gL H2 ?_ | refine gC H2 ?_
 clear H2; intro w1 H2; have H1 := hid H2.out.drew; refine wp_region_held_drew (S := (fun w' => w'.cell? ⟨D1, 0, none⟩ = some (.int .i64 0) ∧ w'.cell? ⟨D1, 1, none⟩ = some (.int .i64 b))) (by kernel_rfl) ⟨H1.out.cell 0 rfl 0 rfl, H1.out.cell 0 rfl 1 rfl⟩ (fun hHeld => ?_); generalize w1.drew = k1 at *; refine tk 0 ?_; refine tk 1 ?_; refine tk 2 ?_; refine tk 3 ?_; refine tk 4 ?_; refine rdy 5 fun K hK => ?_
 go_simp
 go_at_call 79
 refine (racc_any _ _).mono ?_; rintro e w1 ⟨rfl, hsw⟩; have hsw2 : k1 = w1 := by first | exact hsw | exact hsw.symm
 clear hsw; subst hsw2; obtain ⟨b1, hb1⟩ : ∃ xx', accOk 0 = xx' := ⟨_, rfl⟩; rw [hb1]; have HNb1 := hid hb1; clear hb1; refine hK.out _ _ (by (try dsimp only); exact ⟨H1.out.cell 0 rfl 0 rfl, H1.out.cell 0 rfl 1 rfl⟩) ?_; clear hK K hHeld; intro hHeld; try simp only [pz]
 cases b1
 ·
  refine tk 6 ?_; refine tk 7 ?_; refine tu 8 ?_; refine tu 9 ?_; refine tu 10 ?_; refine tk 11 ?_; refine rdy 12 fun K hK => ?_
  obtain ⟨z1, z2, z3, z4⟩ := H1.out.f2 1 rfl; have H2 := hid (show St _ _ (_ :: .cells (B + 1 + 1 + 1) #[.int .i64 0, .int .i64 b] 99 :: _) _ _ from ((H1.out.set 1 rfl 0 (.int .i64 0)).set 1 rfl 1 (.int .i64 b))); go_simp
  refine hK.out _ _ (by (try dsimp only); exact ⟨H2.out.cell 0 rfl 0 rfl, H2.out.cell 0 rfl 1 rfl⟩) ?_; clear hK K hHeld; intro hHeld; try simp only [pz]
  clear z1 z2 z3 z4; generalize ((k1.setCell ⟨B + 1 + 1 + 1, 0, none⟩ (.int .i64 0)).setCell ⟨B + 1 + 1 + 1, 1, none⟩ (.int .i64 b)) = k2 at *; refine tk 13 ?_; refine wpAnyH_done (by kernel_rfl) ?_ _; try clear hHeld
  obtain ⟨z1, z2⟩ := H2.out.c2 1 rfl; go_wp2_with fail
  clear z1 z2; have hpk := hid (show pwIok 1 g (xl, xh) (yl, yh) a b = false from by unfold pwIok; rw [(show (pwInt 1 g (xl, xh) (yl, yh) a b).1 = 0 from rfl), (show (pwInt 1 g (xl, xh) (yl, yh) a b).2 = b from rfl), HNb1.out]; rfl); obtain ⟨q1, q2⟩ := H2.out.c2 1 rfl; refine bodyPost_ret (v := .tuple #[.agg #[.int .i64 0, .int .i64 b], .bool false]) ?_ rfl ⟨⟨_, _, by rw [hpk.out], fun _ => ⟨(show (pwInt 1 g (xl, xh) (yl, yh) a b).1 = 0 from rfl).symm, (show (pwInt 1 g (xl, xh) (yl, yh) a b).2 = b from rfl).symm⟩⟩, H2.out.bl⟩; simp [results, Try.results84, go_sem, q1, q2]
 refine tk 6 ?_; refine tk 7 ?_; refine tk 8 ?_; refine tk 9 ?_; refine rdy 10 fun K hK => ?_
 go_simp
 go_at_call 79
 refine (racc_any _ _).mono ?_; rintro e w1 ⟨rfl, hsw⟩; have hsw2 : k1 = w1 := by first | exact hsw | exact hsw.symm
 clear hsw; subst hsw2; obtain ⟨b1, hb1⟩ : ∃ xx', accOk b = xx' := ⟨_, rfl⟩; rw [hb1]; have HNb2 := hid hb1; clear hb1; refine hK.out _ _ (by (try dsimp only); exact ⟨H1.out.cell 0 rfl 0 rfl, H1.out.cell 0 rfl 1 rfl⟩) ?_; clear hK K hHeld; intro hHeld; try simp only [pz]
 refine tk 11 ?_; refine rdy 12 fun K hK => ?_
 obtain ⟨z1, z2, z3, z4⟩ := H1.out.f2 1 rfl; have H2 := hid (show St _ _ (_ :: .cells (B + 1 + 1 + 1) #[.int .i64 0, .int .i64 b] 99 :: _) _ _ from ((H1.out.set 1 rfl 0 (.int .i64 0)).set 1 rfl 1 (.int .i64 b))); go_simp
 refine hK.out _ _ (by (try dsimp only); exact ⟨H2.out.cell 0 rfl 0 rfl, H2.out.cell 0 rfl 1 rfl⟩) ?_; clear hK K hHeld; intro hHeld; try simp only [pz]
 clear z1 z2 z3 z4; generalize ((k1.setCell ⟨B + 1 + 1 + 1, 0, none⟩ (.int .i64 0)).setCell ⟨B + 1 + 1 + 1, 1, none⟩ (.int .i64 b)) = k1 at *; refine tk 13 ?_; refine wpAnyH_done (by kernel_rfl) ?_ _; try clear hHeld
 obtain ⟨z1, z2⟩ := H2.out.c2 1 rfl; go_wp2_with fail
 clear z1 z2; have hpk := hid (show pwIok 1 g (xl, xh) (yl, yh) a b = b1 from by unfold pwIok; rw [(show (pwInt 1 g (xl, xh) (yl, yh) a b).1 = 0 from rfl), (show (pwInt 1 g (xl, xh) (yl, yh) a b).2 = b from rfl), HNb1.out, HNb2.out]; rfl); obtain ⟨q1, q2⟩ := H2.out.c2 1 rfl; refine bodyPost_ret (v := .tuple #[.agg #[.int .i64 0, .int .i64 b], .bool b1]) ?_ rfl ⟨⟨_, _, by rw [hpk.out], fun _ => ⟨(show (pwInt 1 g (xl, xh) (yl, yh) a b).1 = 0 from rfl).symm, (show (pwInt 1 g (xl, xh) (yl, yh) a b).2 = b from rfl).symm⟩⟩, H2.out.bl⟩; simp [results, Try.results84, go_sem, q1, q2]

set_option maxRecDepth 100000 in
set_option maxHeartbeats 3200000 in
theorem rnext_any_2 (g xl xh yl yh a b : Int) (W : World) (hxl : accOk xl = true) (hxh : accOk xh = true) (hyl : accOk yl = true) (hyh : accOk yh = true) : Calls Try.prog 84 #[.agg #[.int .i64 2, .int .i64 g], .agg #[.int .i64 xl, .int .i64 xh], .agg #[.int .i64 yl, .int .i64 yh], .int .i64 a, .int .i64 b] W fun e w' => (∃ lo hi, e = .returned (.tuple #[.agg #[.int .i64 lo, .int .i64 hi], .bool (pwIok 2 g (xl, xh) (yl, yh) a b)]) ∧ (pwIok 2 g (xl, xh) (yl, yh) a b = true → lo = (pwInt 2 g (xl, xh) (yl, yh) a b).1 ∧ hi = (pwInt 2 g (xl, xh) (yl, yh) a b).2)) ∧ Below W.heap.size W w' := by
 obtain ⟨xl1, xl2⟩ := accOk_iff.1 hxl; obtain ⟨xh1, xh2⟩ := accOk_iff.1 hxh; obtain ⟨yl1, yl2⟩ := accOk_iff.1 hyl; obtain ⟨yh1, yh2⟩ := accOk_iff.1 hyh; obtain ⟨B, hB⟩ : ∃ B, W.heap.size = B := ⟨_, rfl⟩; have HI0 := hid (St.init hB)
 go_enter Try.func84, Try.ntmps84
 go_upto_region 1 with fail
 have H1 := hid (show St _ _ (.cells (B + 1 + 1 + 1) _ _ :: .cells (B + 1 + 1) _ _ :: .cells (B + 1) _ _ :: .cells B _ _ :: _) _ _ from ((((HI0.out.alloc #[.int .i64 2, .int .i64 g] 57 hB).alloc #[.int .i64 xl, .int .i64 xh] 99 (by first | exact hB | simp [hB])).alloc #[.int .i64 yl, .int .i64 yh] 99 (by first | exact hB | simp [hB])).alloc #[.int .i64 0, .int .i64 0] 99 (by first | exact hB | simp [hB]))); first | refine gK H1 ?_ | refine gL H1 ?_ | refine gC H1 ?_
 clear H1; intro w1 H1; obtain ⟨mg, hmg⟩ : ∃ zz : Int, (if absI xl < absI xh then absI xh else absI xl) = zz := ⟨_, rfl⟩; have H2 := hid H1.out.drew; refine wp_region_held_drew (S := (fun w' => w'.cell? ⟨B + 1, 0, none⟩ = some (.int .i64 xl) ∧ w'.cell? ⟨B + 1, 1, none⟩ = some (.int .i64 xh))) (by kernel_rfl) ⟨H2.out.cell 2 rfl 0 rfl, H2.out.cell 2 rfl 1 rfl⟩ (fun hHeld => ?_); generalize w1.drew = k1 at *; refine tk 0 ?_; refine tk 1 ?_; refine tk 3 ?_; refine tk 4 ?_; refine rdy 2 fun K hK => ?_
 go_simp
 go_at_call 88
 refine (rabs_any _ (by omega) _).mono ?_; rintro e w1 ⟨rfl, hsw⟩; have hsw2 : k1 = w1 := by first | exact hsw | exact hsw.symm
 clear hsw; subst hsw2; refine hK.out _ _ (by (try dsimp only); exact ⟨H2.out.cell 2 rfl 0 rfl, H2.out.cell 2 rfl 1 rfl⟩) ?_; clear hK K hHeld; intro hHeld; try simp only [pz]
 refine rdy 5 fun K hK => ?_
 go_simp
 go_at_call 88
 refine (rabs_any _ (by omega) _).mono ?_; rintro e w1 ⟨rfl, hsw⟩; have hsw2 : k1 = w1 := by first | exact hsw | exact hsw.symm
 clear hsw; subst hsw2; refine hK.out _ _ (by (try dsimp only); exact ⟨H2.out.cell 2 rfl 0 rfl, H2.out.cell 2 rfl 1 rfl⟩) ?_; clear hK K hHeld; intro hHeld; try simp only [pz]
 refine tk 6 ?_; refine tk 7 ?_; refine wpAnyH_done (by kernel_rfl) ?_ _; try clear hHeld
 have HMG := hid (show mxI (absI xl) (absI xh) = mg from hmg); clear hmg; obtain ⟨mga, mgb⟩ : 0 ≤ mg ∧ mg ≤ 17592186044416 := by rw [← HMG.out]; exact mag_bd hxl hxh
 have mgw : IntKind.i64.wrap (-mg) = -mg := IntWalk.i64_in _ (by omega); obtain ⟨D1, hD1⟩ : ∃ D, k1.heap.size = D := ⟨_, rfl⟩; go_upto_region 3 with fail
 have H1 := hid (H2.out.alloc #[.int .i64 0, .int .i64 0] 99 hD1); first | refine gK H1 ?_ | refine gL H1 ?_ | refine gC H1 ?_
 clear H1; intro w1 H1; clear hD1; obtain ⟨z1, z2⟩ := H1.out.c2 4 rfl; obtain ⟨z3, z4, z5, z6⟩ := H1.out.f2 0 rfl; go_upto_region 27 with fail
 clear z1 z2 z3 z4 z5 z6; have H2 := hid (show St _ _ (.cells D1 #[.int .i64 g, .int .i64 g] 99 :: _) _ _ from ((H1.out.set 0 rfl 0 (.int .i64 g)).set 0 rfl 1 (.int .i64 g))); first | refine gK H2 ?_ | refine gL H2 ?_ | refine gC H2 ?_
 clear H2; intro w1 H2; have H1 := hid H2.out.drew; refine wp_region_held_drew (S := (fun w' => w'.cell? ⟨D1, 0, none⟩ = some (.int .i64 g) ∧ w'.cell? ⟨D1, 1, none⟩ = some (.int .i64 g))) (by kernel_rfl) ⟨H1.out.cell 0 rfl 0 rfl, H1.out.cell 0 rfl 1 rfl⟩ (fun hHeld => ?_); generalize w1.drew = k1 at *; refine tk 0 ?_; refine tk 1 ?_; refine tk 2 ?_; refine tk 3 ?_; refine tk 4 ?_; refine rdy 5 fun K hK => ?_
 go_simp
 go_at_call 79
 refine (racc_any _ _).mono ?_; rintro e w1 ⟨rfl, hsw⟩; have hsw2 : k1 = w1 := by first | exact hsw | exact hsw.symm
 clear hsw; subst hsw2; obtain ⟨b1, hb1⟩ : ∃ xx', accOk g = xx' := ⟨_, rfl⟩; rw [hb1]; have HNb1 := hid hb1; clear hb1; refine hK.out _ _ (by (try dsimp only); exact ⟨H1.out.cell 0 rfl 0 rfl, H1.out.cell 0 rfl 1 rfl⟩) ?_; clear hK K hHeld; intro hHeld; try simp only [pz]
 cases b1
 ·
  refine tk 6 ?_; refine tk 7 ?_; refine tu 8 ?_; refine tu 9 ?_; refine tu 10 ?_; refine tk 11 ?_; refine rdy 12 fun K hK => ?_
  obtain ⟨z1, z2, z3, z4⟩ := H1.out.f2 1 rfl; have H2 := hid (show St _ _ (_ :: .cells (B + 1 + 1 + 1) #[.int .i64 g, .int .i64 g] 99 :: _) _ _ from ((H1.out.set 1 rfl 0 (.int .i64 g)).set 1 rfl 1 (.int .i64 g))); go_simp
  refine hK.out _ _ (by (try dsimp only); exact ⟨H2.out.cell 0 rfl 0 rfl, H2.out.cell 0 rfl 1 rfl⟩) ?_; clear hK K hHeld; intro hHeld; try simp only [pz]
  clear z1 z2 z3 z4; generalize ((k1.setCell ⟨B + 1 + 1 + 1, 0, none⟩ (.int .i64 g)).setCell ⟨B + 1 + 1 + 1, 1, none⟩ (.int .i64 g)) = k2 at *; refine tk 13 ?_; refine wpAnyH_done (by kernel_rfl) ?_ _; try clear hHeld
  obtain ⟨z1, z2⟩ := H2.out.c2 1 rfl; go_wp2_with fail
  clear z1 z2; have hpk := hid (show pwIok 2 g (xl, xh) (yl, yh) a b = false from by unfold pwIok; rw [(show (pwInt 2 g (xl, xh) (yl, yh) a b).1 = g from rfl), (show (pwInt 2 g (xl, xh) (yl, yh) a b).2 = g from rfl), HNb1.out]; rfl); obtain ⟨q1, q2⟩ := H2.out.c2 1 rfl; refine bodyPost_ret (v := .tuple #[.agg #[.int .i64 g, .int .i64 g], .bool false]) ?_ rfl ⟨⟨_, _, by rw [hpk.out], fun _ => ⟨(show (pwInt 2 g (xl, xh) (yl, yh) a b).1 = g from rfl).symm, (show (pwInt 2 g (xl, xh) (yl, yh) a b).2 = g from rfl).symm⟩⟩, H2.out.bl⟩; simp [results, Try.results84, go_sem, q1, q2]
 refine tk 6 ?_; refine tk 7 ?_; refine tk 8 ?_; refine tk 9 ?_; refine rdy 10 fun K hK => ?_
 go_simp
 go_at_call 79
 refine (racc_any _ _).mono ?_; rintro e w1 ⟨rfl, hsw⟩; have hsw2 : k1 = w1 := by first | exact hsw | exact hsw.symm
 clear hsw; subst hsw2; rw [HNb1.out]; refine hK.out _ _ (by (try dsimp only); exact ⟨H1.out.cell 0 rfl 0 rfl, H1.out.cell 0 rfl 1 rfl⟩) ?_; clear hK K hHeld; intro hHeld; try simp only [pz]
 refine tk 11 ?_; refine rdy 12 fun K hK => ?_
 obtain ⟨z1, z2, z3, z4⟩ := H1.out.f2 1 rfl; have H2 := hid (show St _ _ (_ :: .cells (B + 1 + 1 + 1) #[.int .i64 g, .int .i64 g] 99 :: _) _ _ from ((H1.out.set 1 rfl 0 (.int .i64 g)).set 1 rfl 1 (.int .i64 g))); go_simp
 refine hK.out _ _ (by (try dsimp only); exact ⟨H2.out.cell 0 rfl 0 rfl, H2.out.cell 0 rfl 1 rfl⟩) ?_; clear hK K hHeld; intro hHeld; try simp only [pz]
 clear z1 z2 z3 z4; generalize ((k1.setCell ⟨B + 1 + 1 + 1, 0, none⟩ (.int .i64 g)).setCell ⟨B + 1 + 1 + 1, 1, none⟩ (.int .i64 g)) = k1 at *; refine tk 13 ?_; refine wpAnyH_done (by kernel_rfl) ?_ _; try clear hHeld
 obtain ⟨z1, z2⟩ := H2.out.c2 1 rfl; go_wp2_with fail
 clear z1 z2; have hpk := hid (show pwIok 2 g (xl, xh) (yl, yh) a b = true from by unfold pwIok; rw [(show (pwInt 2 g (xl, xh) (yl, yh) a b).1 = g from rfl), (show (pwInt 2 g (xl, xh) (yl, yh) a b).2 = g from rfl), HNb1.out]; rfl); obtain ⟨q1, q2⟩ := H2.out.c2 1 rfl; refine bodyPost_ret (v := .tuple #[.agg #[.int .i64 g, .int .i64 g], .bool true]) ?_ rfl ⟨⟨_, _, by rw [hpk.out], fun _ => ⟨(show (pwInt 2 g (xl, xh) (yl, yh) a b).1 = g from rfl).symm, (show (pwInt 2 g (xl, xh) (yl, yh) a b).2 = g from rfl).symm⟩⟩, H2.out.bl⟩; simp [results, Try.results84, go_sem, q1, q2]

set_option maxRecDepth 100000 in
set_option maxHeartbeats 3200000 in
theorem rnext_any_3 (g xl xh yl yh a b : Int) (W : World) (hxl : accOk xl = true) (hxh : accOk xh = true) (hyl : accOk yl = true) (hyh : accOk yh = true) : Calls Try.prog 84 #[.agg #[.int .i64 3, .int .i64 g], .agg #[.int .i64 xl, .int .i64 xh], .agg #[.int .i64 yl, .int .i64 yh], .int .i64 a, .int .i64 b] W fun e w' => (∃ lo hi, e = .returned (.tuple #[.agg #[.int .i64 lo, .int .i64 hi], .bool (pwIok 3 g (xl, xh) (yl, yh) a b)]) ∧ (pwIok 3 g (xl, xh) (yl, yh) a b = true → lo = (pwInt 3 g (xl, xh) (yl, yh) a b).1 ∧ hi = (pwInt 3 g (xl, xh) (yl, yh) a b).2)) ∧ Below W.heap.size W w' := by
 obtain ⟨xl1, xl2⟩ := accOk_iff.1 hxl; obtain ⟨xh1, xh2⟩ := accOk_iff.1 hxh; obtain ⟨yl1, yl2⟩ := accOk_iff.1 hyl; obtain ⟨yh1, yh2⟩ := accOk_iff.1 hyh; obtain ⟨B, hB⟩ : ∃ B, W.heap.size = B := ⟨_, rfl⟩; have HI0 := hid (St.init hB)
 go_enter Try.func84, Try.ntmps84
 go_upto_region 1 with fail
 have H1 := hid (show St _ _ (.cells (B + 1 + 1 + 1) _ _ :: .cells (B + 1 + 1) _ _ :: .cells (B + 1) _ _ :: .cells B _ _ :: _) _ _ from ((((HI0.out.alloc #[.int .i64 3, .int .i64 g] 57 hB).alloc #[.int .i64 xl, .int .i64 xh] 99 (by first | exact hB | simp [hB])).alloc #[.int .i64 yl, .int .i64 yh] 99 (by first | exact hB | simp [hB])).alloc #[.int .i64 0, .int .i64 0] 99 (by first | exact hB | simp [hB]))); first | refine gK H1 ?_ | refine gL H1 ?_ | refine gC H1 ?_
 clear H1; intro w1 H1; obtain ⟨mg, hmg⟩ : ∃ zz : Int, (if absI xl < absI xh then absI xh else absI xl) = zz := ⟨_, rfl⟩; have H2 := hid H1.out.drew; refine wp_region_held_drew (S := (fun w' => w'.cell? ⟨B + 1, 0, none⟩ = some (.int .i64 xl) ∧ w'.cell? ⟨B + 1, 1, none⟩ = some (.int .i64 xh))) (by kernel_rfl) ⟨H2.out.cell 2 rfl 0 rfl, H2.out.cell 2 rfl 1 rfl⟩ (fun hHeld => ?_); generalize w1.drew = k1 at *; refine tk 0 ?_; refine tk 1 ?_; refine tk 3 ?_; refine tk 4 ?_; refine rdy 2 fun K hK => ?_
 go_simp
 go_at_call 88
 refine (rabs_any _ (by omega) _).mono ?_; rintro e w1 ⟨rfl, hsw⟩; have hsw2 : k1 = w1 := by first | exact hsw | exact hsw.symm
 clear hsw; subst hsw2; refine hK.out _ _ (by (try dsimp only); exact ⟨H2.out.cell 2 rfl 0 rfl, H2.out.cell 2 rfl 1 rfl⟩) ?_; clear hK K hHeld; intro hHeld; try simp only [pz]
 refine rdy 5 fun K hK => ?_
 go_simp
 go_at_call 88
 refine (rabs_any _ (by omega) _).mono ?_; rintro e w1 ⟨rfl, hsw⟩; have hsw2 : k1 = w1 := by first | exact hsw | exact hsw.symm
 clear hsw; subst hsw2; refine hK.out _ _ (by (try dsimp only); exact ⟨H2.out.cell 2 rfl 0 rfl, H2.out.cell 2 rfl 1 rfl⟩) ?_; clear hK K hHeld; intro hHeld; try simp only [pz]
 refine tk 6 ?_; refine tk 7 ?_; refine wpAnyH_done (by kernel_rfl) ?_ _; try clear hHeld
 have HMG := hid (show mxI (absI xl) (absI xh) = mg from hmg); clear hmg; obtain ⟨mga, mgb⟩ : 0 ≤ mg ∧ mg ≤ 17592186044416 := by rw [← HMG.out]; exact mag_bd hxl hxh
 have mgw : IntKind.i64.wrap (-mg) = -mg := IntWalk.i64_in _ (by omega); obtain ⟨D1, hD1⟩ : ∃ D, k1.heap.size = D := ⟨_, rfl⟩; go_upto_region 3 with fail
 have H1 := hid (H2.out.alloc #[.int .i64 0, .int .i64 0] 99 hD1); first | refine gK H1 ?_ | refine gL H1 ?_ | refine gC H1 ?_
 clear H1; intro w1 H1; clear hD1; obtain ⟨z1, z2⟩ := H1.out.c2 4 rfl; obtain ⟨z3, z4⟩ := H1.out.c2 3 rfl; obtain ⟨z5, z6⟩ := H1.out.c2 2 rfl; obtain ⟨z7, z8, z9, z10⟩ := H1.out.f2 0 rfl; go_upto_region 27 with fail
 clear z1 z2 z3 z4 z5 z6 z7 z8 z9 z10; have H2 := hid (show St _ _ (.cells D1 #[.int .i64 (xl + yl), .int .i64 (xh + yh)] 99 :: _) _ _ from ((H1.out.set 0 rfl 0 (.int .i64 (xl + yl))).set 0 rfl 1 (.int .i64 (xh + yh)))); first | refine gK H2 ?_ | refine gL H2 ?_ | refine gC H2 ?_
 clear H2; intro w1 H2; have H1 := hid H2.out.drew; refine wp_region_held_drew (S := (fun w' => w'.cell? ⟨D1, 0, none⟩ = some (.int .i64 (xl + yl)) ∧ w'.cell? ⟨D1, 1, none⟩ = some (.int .i64 (xh + yh)))) (by kernel_rfl) ⟨H1.out.cell 0 rfl 0 rfl, H1.out.cell 0 rfl 1 rfl⟩ (fun hHeld => ?_); generalize w1.drew = k1 at *; refine tk 0 ?_; refine tk 1 ?_; refine tk 2 ?_; refine tk 3 ?_; refine tk 4 ?_; refine rdy 5 fun K hK => ?_
 go_simp
 go_at_call 79
 refine (racc_any _ _).mono ?_; rintro e w1 ⟨rfl, hsw⟩; have hsw2 : k1 = w1 := by first | exact hsw | exact hsw.symm
 clear hsw; subst hsw2; obtain ⟨b1, hb1⟩ : ∃ xx', accOk (xl + yl) = xx' := ⟨_, rfl⟩; rw [hb1]; have HNb1 := hid hb1; clear hb1; refine hK.out _ _ (by (try dsimp only); exact ⟨H1.out.cell 0 rfl 0 rfl, H1.out.cell 0 rfl 1 rfl⟩) ?_; clear hK K hHeld; intro hHeld; try simp only [pz]
 cases b1
 ·
  refine tk 6 ?_; refine tk 7 ?_; refine tu 8 ?_; refine tu 9 ?_; refine tu 10 ?_; refine tk 11 ?_; refine rdy 12 fun K hK => ?_
  obtain ⟨z1, z2, z3, z4⟩ := H1.out.f2 1 rfl; have H2 := hid (show St _ _ (_ :: .cells (B + 1 + 1 + 1) #[.int .i64 (xl + yl), .int .i64 (xh + yh)] 99 :: _) _ _ from ((H1.out.set 1 rfl 0 (.int .i64 (xl + yl))).set 1 rfl 1 (.int .i64 (xh + yh)))); go_simp
  refine hK.out _ _ (by (try dsimp only); exact ⟨H2.out.cell 0 rfl 0 rfl, H2.out.cell 0 rfl 1 rfl⟩) ?_; clear hK K hHeld; intro hHeld; try simp only [pz]
  clear z1 z2 z3 z4; generalize ((k1.setCell ⟨B + 1 + 1 + 1, 0, none⟩ (.int .i64 (xl + yl))).setCell ⟨B + 1 + 1 + 1, 1, none⟩ (.int .i64 (xh + yh))) = k2 at *; refine tk 13 ?_; refine wpAnyH_done (by kernel_rfl) ?_ _; try clear hHeld
  obtain ⟨z1, z2⟩ := H2.out.c2 1 rfl; go_wp2_with fail
  clear z1 z2; have hpk := hid (show pwIok 3 g (xl, xh) (yl, yh) a b = false from by unfold pwIok; rw [(show (pwInt 3 g (xl, xh) (yl, yh) a b).1 = xl + yl from rfl), (show (pwInt 3 g (xl, xh) (yl, yh) a b).2 = xh + yh from rfl), HNb1.out]; rfl); obtain ⟨q1, q2⟩ := H2.out.c2 1 rfl; refine bodyPost_ret (v := .tuple #[.agg #[.int .i64 (xl + yl), .int .i64 (xh + yh)], .bool false]) ?_ rfl ⟨⟨_, _, by rw [hpk.out], fun _ => ⟨(show (pwInt 3 g (xl, xh) (yl, yh) a b).1 = xl + yl from rfl).symm, (show (pwInt 3 g (xl, xh) (yl, yh) a b).2 = xh + yh from rfl).symm⟩⟩, H2.out.bl⟩; simp [results, Try.results84, go_sem, q1, q2]
 refine tk 6 ?_; refine tk 7 ?_; refine tk 8 ?_; refine tk 9 ?_; refine rdy 10 fun K hK => ?_
 go_simp
 go_at_call 79
 refine (racc_any _ _).mono ?_; rintro e w1 ⟨rfl, hsw⟩; have hsw2 : k1 = w1 := by first | exact hsw | exact hsw.symm
 clear hsw; subst hsw2; obtain ⟨b1, hb1⟩ : ∃ xx', accOk (xh + yh) = xx' := ⟨_, rfl⟩; rw [hb1]; have HNb2 := hid hb1; clear hb1; refine hK.out _ _ (by (try dsimp only); exact ⟨H1.out.cell 0 rfl 0 rfl, H1.out.cell 0 rfl 1 rfl⟩) ?_; clear hK K hHeld; intro hHeld; try simp only [pz]
 refine tk 11 ?_; refine rdy 12 fun K hK => ?_
 obtain ⟨z1, z2, z3, z4⟩ := H1.out.f2 1 rfl; have H2 := hid (show St _ _ (_ :: .cells (B + 1 + 1 + 1) #[.int .i64 (xl + yl), .int .i64 (xh + yh)] 99 :: _) _ _ from ((H1.out.set 1 rfl 0 (.int .i64 (xl + yl))).set 1 rfl 1 (.int .i64 (xh + yh)))); go_simp
 refine hK.out _ _ (by (try dsimp only); exact ⟨H2.out.cell 0 rfl 0 rfl, H2.out.cell 0 rfl 1 rfl⟩) ?_; clear hK K hHeld; intro hHeld; try simp only [pz]
 clear z1 z2 z3 z4; generalize ((k1.setCell ⟨B + 1 + 1 + 1, 0, none⟩ (.int .i64 (xl + yl))).setCell ⟨B + 1 + 1 + 1, 1, none⟩ (.int .i64 (xh + yh))) = k1 at *; refine tk 13 ?_; refine wpAnyH_done (by kernel_rfl) ?_ _; try clear hHeld
 obtain ⟨z1, z2⟩ := H2.out.c2 1 rfl; go_wp2_with fail
 clear z1 z2; have hpk := hid (show pwIok 3 g (xl, xh) (yl, yh) a b = b1 from by unfold pwIok; rw [(show (pwInt 3 g (xl, xh) (yl, yh) a b).1 = xl + yl from rfl), (show (pwInt 3 g (xl, xh) (yl, yh) a b).2 = xh + yh from rfl), HNb1.out, HNb2.out]; rfl); obtain ⟨q1, q2⟩ := H2.out.c2 1 rfl; refine bodyPost_ret (v := .tuple #[.agg #[.int .i64 (xl + yl), .int .i64 (xh + yh)], .bool b1]) ?_ rfl ⟨⟨_, _, by rw [hpk.out], fun _ => ⟨(show (pwInt 3 g (xl, xh) (yl, yh) a b).1 = xl + yl from rfl).symm, (show (pwInt 3 g (xl, xh) (yl, yh) a b).2 = xh + yh from rfl).symm⟩⟩, H2.out.bl⟩; simp [results, Try.results84, go_sem, q1, q2]

set_option maxRecDepth 100000 in
set_option maxHeartbeats 3200000 in
theorem rnext_any_4 (g xl xh yl yh a b : Int) (W : World) (hxl : accOk xl = true) (hxh : accOk xh = true) (hyl : accOk yl = true) (hyh : accOk yh = true) : Calls Try.prog 84 #[.agg #[.int .i64 4, .int .i64 g], .agg #[.int .i64 xl, .int .i64 xh], .agg #[.int .i64 yl, .int .i64 yh], .int .i64 a, .int .i64 b] W fun e w' => (∃ lo hi, e = .returned (.tuple #[.agg #[.int .i64 lo, .int .i64 hi], .bool (pwIok 4 g (xl, xh) (yl, yh) a b)]) ∧ (pwIok 4 g (xl, xh) (yl, yh) a b = true → lo = (pwInt 4 g (xl, xh) (yl, yh) a b).1 ∧ hi = (pwInt 4 g (xl, xh) (yl, yh) a b).2)) ∧ Below W.heap.size W w' := by
 obtain ⟨xl1, xl2⟩ := accOk_iff.1 hxl; obtain ⟨xh1, xh2⟩ := accOk_iff.1 hxh; obtain ⟨yl1, yl2⟩ := accOk_iff.1 hyl; obtain ⟨yh1, yh2⟩ := accOk_iff.1 hyh; obtain ⟨B, hB⟩ : ∃ B, W.heap.size = B := ⟨_, rfl⟩; have HI0 := hid (St.init hB)
 go_enter Try.func84, Try.ntmps84
 go_upto_region 1 with fail
 have H1 := hid (show St _ _ (.cells (B + 1 + 1 + 1) _ _ :: .cells (B + 1 + 1) _ _ :: .cells (B + 1) _ _ :: .cells B _ _ :: _) _ _ from ((((HI0.out.alloc #[.int .i64 4, .int .i64 g] 57 hB).alloc #[.int .i64 xl, .int .i64 xh] 99 (by first | exact hB | simp [hB])).alloc #[.int .i64 yl, .int .i64 yh] 99 (by first | exact hB | simp [hB])).alloc #[.int .i64 0, .int .i64 0] 99 (by first | exact hB | simp [hB]))); first | refine gK H1 ?_ | refine gL H1 ?_ | refine gC H1 ?_
 clear H1; intro w1 H1; obtain ⟨mg, hmg⟩ : ∃ zz : Int, (if absI xl < absI xh then absI xh else absI xl) = zz := ⟨_, rfl⟩; have H2 := hid H1.out.drew; refine wp_region_held_drew (S := (fun w' => w'.cell? ⟨B + 1, 0, none⟩ = some (.int .i64 xl) ∧ w'.cell? ⟨B + 1, 1, none⟩ = some (.int .i64 xh))) (by kernel_rfl) ⟨H2.out.cell 2 rfl 0 rfl, H2.out.cell 2 rfl 1 rfl⟩ (fun hHeld => ?_); generalize w1.drew = k1 at *; refine tk 0 ?_; refine tk 1 ?_; refine tk 3 ?_; refine tk 4 ?_; refine rdy 2 fun K hK => ?_
 go_simp
 go_at_call 88
 refine (rabs_any _ (by omega) _).mono ?_; rintro e w1 ⟨rfl, hsw⟩; have hsw2 : k1 = w1 := by first | exact hsw | exact hsw.symm
 clear hsw; subst hsw2; refine hK.out _ _ (by (try dsimp only); exact ⟨H2.out.cell 2 rfl 0 rfl, H2.out.cell 2 rfl 1 rfl⟩) ?_; clear hK K hHeld; intro hHeld; try simp only [pz]
 refine rdy 5 fun K hK => ?_
 go_simp
 go_at_call 88
 refine (rabs_any _ (by omega) _).mono ?_; rintro e w1 ⟨rfl, hsw⟩; have hsw2 : k1 = w1 := by first | exact hsw | exact hsw.symm
 clear hsw; subst hsw2; refine hK.out _ _ (by (try dsimp only); exact ⟨H2.out.cell 2 rfl 0 rfl, H2.out.cell 2 rfl 1 rfl⟩) ?_; clear hK K hHeld; intro hHeld; try simp only [pz]
 refine tk 6 ?_; refine tk 7 ?_; refine wpAnyH_done (by kernel_rfl) ?_ _; try clear hHeld
 have HMG := hid (show mxI (absI xl) (absI xh) = mg from hmg); clear hmg; obtain ⟨mga, mgb⟩ : 0 ≤ mg ∧ mg ≤ 17592186044416 := by rw [← HMG.out]; exact mag_bd hxl hxh
 have mgw : IntKind.i64.wrap (-mg) = -mg := IntWalk.i64_in _ (by omega); obtain ⟨D1, hD1⟩ : ∃ D, k1.heap.size = D := ⟨_, rfl⟩; go_upto_region 3 with fail
 have H1 := hid (H2.out.alloc #[.int .i64 0, .int .i64 0] 99 hD1); first | refine gK H1 ?_ | refine gL H1 ?_ | refine gC H1 ?_
 clear H1; intro w1 H1; clear hD1; obtain ⟨z1, z2⟩ := H1.out.c2 4 rfl; obtain ⟨z3, z4⟩ := H1.out.c2 3 rfl; obtain ⟨z5, z6⟩ := H1.out.c2 2 rfl; obtain ⟨z7, z8, z9, z10⟩ := H1.out.f2 0 rfl; go_upto_region 27 with fail
 clear z1 z2 z3 z4 z5 z6 z7 z8 z9 z10; have H2 := hid (show St _ _ (.cells D1 #[.int .i64 (xl - yh), .int .i64 (xh - yl)] 99 :: _) _ _ from ((H1.out.set 0 rfl 0 (.int .i64 (xl - yh))).set 0 rfl 1 (.int .i64 (xh - yl)))); first | refine gK H2 ?_ | refine gL H2 ?_ | refine gC H2 ?_
 clear H2; intro w1 H2; have H1 := hid H2.out.drew; refine wp_region_held_drew (S := (fun w' => w'.cell? ⟨D1, 0, none⟩ = some (.int .i64 (xl - yh)) ∧ w'.cell? ⟨D1, 1, none⟩ = some (.int .i64 (xh - yl)))) (by kernel_rfl) ⟨H1.out.cell 0 rfl 0 rfl, H1.out.cell 0 rfl 1 rfl⟩ (fun hHeld => ?_); generalize w1.drew = k1 at *; refine tk 0 ?_; refine tk 1 ?_; refine tk 2 ?_; refine tk 3 ?_; refine tk 4 ?_; refine rdy 5 fun K hK => ?_
 go_simp
 go_at_call 79
 refine (racc_any _ _).mono ?_; rintro e w1 ⟨rfl, hsw⟩; have hsw2 : k1 = w1 := by first | exact hsw | exact hsw.symm
 clear hsw; subst hsw2; obtain ⟨b1, hb1⟩ : ∃ xx', accOk (xl - yh) = xx' := ⟨_, rfl⟩; rw [hb1]; have HNb1 := hid hb1; clear hb1; refine hK.out _ _ (by (try dsimp only); exact ⟨H1.out.cell 0 rfl 0 rfl, H1.out.cell 0 rfl 1 rfl⟩) ?_; clear hK K hHeld; intro hHeld; try simp only [pz]
 cases b1
 ·
  refine tk 6 ?_; refine tk 7 ?_; refine tu 8 ?_; refine tu 9 ?_; refine tu 10 ?_; refine tk 11 ?_; refine rdy 12 fun K hK => ?_
  obtain ⟨z1, z2, z3, z4⟩ := H1.out.f2 1 rfl; have H2 := hid (show St _ _ (_ :: .cells (B + 1 + 1 + 1) #[.int .i64 (xl - yh), .int .i64 (xh - yl)] 99 :: _) _ _ from ((H1.out.set 1 rfl 0 (.int .i64 (xl - yh))).set 1 rfl 1 (.int .i64 (xh - yl)))); go_simp
  refine hK.out _ _ (by (try dsimp only); exact ⟨H2.out.cell 0 rfl 0 rfl, H2.out.cell 0 rfl 1 rfl⟩) ?_; clear hK K hHeld; intro hHeld; try simp only [pz]
  clear z1 z2 z3 z4; generalize ((k1.setCell ⟨B + 1 + 1 + 1, 0, none⟩ (.int .i64 (xl - yh))).setCell ⟨B + 1 + 1 + 1, 1, none⟩ (.int .i64 (xh - yl))) = k2 at *; refine tk 13 ?_; refine wpAnyH_done (by kernel_rfl) ?_ _; try clear hHeld
  obtain ⟨z1, z2⟩ := H2.out.c2 1 rfl; go_wp2_with fail
  clear z1 z2; have hpk := hid (show pwIok 4 g (xl, xh) (yl, yh) a b = false from by unfold pwIok; rw [(show (pwInt 4 g (xl, xh) (yl, yh) a b).1 = xl - yh from rfl), (show (pwInt 4 g (xl, xh) (yl, yh) a b).2 = xh - yl from rfl), HNb1.out]; rfl); obtain ⟨q1, q2⟩ := H2.out.c2 1 rfl; refine bodyPost_ret (v := .tuple #[.agg #[.int .i64 (xl - yh), .int .i64 (xh - yl)], .bool false]) ?_ rfl ⟨⟨_, _, by rw [hpk.out], fun _ => ⟨(show (pwInt 4 g (xl, xh) (yl, yh) a b).1 = xl - yh from rfl).symm, (show (pwInt 4 g (xl, xh) (yl, yh) a b).2 = xh - yl from rfl).symm⟩⟩, H2.out.bl⟩; simp [results, Try.results84, go_sem, q1, q2]
 refine tk 6 ?_; refine tk 7 ?_; refine tk 8 ?_; refine tk 9 ?_; refine rdy 10 fun K hK => ?_
 go_simp
 go_at_call 79
 refine (racc_any _ _).mono ?_; rintro e w1 ⟨rfl, hsw⟩; have hsw2 : k1 = w1 := by first | exact hsw | exact hsw.symm
 clear hsw; subst hsw2; obtain ⟨b1, hb1⟩ : ∃ xx', accOk (xh - yl) = xx' := ⟨_, rfl⟩; rw [hb1]; have HNb2 := hid hb1; clear hb1; refine hK.out _ _ (by (try dsimp only); exact ⟨H1.out.cell 0 rfl 0 rfl, H1.out.cell 0 rfl 1 rfl⟩) ?_; clear hK K hHeld; intro hHeld; try simp only [pz]
 refine tk 11 ?_; refine rdy 12 fun K hK => ?_
 obtain ⟨z1, z2, z3, z4⟩ := H1.out.f2 1 rfl; have H2 := hid (show St _ _ (_ :: .cells (B + 1 + 1 + 1) #[.int .i64 (xl - yh), .int .i64 (xh - yl)] 99 :: _) _ _ from ((H1.out.set 1 rfl 0 (.int .i64 (xl - yh))).set 1 rfl 1 (.int .i64 (xh - yl)))); go_simp
 refine hK.out _ _ (by (try dsimp only); exact ⟨H2.out.cell 0 rfl 0 rfl, H2.out.cell 0 rfl 1 rfl⟩) ?_; clear hK K hHeld; intro hHeld; try simp only [pz]
 clear z1 z2 z3 z4; generalize ((k1.setCell ⟨B + 1 + 1 + 1, 0, none⟩ (.int .i64 (xl - yh))).setCell ⟨B + 1 + 1 + 1, 1, none⟩ (.int .i64 (xh - yl))) = k1 at *; refine tk 13 ?_; refine wpAnyH_done (by kernel_rfl) ?_ _; try clear hHeld
 obtain ⟨z1, z2⟩ := H2.out.c2 1 rfl; go_wp2_with fail
 clear z1 z2; have hpk := hid (show pwIok 4 g (xl, xh) (yl, yh) a b = b1 from by unfold pwIok; rw [(show (pwInt 4 g (xl, xh) (yl, yh) a b).1 = xl - yh from rfl), (show (pwInt 4 g (xl, xh) (yl, yh) a b).2 = xh - yl from rfl), HNb1.out, HNb2.out]; rfl); obtain ⟨q1, q2⟩ := H2.out.c2 1 rfl; refine bodyPost_ret (v := .tuple #[.agg #[.int .i64 (xl - yh), .int .i64 (xh - yl)], .bool b1]) ?_ rfl ⟨⟨_, _, by rw [hpk.out], fun _ => ⟨(show (pwInt 4 g (xl, xh) (yl, yh) a b).1 = xl - yh from rfl).symm, (show (pwInt 4 g (xl, xh) (yl, yh) a b).2 = xh - yl from rfl).symm⟩⟩, H2.out.bl⟩; simp [results, Try.results84, go_sem, q1, q2]

set_option maxRecDepth 100000 in
set_option maxHeartbeats 3200000 in
theorem rnext_any_5 (g xl xh yl yh a b : Int) (W : World) (hxl : accOk xl = true) (hxh : accOk xh = true) (hyl : accOk yl = true) (hyh : accOk yh = true) : Calls Try.prog 84 #[.agg #[.int .i64 5, .int .i64 g], .agg #[.int .i64 xl, .int .i64 xh], .agg #[.int .i64 yl, .int .i64 yh], .int .i64 a, .int .i64 b] W fun e w' => (∃ lo hi, e = .returned (.tuple #[.agg #[.int .i64 lo, .int .i64 hi], .bool (pwIok 5 g (xl, xh) (yl, yh) a b)]) ∧ (pwIok 5 g (xl, xh) (yl, yh) a b = true → lo = (pwInt 5 g (xl, xh) (yl, yh) a b).1 ∧ hi = (pwInt 5 g (xl, xh) (yl, yh) a b).2)) ∧ Below W.heap.size W w' := by
 obtain ⟨xl1, xl2⟩ := accOk_iff.1 hxl; obtain ⟨xh1, xh2⟩ := accOk_iff.1 hxh; obtain ⟨yl1, yl2⟩ := accOk_iff.1 hyl; obtain ⟨yh1, yh2⟩ := accOk_iff.1 hyh; obtain ⟨B, hB⟩ : ∃ B, W.heap.size = B := ⟨_, rfl⟩; have HI0 := hid (St.init hB)
 go_enter Try.func84, Try.ntmps84
 go_upto_region 1 with fail
 have H1 := hid (show St _ _ (.cells (B + 1 + 1 + 1) _ _ :: .cells (B + 1 + 1) _ _ :: .cells (B + 1) _ _ :: .cells B _ _ :: _) _ _ from ((((HI0.out.alloc #[.int .i64 5, .int .i64 g] 57 hB).alloc #[.int .i64 xl, .int .i64 xh] 99 (by first | exact hB | simp [hB])).alloc #[.int .i64 yl, .int .i64 yh] 99 (by first | exact hB | simp [hB])).alloc #[.int .i64 0, .int .i64 0] 99 (by first | exact hB | simp [hB]))); first | refine gK H1 ?_ | refine gL H1 ?_ | refine gC H1 ?_
 clear H1; intro w1 H1; obtain ⟨mg, hmg⟩ : ∃ zz : Int, (if absI xl < absI xh then absI xh else absI xl) = zz := ⟨_, rfl⟩; have H2 := hid H1.out.drew; refine wp_region_held_drew (S := (fun w' => w'.cell? ⟨B + 1, 0, none⟩ = some (.int .i64 xl) ∧ w'.cell? ⟨B + 1, 1, none⟩ = some (.int .i64 xh))) (by kernel_rfl) ⟨H2.out.cell 2 rfl 0 rfl, H2.out.cell 2 rfl 1 rfl⟩ (fun hHeld => ?_); generalize w1.drew = k1 at *; refine tk 0 ?_; refine tk 1 ?_; refine tk 3 ?_; refine tk 4 ?_; refine rdy 2 fun K hK => ?_
 go_simp
 go_at_call 88
 refine (rabs_any _ (by omega) _).mono ?_; rintro e w1 ⟨rfl, hsw⟩; have hsw2 : k1 = w1 := by first | exact hsw | exact hsw.symm
 clear hsw; subst hsw2; refine hK.out _ _ (by (try dsimp only); exact ⟨H2.out.cell 2 rfl 0 rfl, H2.out.cell 2 rfl 1 rfl⟩) ?_; clear hK K hHeld; intro hHeld; try simp only [pz]
 refine rdy 5 fun K hK => ?_
 go_simp
 go_at_call 88
 refine (rabs_any _ (by omega) _).mono ?_; rintro e w1 ⟨rfl, hsw⟩; have hsw2 : k1 = w1 := by first | exact hsw | exact hsw.symm
 clear hsw; subst hsw2; refine hK.out _ _ (by (try dsimp only); exact ⟨H2.out.cell 2 rfl 0 rfl, H2.out.cell 2 rfl 1 rfl⟩) ?_; clear hK K hHeld; intro hHeld; try simp only [pz]
 refine tk 6 ?_; refine tk 7 ?_; refine wpAnyH_done (by kernel_rfl) ?_ _; try clear hHeld
 have HMG := hid (show mxI (absI xl) (absI xh) = mg from hmg); clear hmg; obtain ⟨mga, mgb⟩ : 0 ≤ mg ∧ mg ≤ 17592186044416 := by rw [← HMG.out]; exact mag_bd hxl hxh
 have mgw : IntKind.i64.wrap (-mg) = -mg := IntWalk.i64_in _ (by omega); obtain ⟨D1, hD1⟩ : ∃ D, k1.heap.size = D := ⟨_, rfl⟩; go_upto_region 3 with fail
 have H1 := hid (H2.out.alloc #[.int .i64 0, .int .i64 0] 99 hD1); first | refine gK H1 ?_ | refine gL H1 ?_ | refine gC H1 ?_
 clear H1; intro w1 H1; clear hD1; obtain ⟨z1, z2⟩ := H1.out.c2 4 rfl; obtain ⟨z3, z4⟩ := H1.out.c2 3 rfl; obtain ⟨z5, z6⟩ := H1.out.c2 2 rfl; go_wp2_with fail
 clear z1 z2 z3 z4 z5 z6; refine (rproduct_any _ _ _ _ _ hxl hxh hyl hyh).mono ?_; rintro e w1 ⟨⟨lo1, hi1, rfl, hlh⟩, hb⟩; have H2 := hid (H1.out.call hb); clear hb; obtain ⟨b1, hb1⟩ : ∃ xx', pwMul (xl, xh) (yl, yh) = xx' := ⟨_, rfl⟩; rw [hb1] at hlh ⊢; have HNb1 := hid hb1; clear hb1; have HLH := hid hlh; clear hlh; cases b1; rotate_left
 ·
  obtain ⟨z1, z2, z3, z4⟩ := H2.out.f2 0 rfl; go_upto_region 27 with fail
  clear z1 z2 z3 z4; have H1 := hid (show St _ _ (.cells D1 #[.int .i64 lo1, .int .i64 hi1] 99 :: _) _ _ from ((H2.out.set 0 rfl 0 (.int .i64 lo1)).set 0 rfl 1 (.int .i64 hi1))); first | refine gK H1 ?_ | refine gL H1 ?_ | refine gC H1 ?_
  clear H1; intro w1 H1; have H3 := hid H1.out.drew; refine wp_region_held_drew (S := (fun w' => w'.cell? ⟨D1, 0, none⟩ = some (.int .i64 lo1) ∧ w'.cell? ⟨D1, 1, none⟩ = some (.int .i64 hi1))) (by kernel_rfl) ⟨H3.out.cell 0 rfl 0 rfl, H3.out.cell 0 rfl 1 rfl⟩ (fun hHeld => ?_); generalize w1.drew = k1 at *; refine tk 0 ?_; refine tk 1 ?_; refine tk 2 ?_; refine tk 3 ?_; refine tk 4 ?_; refine rdy 5 fun K hK => ?_
  go_simp
  go_at_call 79
  refine (racc_any _ _).mono ?_; rintro e w1 ⟨rfl, hsw⟩; have hsw2 : k1 = w1 := by first | exact hsw | exact hsw.symm
  clear hsw; subst hsw2; obtain ⟨b1, hb1⟩ : ∃ xx', accOk lo1 = xx' := ⟨_, rfl⟩; rw [hb1]; have HNb2 := hid hb1; clear hb1; refine hK.out _ _ (by (try dsimp only); exact ⟨H3.out.cell 0 rfl 0 rfl, H3.out.cell 0 rfl 1 rfl⟩) ?_; clear hK K hHeld; intro hHeld; try simp only [pz]
  cases b1
  ·
   refine tk 6 ?_; refine tk 7 ?_; refine tu 8 ?_; refine tu 9 ?_; refine tu 10 ?_; refine tk 11 ?_; refine rdy 12 fun K hK => ?_
   obtain ⟨z1, z2, z3, z4⟩ := H3.out.f2 1 rfl; have H1 := hid (show St _ _ (_ :: .cells (B + 1 + 1 + 1) #[.int .i64 lo1, .int .i64 hi1] 99 :: _) _ _ from ((H3.out.set 1 rfl 0 (.int .i64 lo1)).set 1 rfl 1 (.int .i64 hi1))); go_simp
   refine hK.out _ _ (by (try dsimp only); exact ⟨H1.out.cell 0 rfl 0 rfl, H1.out.cell 0 rfl 1 rfl⟩) ?_; clear hK K hHeld; intro hHeld; try simp only [pz]
   clear z1 z2 z3 z4; generalize ((k1.setCell ⟨B + 1 + 1 + 1, 0, none⟩ (.int .i64 lo1)).setCell ⟨B + 1 + 1 + 1, 1, none⟩ (.int .i64 hi1)) = k2 at *; refine tk 13 ?_; refine wpAnyH_done (by kernel_rfl) ?_ _; try clear hHeld
   obtain ⟨z1, z2⟩ := H1.out.c2 1 rfl; go_wp2_with fail
   clear z1 z2; have hpk := hid (show pwIok 5 g (xl, xh) (yl, yh) a b = false from by unfold pwIok; rw [(show (pwInt 5 g (xl, xh) (yl, yh) a b).1 = lo1 from (by first | exact (HLH.out rfl).1.symm | exact (HLH.out trivial).1.symm | exact HLH.out.1.symm)), (show (pwInt 5 g (xl, xh) (yl, yh) a b).2 = hi1 from (by first | exact (HLH.out rfl).2.symm | exact (HLH.out trivial).2.symm | exact HLH.out.2.symm)), HNb2.out, HNb1.out]; rfl); obtain ⟨q1, q2⟩ := H1.out.c2 1 rfl; refine bodyPost_ret (v := .tuple #[.agg #[.int .i64 lo1, .int .i64 hi1], .bool false]) ?_ rfl ⟨⟨_, _, by rw [hpk.out], fun _ => ⟨(show (pwInt 5 g (xl, xh) (yl, yh) a b).1 = lo1 from (by first | exact (HLH.out rfl).1.symm | exact (HLH.out trivial).1.symm | exact HLH.out.1.symm)).symm, (show (pwInt 5 g (xl, xh) (yl, yh) a b).2 = hi1 from (by first | exact (HLH.out rfl).2.symm | exact (HLH.out trivial).2.symm | exact HLH.out.2.symm)).symm⟩⟩, H1.out.bl⟩; simp [results, Try.results84, go_sem, q1, q2]
  refine tk 6 ?_; refine tk 7 ?_; refine tk 8 ?_; refine tk 9 ?_; refine rdy 10 fun K hK => ?_
  go_simp
  go_at_call 79
  refine (racc_any _ _).mono ?_; rintro e w1 ⟨rfl, hsw⟩; have hsw2 : k1 = w1 := by first | exact hsw | exact hsw.symm
  clear hsw; subst hsw2; obtain ⟨b1, hb1⟩ : ∃ xx', accOk hi1 = xx' := ⟨_, rfl⟩; rw [hb1]; have HNb3 := hid hb1; clear hb1; refine hK.out _ _ (by (try dsimp only); exact ⟨H3.out.cell 0 rfl 0 rfl, H3.out.cell 0 rfl 1 rfl⟩) ?_; clear hK K hHeld; intro hHeld; try simp only [pz]
  refine tk 11 ?_; refine rdy 12 fun K hK => ?_
  obtain ⟨z1, z2, z3, z4⟩ := H3.out.f2 1 rfl; have H1 := hid (show St _ _ (_ :: .cells (B + 1 + 1 + 1) #[.int .i64 lo1, .int .i64 hi1] 99 :: _) _ _ from ((H3.out.set 1 rfl 0 (.int .i64 lo1)).set 1 rfl 1 (.int .i64 hi1))); go_simp
  refine hK.out _ _ (by (try dsimp only); exact ⟨H1.out.cell 0 rfl 0 rfl, H1.out.cell 0 rfl 1 rfl⟩) ?_; clear hK K hHeld; intro hHeld; try simp only [pz]
  clear z1 z2 z3 z4; generalize ((k1.setCell ⟨B + 1 + 1 + 1, 0, none⟩ (.int .i64 lo1)).setCell ⟨B + 1 + 1 + 1, 1, none⟩ (.int .i64 hi1)) = k1 at *; refine tk 13 ?_; refine wpAnyH_done (by kernel_rfl) ?_ _; try clear hHeld
  obtain ⟨z1, z2⟩ := H1.out.c2 1 rfl; go_wp2_with fail
  clear z1 z2; have hpk := hid (show pwIok 5 g (xl, xh) (yl, yh) a b = b1 from by unfold pwIok; rw [(show (pwInt 5 g (xl, xh) (yl, yh) a b).1 = lo1 from (by first | exact (HLH.out rfl).1.symm | exact (HLH.out trivial).1.symm | exact HLH.out.1.symm)), (show (pwInt 5 g (xl, xh) (yl, yh) a b).2 = hi1 from (by first | exact (HLH.out rfl).2.symm | exact (HLH.out trivial).2.symm | exact HLH.out.2.symm)), HNb2.out, HNb3.out, HNb1.out]; rfl); obtain ⟨q1, q2⟩ := H1.out.c2 1 rfl; refine bodyPost_ret (v := .tuple #[.agg #[.int .i64 lo1, .int .i64 hi1], .bool b1]) ?_ rfl ⟨⟨_, _, by rw [hpk.out], fun _ => ⟨(show (pwInt 5 g (xl, xh) (yl, yh) a b).1 = lo1 from (by first | exact (HLH.out rfl).1.symm | exact (HLH.out trivial).1.symm | exact HLH.out.1.symm)).symm, (show (pwInt 5 g (xl, xh) (yl, yh) a b).2 = hi1 from (by first | exact (HLH.out rfl).2.symm | exact (HLH.out trivial).2.symm | exact HLH.out.2.symm)).symm⟩⟩, H1.out.bl⟩; simp [results, Try.results84, go_sem, q1, q2]
 obtain ⟨z1, z2, z3, z4⟩ := H2.out.f2 0 rfl; go_upto_region 27 with fail
 clear z1 z2 z3 z4; have H1 := hid (show St _ _ (.cells D1 #[.int .i64 lo1, .int .i64 hi1] 99 :: _) _ _ from ((H2.out.set 0 rfl 0 (.int .i64 lo1)).set 0 rfl 1 (.int .i64 hi1))); first | refine gK H1 ?_ | refine gL H1 ?_ | refine gC H1 ?_
 clear H1; intro w1 H1; have H2 := hid H1.out.drew; refine wp_region_held_drew (S := (fun w' => w'.cell? ⟨D1, 0, none⟩ = some (.int .i64 lo1) ∧ w'.cell? ⟨D1, 1, none⟩ = some (.int .i64 hi1))) (by kernel_rfl) ⟨H2.out.cell 0 rfl 0 rfl, H2.out.cell 0 rfl 1 rfl⟩ (fun hHeld => ?_); generalize w1.drew = k1 at *; refine tk 0 ?_; refine tk 1 ?_; refine tk 2 ?_; refine tu 3 ?_; refine tu 4 ?_; refine tu 5 ?_; refine tk 6 ?_; refine tk 7 ?_; refine tu 8 ?_; refine tu 9 ?_; refine tu 10 ?_; refine tk 11 ?_; refine rdy 12 fun K hK => ?_
 obtain ⟨z1, z2, z3, z4⟩ := H2.out.f2 1 rfl; have H1 := hid (show St _ _ (_ :: .cells (B + 1 + 1 + 1) #[.int .i64 lo1, .int .i64 hi1] 99 :: _) _ _ from ((H2.out.set 1 rfl 0 (.int .i64 lo1)).set 1 rfl 1 (.int .i64 hi1))); go_simp
 refine hK.out _ _ (by (try dsimp only); exact ⟨H1.out.cell 0 rfl 0 rfl, H1.out.cell 0 rfl 1 rfl⟩) ?_; clear hK K hHeld; intro hHeld; try simp only [pz]
 clear z1 z2 z3 z4; generalize ((k1.setCell ⟨B + 1 + 1 + 1, 0, none⟩ (.int .i64 lo1)).setCell ⟨B + 1 + 1 + 1, 1, none⟩ (.int .i64 hi1)) = k1 at *; refine tk 13 ?_; refine wpAnyH_done (by kernel_rfl) ?_ _; try clear hHeld
 obtain ⟨z1, z2⟩ := H1.out.c2 1 rfl; go_wp2_with fail
 clear z1 z2; obtain ⟨q1, q2⟩ := H1.out.c2 1 rfl; refine bodyPost_ret (v := .tuple #[.agg #[.int .i64 lo1, .int .i64 hi1], .bool false]) ?_ rfl ⟨⟨_, _, by rw [show pwIok 5 g (xl, xh) (yl, yh) a b = false from by unfold pwIok; rw [if_pos rfl, HNb1.out]; rfl], fun h => by rw [show pwIok 5 g (xl, xh) (yl, yh) a b = false from by unfold pwIok; rw [if_pos rfl, HNb1.out]; rfl] at h; cases h⟩, H1.out.bl⟩; simp [results, Try.results84, go_sem, q1, q2]

set_option maxRecDepth 100000 in
set_option maxHeartbeats 3200000 in
theorem rnext_any_6 (g xl xh yl yh a b : Int) (W : World) (hxl : accOk xl = true) (hxh : accOk xh = true) (hyl : accOk yl = true) (hyh : accOk yh = true) : Calls Try.prog 84 #[.agg #[.int .i64 6, .int .i64 g], .agg #[.int .i64 xl, .int .i64 xh], .agg #[.int .i64 yl, .int .i64 yh], .int .i64 a, .int .i64 b] W fun e w' => (∃ lo hi, e = .returned (.tuple #[.agg #[.int .i64 lo, .int .i64 hi], .bool (pwIok 6 g (xl, xh) (yl, yh) a b)]) ∧ (pwIok 6 g (xl, xh) (yl, yh) a b = true → lo = (pwInt 6 g (xl, xh) (yl, yh) a b).1 ∧ hi = (pwInt 6 g (xl, xh) (yl, yh) a b).2)) ∧ Below W.heap.size W w' := by
 obtain ⟨xl1, xl2⟩ := accOk_iff.1 hxl; obtain ⟨xh1, xh2⟩ := accOk_iff.1 hxh; obtain ⟨yl1, yl2⟩ := accOk_iff.1 hyl; obtain ⟨yh1, yh2⟩ := accOk_iff.1 hyh; obtain ⟨B, hB⟩ : ∃ B, W.heap.size = B := ⟨_, rfl⟩; have HI0 := hid (St.init hB)
 go_enter Try.func84, Try.ntmps84
 go_upto_region 1 with fail
 have H1 := hid (show St _ _ (.cells (B + 1 + 1 + 1) _ _ :: .cells (B + 1 + 1) _ _ :: .cells (B + 1) _ _ :: .cells B _ _ :: _) _ _ from ((((HI0.out.alloc #[.int .i64 6, .int .i64 g] 57 hB).alloc #[.int .i64 xl, .int .i64 xh] 99 (by first | exact hB | simp [hB])).alloc #[.int .i64 yl, .int .i64 yh] 99 (by first | exact hB | simp [hB])).alloc #[.int .i64 0, .int .i64 0] 99 (by first | exact hB | simp [hB]))); first | refine gK H1 ?_ | refine gL H1 ?_ | refine gC H1 ?_
 clear H1; intro w1 H1; obtain ⟨mg, hmg⟩ : ∃ zz : Int, (if absI xl < absI xh then absI xh else absI xl) = zz := ⟨_, rfl⟩; have H2 := hid H1.out.drew; refine wp_region_held_drew (S := (fun w' => w'.cell? ⟨B + 1, 0, none⟩ = some (.int .i64 xl) ∧ w'.cell? ⟨B + 1, 1, none⟩ = some (.int .i64 xh))) (by kernel_rfl) ⟨H2.out.cell 2 rfl 0 rfl, H2.out.cell 2 rfl 1 rfl⟩ (fun hHeld => ?_); generalize w1.drew = k1 at *; refine tk 0 ?_; refine tk 1 ?_; refine tk 3 ?_; refine tk 4 ?_; refine rdy 2 fun K hK => ?_
 go_simp
 go_at_call 88
 refine (rabs_any _ (by omega) _).mono ?_; rintro e w1 ⟨rfl, hsw⟩; have hsw2 : k1 = w1 := by first | exact hsw | exact hsw.symm
 clear hsw; subst hsw2; refine hK.out _ _ (by (try dsimp only); exact ⟨H2.out.cell 2 rfl 0 rfl, H2.out.cell 2 rfl 1 rfl⟩) ?_; clear hK K hHeld; intro hHeld; try simp only [pz]
 refine rdy 5 fun K hK => ?_
 go_simp
 go_at_call 88
 refine (rabs_any _ (by omega) _).mono ?_; rintro e w1 ⟨rfl, hsw⟩; have hsw2 : k1 = w1 := by first | exact hsw | exact hsw.symm
 clear hsw; subst hsw2; refine hK.out _ _ (by (try dsimp only); exact ⟨H2.out.cell 2 rfl 0 rfl, H2.out.cell 2 rfl 1 rfl⟩) ?_; clear hK K hHeld; intro hHeld; try simp only [pz]
 refine tk 6 ?_; refine tk 7 ?_; refine wpAnyH_done (by kernel_rfl) ?_ _; try clear hHeld
 have HMG := hid (show mxI (absI xl) (absI xh) = mg from hmg); clear hmg; obtain ⟨mga, mgb⟩ : 0 ≤ mg ∧ mg ≤ 17592186044416 := by rw [← HMG.out]; exact mag_bd hxl hxh
 have mgw : IntKind.i64.wrap (-mg) = -mg := IntWalk.i64_in _ (by omega); obtain ⟨D1, hD1⟩ : ∃ D, k1.heap.size = D := ⟨_, rfl⟩; go_upto_region 3 with fail
 have H1 := hid (H2.out.alloc #[.int .i64 0, .int .i64 0] 99 hD1); first | refine gK H1 ?_ | refine gL H1 ?_ | refine gC H1 ?_
 clear H1; intro w1 H1; clear hD1; obtain ⟨m1, hm1⟩ : ∃ zz : Int, (if yl < xl then yl else xl) = zz := ⟨_, rfl⟩; obtain ⟨m2, hm2⟩ : ∃ zz : Int, (if yh < xh then yh else xh) = zz := ⟨_, rfl⟩; obtain ⟨z1, z2⟩ := H1.out.c2 4 rfl; obtain ⟨z3, z4⟩ := H1.out.c2 3 rfl; obtain ⟨z5, z6⟩ := H1.out.c2 2 rfl; obtain ⟨z7, z8, z9, z10⟩ := H1.out.f2 0 rfl; go_upto_region 27 with fail
 clear z1 z2 z3 z4 z5 z6 z7 z8 z9 z10; have HNm1 := hid hm1; clear hm1; have HNm2 := hid hm2; clear hm2; have H2 := hid (show St _ _ (.cells D1 #[.int .i64 m1, .int .i64 m2] 99 :: _) _ _ from ((H1.out.set 0 rfl 0 (.int .i64 m1)).set 0 rfl 1 (.int .i64 m2))); first | refine gK H2 ?_ | refine gL H2 ?_ | refine gC H2 ?_
 clear H2; intro w1 H2; have H1 := hid H2.out.drew; refine wp_region_held_drew (S := (fun w' => w'.cell? ⟨D1, 0, none⟩ = some (.int .i64 m1) ∧ w'.cell? ⟨D1, 1, none⟩ = some (.int .i64 m2))) (by kernel_rfl) ⟨H1.out.cell 0 rfl 0 rfl, H1.out.cell 0 rfl 1 rfl⟩ (fun hHeld => ?_); generalize w1.drew = k1 at *; refine tk 0 ?_; refine tk 1 ?_; refine tk 2 ?_; refine tk 3 ?_; refine tk 4 ?_; refine rdy 5 fun K hK => ?_
 go_simp
 go_at_call 79
 refine (racc_any _ _).mono ?_; rintro e w1 ⟨rfl, hsw⟩; have hsw2 : k1 = w1 := by first | exact hsw | exact hsw.symm
 clear hsw; subst hsw2; obtain ⟨b1, hb1⟩ : ∃ xx', accOk m1 = xx' := ⟨_, rfl⟩; rw [hb1]; have HNb1 := hid hb1; clear hb1; refine hK.out _ _ (by (try dsimp only); exact ⟨H1.out.cell 0 rfl 0 rfl, H1.out.cell 0 rfl 1 rfl⟩) ?_; clear hK K hHeld; intro hHeld; try simp only [pz]
 cases b1
 ·
  refine tk 6 ?_; refine tk 7 ?_; refine tu 8 ?_; refine tu 9 ?_; refine tu 10 ?_; refine tk 11 ?_; refine rdy 12 fun K hK => ?_
  obtain ⟨z1, z2, z3, z4⟩ := H1.out.f2 1 rfl; have H2 := hid (show St _ _ (_ :: .cells (B + 1 + 1 + 1) #[.int .i64 m1, .int .i64 m2] 99 :: _) _ _ from ((H1.out.set 1 rfl 0 (.int .i64 m1)).set 1 rfl 1 (.int .i64 m2))); go_simp
  refine hK.out _ _ (by (try dsimp only); exact ⟨H2.out.cell 0 rfl 0 rfl, H2.out.cell 0 rfl 1 rfl⟩) ?_; clear hK K hHeld; intro hHeld; try simp only [pz]
  clear z1 z2 z3 z4; generalize ((k1.setCell ⟨B + 1 + 1 + 1, 0, none⟩ (.int .i64 m1)).setCell ⟨B + 1 + 1 + 1, 1, none⟩ (.int .i64 m2)) = k2 at *; refine tk 13 ?_; refine wpAnyH_done (by kernel_rfl) ?_ _; try clear hHeld
  obtain ⟨z1, z2⟩ := H2.out.c2 1 rfl; go_wp2_with fail
  clear z1 z2; have hpk := hid (show pwIok 6 g (xl, xh) (yl, yh) a b = false from by unfold pwIok; rw [(show (pwInt 6 g (xl, xh) (yl, yh) a b).1 = m1 from by rw [← HNm1.out]; rfl), (show (pwInt 6 g (xl, xh) (yl, yh) a b).2 = m2 from by rw [← HNm2.out]; rfl), HNb1.out]; rfl); obtain ⟨q1, q2⟩ := H2.out.c2 1 rfl; refine bodyPost_ret (v := .tuple #[.agg #[.int .i64 m1, .int .i64 m2], .bool false]) ?_ rfl ⟨⟨_, _, by rw [hpk.out], fun _ => ⟨(show (pwInt 6 g (xl, xh) (yl, yh) a b).1 = m1 from by rw [← HNm1.out]; rfl).symm, (show (pwInt 6 g (xl, xh) (yl, yh) a b).2 = m2 from by rw [← HNm2.out]; rfl).symm⟩⟩, H2.out.bl⟩; simp [results, Try.results84, go_sem, q1, q2]
 refine tk 6 ?_; refine tk 7 ?_; refine tk 8 ?_; refine tk 9 ?_; refine rdy 10 fun K hK => ?_
 go_simp
 go_at_call 79
 refine (racc_any _ _).mono ?_; rintro e w1 ⟨rfl, hsw⟩; have hsw2 : k1 = w1 := by first | exact hsw | exact hsw.symm
 clear hsw; subst hsw2; obtain ⟨b1, hb1⟩ : ∃ xx', accOk m2 = xx' := ⟨_, rfl⟩; rw [hb1]; have HNb2 := hid hb1; clear hb1; refine hK.out _ _ (by (try dsimp only); exact ⟨H1.out.cell 0 rfl 0 rfl, H1.out.cell 0 rfl 1 rfl⟩) ?_; clear hK K hHeld; intro hHeld; try simp only [pz]
 refine tk 11 ?_; refine rdy 12 fun K hK => ?_
 obtain ⟨z1, z2, z3, z4⟩ := H1.out.f2 1 rfl; have H2 := hid (show St _ _ (_ :: .cells (B + 1 + 1 + 1) #[.int .i64 m1, .int .i64 m2] 99 :: _) _ _ from ((H1.out.set 1 rfl 0 (.int .i64 m1)).set 1 rfl 1 (.int .i64 m2))); go_simp
 refine hK.out _ _ (by (try dsimp only); exact ⟨H2.out.cell 0 rfl 0 rfl, H2.out.cell 0 rfl 1 rfl⟩) ?_; clear hK K hHeld; intro hHeld; try simp only [pz]
 clear z1 z2 z3 z4; generalize ((k1.setCell ⟨B + 1 + 1 + 1, 0, none⟩ (.int .i64 m1)).setCell ⟨B + 1 + 1 + 1, 1, none⟩ (.int .i64 m2)) = k1 at *; refine tk 13 ?_; refine wpAnyH_done (by kernel_rfl) ?_ _; try clear hHeld
 obtain ⟨z1, z2⟩ := H2.out.c2 1 rfl; go_wp2_with fail
 clear z1 z2; have hpk := hid (show pwIok 6 g (xl, xh) (yl, yh) a b = b1 from by unfold pwIok; rw [(show (pwInt 6 g (xl, xh) (yl, yh) a b).1 = m1 from by rw [← HNm1.out]; rfl), (show (pwInt 6 g (xl, xh) (yl, yh) a b).2 = m2 from by rw [← HNm2.out]; rfl), HNb1.out, HNb2.out]; rfl); obtain ⟨q1, q2⟩ := H2.out.c2 1 rfl; refine bodyPost_ret (v := .tuple #[.agg #[.int .i64 m1, .int .i64 m2], .bool b1]) ?_ rfl ⟨⟨_, _, by rw [hpk.out], fun _ => ⟨(show (pwInt 6 g (xl, xh) (yl, yh) a b).1 = m1 from by rw [← HNm1.out]; rfl).symm, (show (pwInt 6 g (xl, xh) (yl, yh) a b).2 = m2 from by rw [← HNm2.out]; rfl).symm⟩⟩, H2.out.bl⟩; simp [results, Try.results84, go_sem, q1, q2]

set_option maxRecDepth 100000 in
set_option maxHeartbeats 3200000 in
theorem rnext_any_7 (g xl xh yl yh a b : Int) (W : World) (hxl : accOk xl = true) (hxh : accOk xh = true) (hyl : accOk yl = true) (hyh : accOk yh = true) : Calls Try.prog 84 #[.agg #[.int .i64 7, .int .i64 g], .agg #[.int .i64 xl, .int .i64 xh], .agg #[.int .i64 yl, .int .i64 yh], .int .i64 a, .int .i64 b] W fun e w' => (∃ lo hi, e = .returned (.tuple #[.agg #[.int .i64 lo, .int .i64 hi], .bool (pwIok 7 g (xl, xh) (yl, yh) a b)]) ∧ (pwIok 7 g (xl, xh) (yl, yh) a b = true → lo = (pwInt 7 g (xl, xh) (yl, yh) a b).1 ∧ hi = (pwInt 7 g (xl, xh) (yl, yh) a b).2)) ∧ Below W.heap.size W w' := by
 obtain ⟨xl1, xl2⟩ := accOk_iff.1 hxl; obtain ⟨xh1, xh2⟩ := accOk_iff.1 hxh; obtain ⟨yl1, yl2⟩ := accOk_iff.1 hyl; obtain ⟨yh1, yh2⟩ := accOk_iff.1 hyh; obtain ⟨B, hB⟩ : ∃ B, W.heap.size = B := ⟨_, rfl⟩; have HI0 := hid (St.init hB)
 go_enter Try.func84, Try.ntmps84
 go_upto_region 1 with fail
 have H1 := hid (show St _ _ (.cells (B + 1 + 1 + 1) _ _ :: .cells (B + 1 + 1) _ _ :: .cells (B + 1) _ _ :: .cells B _ _ :: _) _ _ from ((((HI0.out.alloc #[.int .i64 7, .int .i64 g] 57 hB).alloc #[.int .i64 xl, .int .i64 xh] 99 (by first | exact hB | simp [hB])).alloc #[.int .i64 yl, .int .i64 yh] 99 (by first | exact hB | simp [hB])).alloc #[.int .i64 0, .int .i64 0] 99 (by first | exact hB | simp [hB]))); first | refine gK H1 ?_ | refine gL H1 ?_ | refine gC H1 ?_
 clear H1; intro w1 H1; obtain ⟨mg, hmg⟩ : ∃ zz : Int, (if absI xl < absI xh then absI xh else absI xl) = zz := ⟨_, rfl⟩; have H2 := hid H1.out.drew; refine wp_region_held_drew (S := (fun w' => w'.cell? ⟨B + 1, 0, none⟩ = some (.int .i64 xl) ∧ w'.cell? ⟨B + 1, 1, none⟩ = some (.int .i64 xh))) (by kernel_rfl) ⟨H2.out.cell 2 rfl 0 rfl, H2.out.cell 2 rfl 1 rfl⟩ (fun hHeld => ?_); generalize w1.drew = k1 at *; refine tk 0 ?_; refine tk 1 ?_; refine tk 3 ?_; refine tk 4 ?_; refine rdy 2 fun K hK => ?_
 go_simp
 go_at_call 88
 refine (rabs_any _ (by omega) _).mono ?_; rintro e w1 ⟨rfl, hsw⟩; have hsw2 : k1 = w1 := by first | exact hsw | exact hsw.symm
 clear hsw; subst hsw2; refine hK.out _ _ (by (try dsimp only); exact ⟨H2.out.cell 2 rfl 0 rfl, H2.out.cell 2 rfl 1 rfl⟩) ?_; clear hK K hHeld; intro hHeld; try simp only [pz]
 refine rdy 5 fun K hK => ?_
 go_simp
 go_at_call 88
 refine (rabs_any _ (by omega) _).mono ?_; rintro e w1 ⟨rfl, hsw⟩; have hsw2 : k1 = w1 := by first | exact hsw | exact hsw.symm
 clear hsw; subst hsw2; refine hK.out _ _ (by (try dsimp only); exact ⟨H2.out.cell 2 rfl 0 rfl, H2.out.cell 2 rfl 1 rfl⟩) ?_; clear hK K hHeld; intro hHeld; try simp only [pz]
 refine tk 6 ?_; refine tk 7 ?_; refine wpAnyH_done (by kernel_rfl) ?_ _; try clear hHeld
 have HMG := hid (show mxI (absI xl) (absI xh) = mg from hmg); clear hmg; obtain ⟨mga, mgb⟩ : 0 ≤ mg ∧ mg ≤ 17592186044416 := by rw [← HMG.out]; exact mag_bd hxl hxh
 have mgw : IntKind.i64.wrap (-mg) = -mg := IntWalk.i64_in _ (by omega); obtain ⟨D1, hD1⟩ : ∃ D, k1.heap.size = D := ⟨_, rfl⟩; go_upto_region 3 with fail
 have H1 := hid (H2.out.alloc #[.int .i64 0, .int .i64 0] 99 hD1); first | refine gK H1 ?_ | refine gL H1 ?_ | refine gC H1 ?_
 clear H1; intro w1 H1; clear hD1; obtain ⟨m1, hm1⟩ : ∃ zz : Int, (if xl < yl then yl else xl) = zz := ⟨_, rfl⟩; obtain ⟨m2, hm2⟩ : ∃ zz : Int, (if xh < yh then yh else xh) = zz := ⟨_, rfl⟩; obtain ⟨z1, z2⟩ := H1.out.c2 4 rfl; obtain ⟨z3, z4⟩ := H1.out.c2 3 rfl; obtain ⟨z5, z6⟩ := H1.out.c2 2 rfl; obtain ⟨z7, z8, z9, z10⟩ := H1.out.f2 0 rfl; go_upto_region 27 with fail
 clear z1 z2 z3 z4 z5 z6 z7 z8 z9 z10; have HNm1 := hid hm1; clear hm1; have HNm2 := hid hm2; clear hm2; have H2 := hid (show St _ _ (.cells D1 #[.int .i64 m1, .int .i64 m2] 99 :: _) _ _ from ((H1.out.set 0 rfl 0 (.int .i64 m1)).set 0 rfl 1 (.int .i64 m2))); first | refine gK H2 ?_ | refine gL H2 ?_ | refine gC H2 ?_
 clear H2; intro w1 H2; have H1 := hid H2.out.drew; refine wp_region_held_drew (S := (fun w' => w'.cell? ⟨D1, 0, none⟩ = some (.int .i64 m1) ∧ w'.cell? ⟨D1, 1, none⟩ = some (.int .i64 m2))) (by kernel_rfl) ⟨H1.out.cell 0 rfl 0 rfl, H1.out.cell 0 rfl 1 rfl⟩ (fun hHeld => ?_); generalize w1.drew = k1 at *; refine tk 0 ?_; refine tk 1 ?_; refine tk 2 ?_; refine tk 3 ?_; refine tk 4 ?_; refine rdy 5 fun K hK => ?_
 go_simp
 go_at_call 79
 refine (racc_any _ _).mono ?_; rintro e w1 ⟨rfl, hsw⟩; have hsw2 : k1 = w1 := by first | exact hsw | exact hsw.symm
 clear hsw; subst hsw2; obtain ⟨b1, hb1⟩ : ∃ xx', accOk m1 = xx' := ⟨_, rfl⟩; rw [hb1]; have HNb1 := hid hb1; clear hb1; refine hK.out _ _ (by (try dsimp only); exact ⟨H1.out.cell 0 rfl 0 rfl, H1.out.cell 0 rfl 1 rfl⟩) ?_; clear hK K hHeld; intro hHeld; try simp only [pz]
 cases b1
 ·
  refine tk 6 ?_; refine tk 7 ?_; refine tu 8 ?_; refine tu 9 ?_; refine tu 10 ?_; refine tk 11 ?_; refine rdy 12 fun K hK => ?_
  obtain ⟨z1, z2, z3, z4⟩ := H1.out.f2 1 rfl; have H2 := hid (show St _ _ (_ :: .cells (B + 1 + 1 + 1) #[.int .i64 m1, .int .i64 m2] 99 :: _) _ _ from ((H1.out.set 1 rfl 0 (.int .i64 m1)).set 1 rfl 1 (.int .i64 m2))); go_simp
  refine hK.out _ _ (by (try dsimp only); exact ⟨H2.out.cell 0 rfl 0 rfl, H2.out.cell 0 rfl 1 rfl⟩) ?_; clear hK K hHeld; intro hHeld; try simp only [pz]
  clear z1 z2 z3 z4; generalize ((k1.setCell ⟨B + 1 + 1 + 1, 0, none⟩ (.int .i64 m1)).setCell ⟨B + 1 + 1 + 1, 1, none⟩ (.int .i64 m2)) = k2 at *; refine tk 13 ?_; refine wpAnyH_done (by kernel_rfl) ?_ _; try clear hHeld
  obtain ⟨z1, z2⟩ := H2.out.c2 1 rfl; go_wp2_with fail
  clear z1 z2; have hpk := hid (show pwIok 7 g (xl, xh) (yl, yh) a b = false from by unfold pwIok; rw [(show (pwInt 7 g (xl, xh) (yl, yh) a b).1 = m1 from by rw [← HNm1.out]; rfl), (show (pwInt 7 g (xl, xh) (yl, yh) a b).2 = m2 from by rw [← HNm2.out]; rfl), HNb1.out]; rfl); obtain ⟨q1, q2⟩ := H2.out.c2 1 rfl; refine bodyPost_ret (v := .tuple #[.agg #[.int .i64 m1, .int .i64 m2], .bool false]) ?_ rfl ⟨⟨_, _, by rw [hpk.out], fun _ => ⟨(show (pwInt 7 g (xl, xh) (yl, yh) a b).1 = m1 from by rw [← HNm1.out]; rfl).symm, (show (pwInt 7 g (xl, xh) (yl, yh) a b).2 = m2 from by rw [← HNm2.out]; rfl).symm⟩⟩, H2.out.bl⟩; simp [results, Try.results84, go_sem, q1, q2]
 refine tk 6 ?_; refine tk 7 ?_; refine tk 8 ?_; refine tk 9 ?_; refine rdy 10 fun K hK => ?_
 go_simp
 go_at_call 79
 refine (racc_any _ _).mono ?_; rintro e w1 ⟨rfl, hsw⟩; have hsw2 : k1 = w1 := by first | exact hsw | exact hsw.symm
 clear hsw; subst hsw2; obtain ⟨b1, hb1⟩ : ∃ xx', accOk m2 = xx' := ⟨_, rfl⟩; rw [hb1]; have HNb2 := hid hb1; clear hb1; refine hK.out _ _ (by (try dsimp only); exact ⟨H1.out.cell 0 rfl 0 rfl, H1.out.cell 0 rfl 1 rfl⟩) ?_; clear hK K hHeld; intro hHeld; try simp only [pz]
 refine tk 11 ?_; refine rdy 12 fun K hK => ?_
 obtain ⟨z1, z2, z3, z4⟩ := H1.out.f2 1 rfl; have H2 := hid (show St _ _ (_ :: .cells (B + 1 + 1 + 1) #[.int .i64 m1, .int .i64 m2] 99 :: _) _ _ from ((H1.out.set 1 rfl 0 (.int .i64 m1)).set 1 rfl 1 (.int .i64 m2))); go_simp
 refine hK.out _ _ (by (try dsimp only); exact ⟨H2.out.cell 0 rfl 0 rfl, H2.out.cell 0 rfl 1 rfl⟩) ?_; clear hK K hHeld; intro hHeld; try simp only [pz]
 clear z1 z2 z3 z4; generalize ((k1.setCell ⟨B + 1 + 1 + 1, 0, none⟩ (.int .i64 m1)).setCell ⟨B + 1 + 1 + 1, 1, none⟩ (.int .i64 m2)) = k1 at *; refine tk 13 ?_; refine wpAnyH_done (by kernel_rfl) ?_ _; try clear hHeld
 obtain ⟨z1, z2⟩ := H2.out.c2 1 rfl; go_wp2_with fail
 clear z1 z2; have hpk := hid (show pwIok 7 g (xl, xh) (yl, yh) a b = b1 from by unfold pwIok; rw [(show (pwInt 7 g (xl, xh) (yl, yh) a b).1 = m1 from by rw [← HNm1.out]; rfl), (show (pwInt 7 g (xl, xh) (yl, yh) a b).2 = m2 from by rw [← HNm2.out]; rfl), HNb1.out, HNb2.out]; rfl); obtain ⟨q1, q2⟩ := H2.out.c2 1 rfl; refine bodyPost_ret (v := .tuple #[.agg #[.int .i64 m1, .int .i64 m2], .bool b1]) ?_ rfl ⟨⟨_, _, by rw [hpk.out], fun _ => ⟨(show (pwInt 7 g (xl, xh) (yl, yh) a b).1 = m1 from by rw [← HNm1.out]; rfl).symm, (show (pwInt 7 g (xl, xh) (yl, yh) a b).2 = m2 from by rw [← HNm2.out]; rfl).symm⟩⟩, H2.out.bl⟩; simp [results, Try.results84, go_sem, q1, q2]

set_option maxRecDepth 100000 in
set_option maxHeartbeats 3200000 in
theorem rnext_any_8 (g xl xh yl yh a b : Int) (W : World) (hxl : accOk xl = true) (hxh : accOk xh = true) (hyl : accOk yl = true) (hyh : accOk yh = true) : Calls Try.prog 84 #[.agg #[.int .i64 8, .int .i64 g], .agg #[.int .i64 xl, .int .i64 xh], .agg #[.int .i64 yl, .int .i64 yh], .int .i64 a, .int .i64 b] W fun e w' => (∃ lo hi, e = .returned (.tuple #[.agg #[.int .i64 lo, .int .i64 hi], .bool (pwIok 8 g (xl, xh) (yl, yh) a b)]) ∧ (pwIok 8 g (xl, xh) (yl, yh) a b = true → lo = (pwInt 8 g (xl, xh) (yl, yh) a b).1 ∧ hi = (pwInt 8 g (xl, xh) (yl, yh) a b).2)) ∧ Below W.heap.size W w' := by
 obtain ⟨xl1, xl2⟩ := accOk_iff.1 hxl; obtain ⟨xh1, xh2⟩ := accOk_iff.1 hxh; obtain ⟨yl1, yl2⟩ := accOk_iff.1 hyl; obtain ⟨yh1, yh2⟩ := accOk_iff.1 hyh; obtain ⟨B, hB⟩ : ∃ B, W.heap.size = B := ⟨_, rfl⟩; have HI0 := hid (St.init hB)
 go_enter Try.func84, Try.ntmps84
 go_upto_region 1 with fail
 have H1 := hid (show St _ _ (.cells (B + 1 + 1 + 1) _ _ :: .cells (B + 1 + 1) _ _ :: .cells (B + 1) _ _ :: .cells B _ _ :: _) _ _ from ((((HI0.out.alloc #[.int .i64 8, .int .i64 g] 57 hB).alloc #[.int .i64 xl, .int .i64 xh] 99 (by first | exact hB | simp [hB])).alloc #[.int .i64 yl, .int .i64 yh] 99 (by first | exact hB | simp [hB])).alloc #[.int .i64 0, .int .i64 0] 99 (by first | exact hB | simp [hB]))); first | refine gK H1 ?_ | refine gL H1 ?_ | refine gC H1 ?_
 clear H1; intro w1 H1; obtain ⟨mg, hmg⟩ : ∃ zz : Int, (if absI xl < absI xh then absI xh else absI xl) = zz := ⟨_, rfl⟩; have H2 := hid H1.out.drew; refine wp_region_held_drew (S := (fun w' => w'.cell? ⟨B + 1, 0, none⟩ = some (.int .i64 xl) ∧ w'.cell? ⟨B + 1, 1, none⟩ = some (.int .i64 xh))) (by kernel_rfl) ⟨H2.out.cell 2 rfl 0 rfl, H2.out.cell 2 rfl 1 rfl⟩ (fun hHeld => ?_); generalize w1.drew = k1 at *; refine tk 0 ?_; refine tk 1 ?_; refine tk 3 ?_; refine tk 4 ?_; refine rdy 2 fun K hK => ?_
 go_simp
 go_at_call 88
 refine (rabs_any _ (by omega) _).mono ?_; rintro e w1 ⟨rfl, hsw⟩; have hsw2 : k1 = w1 := by first | exact hsw | exact hsw.symm
 clear hsw; subst hsw2; refine hK.out _ _ (by (try dsimp only); exact ⟨H2.out.cell 2 rfl 0 rfl, H2.out.cell 2 rfl 1 rfl⟩) ?_; clear hK K hHeld; intro hHeld; try simp only [pz]
 refine rdy 5 fun K hK => ?_
 go_simp
 go_at_call 88
 refine (rabs_any _ (by omega) _).mono ?_; rintro e w1 ⟨rfl, hsw⟩; have hsw2 : k1 = w1 := by first | exact hsw | exact hsw.symm
 clear hsw; subst hsw2; refine hK.out _ _ (by (try dsimp only); exact ⟨H2.out.cell 2 rfl 0 rfl, H2.out.cell 2 rfl 1 rfl⟩) ?_; clear hK K hHeld; intro hHeld; try simp only [pz]
 refine tk 6 ?_; refine tk 7 ?_; refine wpAnyH_done (by kernel_rfl) ?_ _; try clear hHeld
 have HMG := hid (show mxI (absI xl) (absI xh) = mg from hmg); clear hmg; obtain ⟨mga, mgb⟩ : 0 ≤ mg ∧ mg ≤ 17592186044416 := by rw [← HMG.out]; exact mag_bd hxl hxh
 have mgw : IntKind.i64.wrap (-mg) = -mg := IntWalk.i64_in _ (by omega); obtain ⟨D1, hD1⟩ : ∃ D, k1.heap.size = D := ⟨_, rfl⟩; go_upto_region 3 with fail
 have H1 := hid (H2.out.alloc #[.int .i64 0, .int .i64 0] 99 hD1); first | refine gK H1 ?_ | refine gL H1 ?_ | refine gC H1 ?_
 clear H1; intro w1 H1; clear hD1; obtain ⟨m1, hm1⟩ : ∃ zz : Int, (if (xh - yl) < (yh - xl) then yh - xl else xh - yl) = zz := ⟨_, rfl⟩; obtain ⟨z1, z2⟩ := H1.out.c2 4 rfl; obtain ⟨z3, z4⟩ := H1.out.c2 3 rfl; obtain ⟨z5, z6⟩ := H1.out.c2 2 rfl; obtain ⟨z7, z8, z9, z10⟩ := H1.out.f2 0 rfl; go_upto_region 27 with fail
 clear z1 z2 z3 z4 z5 z6 z7 z8 z9 z10; have HNm1 := hid hm1; clear hm1; have H2 := hid (show St _ _ (.cells D1 #[.int .i64 0, .int .i64 m1] 99 :: _) _ _ from ((H1.out.set 0 rfl 0 (.int .i64 0)).set 0 rfl 1 (.int .i64 m1))); first | refine gK H2 ?_ | refine gL H2 ?_ | refine gC H2 ?_
 clear H2; intro w1 H2; have H1 := hid H2.out.drew; refine wp_region_held_drew (S := (fun w' => w'.cell? ⟨D1, 0, none⟩ = some (.int .i64 0) ∧ w'.cell? ⟨D1, 1, none⟩ = some (.int .i64 m1))) (by kernel_rfl) ⟨H1.out.cell 0 rfl 0 rfl, H1.out.cell 0 rfl 1 rfl⟩ (fun hHeld => ?_); generalize w1.drew = k1 at *; refine tk 0 ?_; refine tk 1 ?_; refine tk 2 ?_; refine tk 3 ?_; refine tk 4 ?_; refine rdy 5 fun K hK => ?_
 go_simp
 go_at_call 79
 refine (racc_any _ _).mono ?_; rintro e w1 ⟨rfl, hsw⟩; have hsw2 : k1 = w1 := by first | exact hsw | exact hsw.symm
 clear hsw; subst hsw2; obtain ⟨b1, hb1⟩ : ∃ xx', accOk 0 = xx' := ⟨_, rfl⟩; rw [hb1]; have HNb1 := hid hb1; clear hb1; refine hK.out _ _ (by (try dsimp only); exact ⟨H1.out.cell 0 rfl 0 rfl, H1.out.cell 0 rfl 1 rfl⟩) ?_; clear hK K hHeld; intro hHeld; try simp only [pz]
 cases b1
 ·
  refine tk 6 ?_; refine tk 7 ?_; refine tu 8 ?_; refine tu 9 ?_; refine tu 10 ?_; refine tk 11 ?_; refine rdy 12 fun K hK => ?_
  obtain ⟨z1, z2, z3, z4⟩ := H1.out.f2 1 rfl; have H2 := hid (show St _ _ (_ :: .cells (B + 1 + 1 + 1) #[.int .i64 0, .int .i64 m1] 99 :: _) _ _ from ((H1.out.set 1 rfl 0 (.int .i64 0)).set 1 rfl 1 (.int .i64 m1))); go_simp
  refine hK.out _ _ (by (try dsimp only); exact ⟨H2.out.cell 0 rfl 0 rfl, H2.out.cell 0 rfl 1 rfl⟩) ?_; clear hK K hHeld; intro hHeld; try simp only [pz]
  clear z1 z2 z3 z4; generalize ((k1.setCell ⟨B + 1 + 1 + 1, 0, none⟩ (.int .i64 0)).setCell ⟨B + 1 + 1 + 1, 1, none⟩ (.int .i64 m1)) = k2 at *; refine tk 13 ?_; refine wpAnyH_done (by kernel_rfl) ?_ _; try clear hHeld
  obtain ⟨z1, z2⟩ := H2.out.c2 1 rfl; go_wp2_with fail
  clear z1 z2; have hpk := hid (show pwIok 8 g (xl, xh) (yl, yh) a b = false from by unfold pwIok; rw [(show (pwInt 8 g (xl, xh) (yl, yh) a b).1 = 0 from rfl), (show (pwInt 8 g (xl, xh) (yl, yh) a b).2 = m1 from by rw [← HNm1.out]; rfl), HNb1.out]; rfl); obtain ⟨q1, q2⟩ := H2.out.c2 1 rfl; refine bodyPost_ret (v := .tuple #[.agg #[.int .i64 0, .int .i64 m1], .bool false]) ?_ rfl ⟨⟨_, _, by rw [hpk.out], fun _ => ⟨(show (pwInt 8 g (xl, xh) (yl, yh) a b).1 = 0 from rfl).symm, (show (pwInt 8 g (xl, xh) (yl, yh) a b).2 = m1 from by rw [← HNm1.out]; rfl).symm⟩⟩, H2.out.bl⟩; simp [results, Try.results84, go_sem, q1, q2]
 refine tk 6 ?_; refine tk 7 ?_; refine tk 8 ?_; refine tk 9 ?_; refine rdy 10 fun K hK => ?_
 go_simp
 go_at_call 79
 refine (racc_any _ _).mono ?_; rintro e w1 ⟨rfl, hsw⟩; have hsw2 : k1 = w1 := by first | exact hsw | exact hsw.symm
 clear hsw; subst hsw2; obtain ⟨b1, hb1⟩ : ∃ xx', accOk m1 = xx' := ⟨_, rfl⟩; rw [hb1]; have HNb2 := hid hb1; clear hb1; refine hK.out _ _ (by (try dsimp only); exact ⟨H1.out.cell 0 rfl 0 rfl, H1.out.cell 0 rfl 1 rfl⟩) ?_; clear hK K hHeld; intro hHeld; try simp only [pz]
 refine tk 11 ?_; refine rdy 12 fun K hK => ?_
 obtain ⟨z1, z2, z3, z4⟩ := H1.out.f2 1 rfl; have H2 := hid (show St _ _ (_ :: .cells (B + 1 + 1 + 1) #[.int .i64 0, .int .i64 m1] 99 :: _) _ _ from ((H1.out.set 1 rfl 0 (.int .i64 0)).set 1 rfl 1 (.int .i64 m1))); go_simp
 refine hK.out _ _ (by (try dsimp only); exact ⟨H2.out.cell 0 rfl 0 rfl, H2.out.cell 0 rfl 1 rfl⟩) ?_; clear hK K hHeld; intro hHeld; try simp only [pz]
 clear z1 z2 z3 z4; generalize ((k1.setCell ⟨B + 1 + 1 + 1, 0, none⟩ (.int .i64 0)).setCell ⟨B + 1 + 1 + 1, 1, none⟩ (.int .i64 m1)) = k1 at *; refine tk 13 ?_; refine wpAnyH_done (by kernel_rfl) ?_ _; try clear hHeld
 obtain ⟨z1, z2⟩ := H2.out.c2 1 rfl; go_wp2_with fail
 clear z1 z2; have hpk := hid (show pwIok 8 g (xl, xh) (yl, yh) a b = b1 from by unfold pwIok; rw [(show (pwInt 8 g (xl, xh) (yl, yh) a b).1 = 0 from rfl), (show (pwInt 8 g (xl, xh) (yl, yh) a b).2 = m1 from by rw [← HNm1.out]; rfl), HNb1.out, HNb2.out]; rfl); obtain ⟨q1, q2⟩ := H2.out.c2 1 rfl; refine bodyPost_ret (v := .tuple #[.agg #[.int .i64 0, .int .i64 m1], .bool b1]) ?_ rfl ⟨⟨_, _, by rw [hpk.out], fun _ => ⟨(show (pwInt 8 g (xl, xh) (yl, yh) a b).1 = 0 from rfl).symm, (show (pwInt 8 g (xl, xh) (yl, yh) a b).2 = m1 from by rw [← HNm1.out]; rfl).symm⟩⟩, H2.out.bl⟩; simp [results, Try.results84, go_sem, q1, q2]

set_option maxRecDepth 100000 in
set_option maxHeartbeats 3200000 in
theorem rnext_any_9 (g xl xh yl yh a b : Int) (W : World) (hxl : accOk xl = true) (hxh : accOk xh = true) (hyl : accOk yl = true) (hyh : accOk yh = true) : Calls Try.prog 84 #[.agg #[.int .i64 9, .int .i64 g], .agg #[.int .i64 xl, .int .i64 xh], .agg #[.int .i64 yl, .int .i64 yh], .int .i64 a, .int .i64 b] W fun e w' => (∃ lo hi, e = .returned (.tuple #[.agg #[.int .i64 lo, .int .i64 hi], .bool (pwIok 9 g (xl, xh) (yl, yh) a b)]) ∧ (pwIok 9 g (xl, xh) (yl, yh) a b = true → lo = (pwInt 9 g (xl, xh) (yl, yh) a b).1 ∧ hi = (pwInt 9 g (xl, xh) (yl, yh) a b).2)) ∧ Below W.heap.size W w' := by
 obtain ⟨xl1, xl2⟩ := accOk_iff.1 hxl; obtain ⟨xh1, xh2⟩ := accOk_iff.1 hxh; obtain ⟨yl1, yl2⟩ := accOk_iff.1 hyl; obtain ⟨yh1, yh2⟩ := accOk_iff.1 hyh; obtain ⟨B, hB⟩ : ∃ B, W.heap.size = B := ⟨_, rfl⟩; have HI0 := hid (St.init hB)
 go_enter Try.func84, Try.ntmps84
 go_upto_region 1 with fail
 have H1 := hid (show St _ _ (.cells (B + 1 + 1 + 1) _ _ :: .cells (B + 1 + 1) _ _ :: .cells (B + 1) _ _ :: .cells B _ _ :: _) _ _ from ((((HI0.out.alloc #[.int .i64 9, .int .i64 g] 57 hB).alloc #[.int .i64 xl, .int .i64 xh] 99 (by first | exact hB | simp [hB])).alloc #[.int .i64 yl, .int .i64 yh] 99 (by first | exact hB | simp [hB])).alloc #[.int .i64 0, .int .i64 0] 99 (by first | exact hB | simp [hB]))); first | refine gK H1 ?_ | refine gL H1 ?_ | refine gC H1 ?_
 clear H1; intro w1 H1; obtain ⟨mg, hmg⟩ : ∃ zz : Int, (if absI xl < absI xh then absI xh else absI xl) = zz := ⟨_, rfl⟩; have H2 := hid H1.out.drew; refine wp_region_held_drew (S := (fun w' => w'.cell? ⟨B + 1, 0, none⟩ = some (.int .i64 xl) ∧ w'.cell? ⟨B + 1, 1, none⟩ = some (.int .i64 xh))) (by kernel_rfl) ⟨H2.out.cell 2 rfl 0 rfl, H2.out.cell 2 rfl 1 rfl⟩ (fun hHeld => ?_); generalize w1.drew = k1 at *; refine tk 0 ?_; refine tk 1 ?_; refine tk 3 ?_; refine tk 4 ?_; refine rdy 2 fun K hK => ?_
 go_simp
 go_at_call 88
 refine (rabs_any _ (by omega) _).mono ?_; rintro e w1 ⟨rfl, hsw⟩; have hsw2 : k1 = w1 := by first | exact hsw | exact hsw.symm
 clear hsw; subst hsw2; refine hK.out _ _ (by (try dsimp only); exact ⟨H2.out.cell 2 rfl 0 rfl, H2.out.cell 2 rfl 1 rfl⟩) ?_; clear hK K hHeld; intro hHeld; try simp only [pz]
 refine rdy 5 fun K hK => ?_
 go_simp
 go_at_call 88
 refine (rabs_any _ (by omega) _).mono ?_; rintro e w1 ⟨rfl, hsw⟩; have hsw2 : k1 = w1 := by first | exact hsw | exact hsw.symm
 clear hsw; subst hsw2; refine hK.out _ _ (by (try dsimp only); exact ⟨H2.out.cell 2 rfl 0 rfl, H2.out.cell 2 rfl 1 rfl⟩) ?_; clear hK K hHeld; intro hHeld; try simp only [pz]
 refine tk 6 ?_; refine tk 7 ?_; refine wpAnyH_done (by kernel_rfl) ?_ _; try clear hHeld
 have HMG := hid (show mxI (absI xl) (absI xh) = mg from hmg); clear hmg; obtain ⟨mga, mgb⟩ : 0 ≤ mg ∧ mg ≤ 17592186044416 := by rw [← HMG.out]; exact mag_bd hxl hxh
 have mgw : IntKind.i64.wrap (-mg) = -mg := IntWalk.i64_in _ (by omega); obtain ⟨D1, hD1⟩ : ∃ D, k1.heap.size = D := ⟨_, rfl⟩; go_upto_region 3 with fail
 have H1 := hid (H2.out.alloc #[.int .i64 0, .int .i64 0] 99 hD1); first | refine gK H1 ?_ | refine gL H1 ?_ | refine gC H1 ?_
 clear H1; intro w1 H1; clear hD1; obtain ⟨z1, z2⟩ := H1.out.c2 4 rfl; obtain ⟨z3, z4, z5, z6⟩ := H1.out.f2 0 rfl; go_upto_region 27 with fail
 clear z1 z2 z3 z4 z5 z6; have H2 := hid (show St _ _ (.cells D1 #[.int .i64 (-mg), .int .i64 mg] 99 :: _) _ _ from ((H1.out.set 0 rfl 0 (.int .i64 (-mg))).set 0 rfl 1 (.int .i64 mg))); first | refine gK H2 ?_ | refine gL H2 ?_ | refine gC H2 ?_
 clear H2; intro w1 H2; have H1 := hid H2.out.drew; refine wp_region_held_drew (S := (fun w' => w'.cell? ⟨D1, 0, none⟩ = some (.int .i64 (-mg)) ∧ w'.cell? ⟨D1, 1, none⟩ = some (.int .i64 mg))) (by kernel_rfl) ⟨H1.out.cell 0 rfl 0 rfl, H1.out.cell 0 rfl 1 rfl⟩ (fun hHeld => ?_); generalize w1.drew = k1 at *; refine tk 0 ?_; refine tk 1 ?_; refine tk 2 ?_; refine tk 3 ?_; refine tk 4 ?_; refine rdy 5 fun K hK => ?_
 go_simp
 go_at_call 79
 refine (racc_any _ _).mono ?_; rintro e w1 ⟨rfl, hsw⟩; have hsw2 : k1 = w1 := by first | exact hsw | exact hsw.symm
 clear hsw; subst hsw2; obtain ⟨b1, hb1⟩ : ∃ xx', accOk (-mg) = xx' := ⟨_, rfl⟩; rw [hb1]; have HNb1 := hid hb1; clear hb1; refine hK.out _ _ (by (try dsimp only); exact ⟨H1.out.cell 0 rfl 0 rfl, H1.out.cell 0 rfl 1 rfl⟩) ?_; clear hK K hHeld; intro hHeld; try simp only [pz]
 cases b1
 ·
  refine tk 6 ?_; refine tk 7 ?_; refine tu 8 ?_; refine tu 9 ?_; refine tu 10 ?_; refine tk 11 ?_; refine rdy 12 fun K hK => ?_
  obtain ⟨z1, z2, z3, z4⟩ := H1.out.f2 1 rfl; have H2 := hid (show St _ _ (_ :: .cells (B + 1 + 1 + 1) #[.int .i64 (-mg), .int .i64 mg] 99 :: _) _ _ from ((H1.out.set 1 rfl 0 (.int .i64 (-mg))).set 1 rfl 1 (.int .i64 mg))); go_simp
  refine hK.out _ _ (by (try dsimp only); exact ⟨H2.out.cell 0 rfl 0 rfl, H2.out.cell 0 rfl 1 rfl⟩) ?_; clear hK K hHeld; intro hHeld; try simp only [pz]
  clear z1 z2 z3 z4; generalize ((k1.setCell ⟨B + 1 + 1 + 1, 0, none⟩ (.int .i64 (-mg))).setCell ⟨B + 1 + 1 + 1, 1, none⟩ (.int .i64 mg)) = k2 at *; refine tk 13 ?_; refine wpAnyH_done (by kernel_rfl) ?_ _; try clear hHeld
  obtain ⟨z1, z2⟩ := H2.out.c2 1 rfl; go_wp2_with fail
  clear z1 z2; have hpk := hid (show pwIok 9 g (xl, xh) (yl, yh) a b = false from by unfold pwIok; rw [(show (pwInt 9 g (xl, xh) (yl, yh) a b).1 = -mg from by rw [← HMG.out]; rfl), (show (pwInt 9 g (xl, xh) (yl, yh) a b).2 = mg from HMG.out), HNb1.out]; rfl); obtain ⟨q1, q2⟩ := H2.out.c2 1 rfl; refine bodyPost_ret (v := .tuple #[.agg #[.int .i64 (-mg), .int .i64 mg], .bool false]) ?_ rfl ⟨⟨_, _, by rw [hpk.out], fun _ => ⟨(show (pwInt 9 g (xl, xh) (yl, yh) a b).1 = -mg from by rw [← HMG.out]; rfl).symm, (show (pwInt 9 g (xl, xh) (yl, yh) a b).2 = mg from HMG.out).symm⟩⟩, H2.out.bl⟩; simp [results, Try.results84, go_sem, q1, q2]
 refine tk 6 ?_; refine tk 7 ?_; refine tk 8 ?_; refine tk 9 ?_; refine rdy 10 fun K hK => ?_
 go_simp
 go_at_call 79
 refine (racc_any _ _).mono ?_; rintro e w1 ⟨rfl, hsw⟩; have hsw2 : k1 = w1 := by first | exact hsw | exact hsw.symm
 clear hsw; subst hsw2; obtain ⟨b1, hb1⟩ : ∃ xx', accOk mg = xx' := ⟨_, rfl⟩; rw [hb1]; have HNb2 := hid hb1; clear hb1; refine hK.out _ _ (by (try dsimp only); exact ⟨H1.out.cell 0 rfl 0 rfl, H1.out.cell 0 rfl 1 rfl⟩) ?_; clear hK K hHeld; intro hHeld; try simp only [pz]
 refine tk 11 ?_; refine rdy 12 fun K hK => ?_
 obtain ⟨z1, z2, z3, z4⟩ := H1.out.f2 1 rfl; have H2 := hid (show St _ _ (_ :: .cells (B + 1 + 1 + 1) #[.int .i64 (-mg), .int .i64 mg] 99 :: _) _ _ from ((H1.out.set 1 rfl 0 (.int .i64 (-mg))).set 1 rfl 1 (.int .i64 mg))); go_simp
 refine hK.out _ _ (by (try dsimp only); exact ⟨H2.out.cell 0 rfl 0 rfl, H2.out.cell 0 rfl 1 rfl⟩) ?_; clear hK K hHeld; intro hHeld; try simp only [pz]
 clear z1 z2 z3 z4; generalize ((k1.setCell ⟨B + 1 + 1 + 1, 0, none⟩ (.int .i64 (-mg))).setCell ⟨B + 1 + 1 + 1, 1, none⟩ (.int .i64 mg)) = k1 at *; refine tk 13 ?_; refine wpAnyH_done (by kernel_rfl) ?_ _; try clear hHeld
 obtain ⟨z1, z2⟩ := H2.out.c2 1 rfl; go_wp2_with fail
 clear z1 z2; have hpk := hid (show pwIok 9 g (xl, xh) (yl, yh) a b = b1 from by unfold pwIok; rw [(show (pwInt 9 g (xl, xh) (yl, yh) a b).1 = -mg from by rw [← HMG.out]; rfl), (show (pwInt 9 g (xl, xh) (yl, yh) a b).2 = mg from HMG.out), HNb1.out, HNb2.out]; rfl); obtain ⟨q1, q2⟩ := H2.out.c2 1 rfl; refine bodyPost_ret (v := .tuple #[.agg #[.int .i64 (-mg), .int .i64 mg], .bool b1]) ?_ rfl ⟨⟨_, _, by rw [hpk.out], fun _ => ⟨(show (pwInt 9 g (xl, xh) (yl, yh) a b).1 = -mg from by rw [← HMG.out]; rfl).symm, (show (pwInt 9 g (xl, xh) (yl, yh) a b).2 = mg from HMG.out).symm⟩⟩, H2.out.bl⟩; simp [results, Try.results84, go_sem, q1, q2]

set_option maxRecDepth 100000 in
set_option maxHeartbeats 3200000 in
theorem rnext_any_10 (g xl xh yl yh a b : Int) (W : World) (hxl : accOk xl = true) (hxh : accOk xh = true) (hyl : accOk yl = true) (hyh : accOk yh = true) : Calls Try.prog 84 #[.agg #[.int .i64 10, .int .i64 g], .agg #[.int .i64 xl, .int .i64 xh], .agg #[.int .i64 yl, .int .i64 yh], .int .i64 a, .int .i64 b] W fun e w' => (∃ lo hi, e = .returned (.tuple #[.agg #[.int .i64 lo, .int .i64 hi], .bool (pwIok 10 g (xl, xh) (yl, yh) a b)]) ∧ (pwIok 10 g (xl, xh) (yl, yh) a b = true → lo = (pwInt 10 g (xl, xh) (yl, yh) a b).1 ∧ hi = (pwInt 10 g (xl, xh) (yl, yh) a b).2)) ∧ Below W.heap.size W w' := by
 obtain ⟨xl1, xl2⟩ := accOk_iff.1 hxl; obtain ⟨xh1, xh2⟩ := accOk_iff.1 hxh; obtain ⟨yl1, yl2⟩ := accOk_iff.1 hyl; obtain ⟨yh1, yh2⟩ := accOk_iff.1 hyh; obtain ⟨B, hB⟩ : ∃ B, W.heap.size = B := ⟨_, rfl⟩; have HI0 := hid (St.init hB)
 go_enter Try.func84, Try.ntmps84
 go_upto_region 1 with fail
 have H1 := hid (show St _ _ (.cells (B + 1 + 1 + 1) _ _ :: .cells (B + 1 + 1) _ _ :: .cells (B + 1) _ _ :: .cells B _ _ :: _) _ _ from ((((HI0.out.alloc #[.int .i64 10, .int .i64 g] 57 hB).alloc #[.int .i64 xl, .int .i64 xh] 99 (by first | exact hB | simp [hB])).alloc #[.int .i64 yl, .int .i64 yh] 99 (by first | exact hB | simp [hB])).alloc #[.int .i64 0, .int .i64 0] 99 (by first | exact hB | simp [hB]))); first | refine gK H1 ?_ | refine gL H1 ?_ | refine gC H1 ?_
 clear H1; intro w1 H1; obtain ⟨mg, hmg⟩ : ∃ zz : Int, (if absI xl < absI xh then absI xh else absI xl) = zz := ⟨_, rfl⟩; have H2 := hid H1.out.drew; refine wp_region_held_drew (S := (fun w' => w'.cell? ⟨B + 1, 0, none⟩ = some (.int .i64 xl) ∧ w'.cell? ⟨B + 1, 1, none⟩ = some (.int .i64 xh))) (by kernel_rfl) ⟨H2.out.cell 2 rfl 0 rfl, H2.out.cell 2 rfl 1 rfl⟩ (fun hHeld => ?_); generalize w1.drew = k1 at *; refine tk 0 ?_; refine tk 1 ?_; refine tk 3 ?_; refine tk 4 ?_; refine rdy 2 fun K hK => ?_
 go_simp
 go_at_call 88
 refine (rabs_any _ (by omega) _).mono ?_; rintro e w1 ⟨rfl, hsw⟩; have hsw2 : k1 = w1 := by first | exact hsw | exact hsw.symm
 clear hsw; subst hsw2; refine hK.out _ _ (by (try dsimp only); exact ⟨H2.out.cell 2 rfl 0 rfl, H2.out.cell 2 rfl 1 rfl⟩) ?_; clear hK K hHeld; intro hHeld; try simp only [pz]
 refine rdy 5 fun K hK => ?_
 go_simp
 go_at_call 88
 refine (rabs_any _ (by omega) _).mono ?_; rintro e w1 ⟨rfl, hsw⟩; have hsw2 : k1 = w1 := by first | exact hsw | exact hsw.symm
 clear hsw; subst hsw2; refine hK.out _ _ (by (try dsimp only); exact ⟨H2.out.cell 2 rfl 0 rfl, H2.out.cell 2 rfl 1 rfl⟩) ?_; clear hK K hHeld; intro hHeld; try simp only [pz]
 refine tk 6 ?_; refine tk 7 ?_; refine wpAnyH_done (by kernel_rfl) ?_ _; try clear hHeld
 have HMG := hid (show mxI (absI xl) (absI xh) = mg from hmg); clear hmg; obtain ⟨mga, mgb⟩ : 0 ≤ mg ∧ mg ≤ 17592186044416 := by rw [← HMG.out]; exact mag_bd hxl hxh
 have mgw : IntKind.i64.wrap (-mg) = -mg := IntWalk.i64_in _ (by omega); obtain ⟨D1, hD1⟩ : ∃ D, k1.heap.size = D := ⟨_, rfl⟩; go_upto_region 3 with fail
 have H1 := hid (H2.out.alloc #[.int .i64 0, .int .i64 0] 99 hD1); first | refine gK H1 ?_ | refine gL H1 ?_ | refine gC H1 ?_
 clear H1; intro w1 H1; clear hD1; obtain ⟨z1, z2⟩ := H1.out.c2 4 rfl; obtain ⟨z3, z4⟩ := H1.out.c2 3 rfl; go_wp2_with fail
 clear z1 z2 z3 z4; refine (rspan_any _ _ _ _).mono ?_; rintro e w2 ⟨rfl, hsw⟩; have hsw2 : w1 = w2 := by first | exact hsw | exact hsw.symm
 clear hsw; subst hsw2; obtain ⟨t1, ht1⟩ : ∃ xx', shV xl g = xx' := ⟨_, rfl⟩; rw [ht1]; have HNt1 := hid ht1; clear ht1; obtain ⟨t2, ht1⟩ : ∃ xx', shV xh g = xx' := ⟨_, rfl⟩; rw [ht1]; have HNt2 := hid ht1; clear ht1; obtain ⟨z1, z2, z3, z4⟩ := H1.out.f2 0 rfl; go_upto_region 27 with fail
 clear z1 z2 z3 z4; have H2 := hid (show St _ _ (.cells D1 #[.int .i64 t1, .int .i64 t2] 99 :: _) _ _ from ((H1.out.set 0 rfl 0 (.int .i64 t1)).set 0 rfl 1 (.int .i64 t2))); first | refine gK H2 ?_ | refine gL H2 ?_ | refine gC H2 ?_
 clear H2; intro w1 H2; have H1 := hid H2.out.drew; refine wp_region_held_drew (S := (fun w' => w'.cell? ⟨D1, 0, none⟩ = some (.int .i64 t1) ∧ w'.cell? ⟨D1, 1, none⟩ = some (.int .i64 t2))) (by kernel_rfl) ⟨H1.out.cell 0 rfl 0 rfl, H1.out.cell 0 rfl 1 rfl⟩ (fun hHeld => ?_); generalize w1.drew = k1 at *; refine tk 0 ?_; refine tk 1 ?_; refine tk 2 ?_; refine tk 3 ?_; refine tk 4 ?_; refine rdy 5 fun K hK => ?_
 go_simp
 go_at_call 79
 refine (racc_any _ _).mono ?_; rintro e w1 ⟨rfl, hsw⟩; have hsw2 : k1 = w1 := by first | exact hsw | exact hsw.symm
 clear hsw; subst hsw2; obtain ⟨b1, hb1⟩ : ∃ xx', accOk t1 = xx' := ⟨_, rfl⟩; rw [hb1]; have HNb1 := hid hb1; clear hb1; refine hK.out _ _ (by (try dsimp only); exact ⟨H1.out.cell 0 rfl 0 rfl, H1.out.cell 0 rfl 1 rfl⟩) ?_; clear hK K hHeld; intro hHeld; try simp only [pz]
 cases b1
 ·
  refine tk 6 ?_; refine tk 7 ?_; refine tu 8 ?_; refine tu 9 ?_; refine tu 10 ?_; refine tk 11 ?_; refine rdy 12 fun K hK => ?_
  obtain ⟨z1, z2, z3, z4⟩ := H1.out.f2 1 rfl; have H2 := hid (show St _ _ (_ :: .cells (B + 1 + 1 + 1) #[.int .i64 t1, .int .i64 t2] 99 :: _) _ _ from ((H1.out.set 1 rfl 0 (.int .i64 t1)).set 1 rfl 1 (.int .i64 t2))); go_simp
  refine hK.out _ _ (by (try dsimp only); exact ⟨H2.out.cell 0 rfl 0 rfl, H2.out.cell 0 rfl 1 rfl⟩) ?_; clear hK K hHeld; intro hHeld; try simp only [pz]
  clear z1 z2 z3 z4; generalize ((k1.setCell ⟨B + 1 + 1 + 1, 0, none⟩ (.int .i64 t1)).setCell ⟨B + 1 + 1 + 1, 1, none⟩ (.int .i64 t2)) = k2 at *; refine tk 13 ?_; refine wpAnyH_done (by kernel_rfl) ?_ _; try clear hHeld
  obtain ⟨z1, z2⟩ := H2.out.c2 1 rfl; go_wp2_with fail
  clear z1 z2; have hpk := hid (show pwIok 10 g (xl, xh) (yl, yh) a b = false from by unfold pwIok; rw [(show (pwInt 10 g (xl, xh) (yl, yh) a b).1 = t1 from by rw [← HNt1.out]; rfl), (show (pwInt 10 g (xl, xh) (yl, yh) a b).2 = t2 from by rw [← HNt2.out]; rfl), HNb1.out]; rfl); obtain ⟨q1, q2⟩ := H2.out.c2 1 rfl; refine bodyPost_ret (v := .tuple #[.agg #[.int .i64 t1, .int .i64 t2], .bool false]) ?_ rfl ⟨⟨_, _, by rw [hpk.out], fun _ => ⟨(show (pwInt 10 g (xl, xh) (yl, yh) a b).1 = t1 from by rw [← HNt1.out]; rfl).symm, (show (pwInt 10 g (xl, xh) (yl, yh) a b).2 = t2 from by rw [← HNt2.out]; rfl).symm⟩⟩, H2.out.bl⟩; simp [results, Try.results84, go_sem, q1, q2]
 refine tk 6 ?_; refine tk 7 ?_; refine tk 8 ?_; refine tk 9 ?_; refine rdy 10 fun K hK => ?_
 go_simp
 go_at_call 79
 refine (racc_any _ _).mono ?_; rintro e w1 ⟨rfl, hsw⟩; have hsw2 : k1 = w1 := by first | exact hsw | exact hsw.symm
 clear hsw; subst hsw2; obtain ⟨b1, hb1⟩ : ∃ xx', accOk t2 = xx' := ⟨_, rfl⟩; rw [hb1]; have HNb2 := hid hb1; clear hb1; refine hK.out _ _ (by (try dsimp only); exact ⟨H1.out.cell 0 rfl 0 rfl, H1.out.cell 0 rfl 1 rfl⟩) ?_; clear hK K hHeld; intro hHeld; try simp only [pz]
 refine tk 11 ?_; refine rdy 12 fun K hK => ?_
 obtain ⟨z1, z2, z3, z4⟩ := H1.out.f2 1 rfl; have H2 := hid (show St _ _ (_ :: .cells (B + 1 + 1 + 1) #[.int .i64 t1, .int .i64 t2] 99 :: _) _ _ from ((H1.out.set 1 rfl 0 (.int .i64 t1)).set 1 rfl 1 (.int .i64 t2))); go_simp
 refine hK.out _ _ (by (try dsimp only); exact ⟨H2.out.cell 0 rfl 0 rfl, H2.out.cell 0 rfl 1 rfl⟩) ?_; clear hK K hHeld; intro hHeld; try simp only [pz]
 clear z1 z2 z3 z4; generalize ((k1.setCell ⟨B + 1 + 1 + 1, 0, none⟩ (.int .i64 t1)).setCell ⟨B + 1 + 1 + 1, 1, none⟩ (.int .i64 t2)) = k1 at *; refine tk 13 ?_; refine wpAnyH_done (by kernel_rfl) ?_ _; try clear hHeld
 obtain ⟨z1, z2⟩ := H2.out.c2 1 rfl; go_wp2_with fail
 clear z1 z2; have hpk := hid (show pwIok 10 g (xl, xh) (yl, yh) a b = b1 from by unfold pwIok; rw [(show (pwInt 10 g (xl, xh) (yl, yh) a b).1 = t1 from by rw [← HNt1.out]; rfl), (show (pwInt 10 g (xl, xh) (yl, yh) a b).2 = t2 from by rw [← HNt2.out]; rfl), HNb1.out, HNb2.out]; rfl); obtain ⟨q1, q2⟩ := H2.out.c2 1 rfl; refine bodyPost_ret (v := .tuple #[.agg #[.int .i64 t1, .int .i64 t2], .bool b1]) ?_ rfl ⟨⟨_, _, by rw [hpk.out], fun _ => ⟨(show (pwInt 10 g (xl, xh) (yl, yh) a b).1 = t1 from by rw [← HNt1.out]; rfl).symm, (show (pwInt 10 g (xl, xh) (yl, yh) a b).2 = t2 from by rw [← HNt2.out]; rfl).symm⟩⟩, H2.out.bl⟩; simp [results, Try.results84, go_sem, q1, q2]

set_option maxRecDepth 100000 in
set_option maxHeartbeats 3200000 in
theorem rnext_any_11 (g xl xh yl yh a b : Int) (W : World) (hxl : accOk xl = true) (hxh : accOk xh = true) (hyl : accOk yl = true) (hyh : accOk yh = true) : Calls Try.prog 84 #[.agg #[.int .i64 11, .int .i64 g], .agg #[.int .i64 xl, .int .i64 xh], .agg #[.int .i64 yl, .int .i64 yh], .int .i64 a, .int .i64 b] W fun e w' => (∃ lo hi, e = .returned (.tuple #[.agg #[.int .i64 lo, .int .i64 hi], .bool (pwIok 11 g (xl, xh) (yl, yh) a b)]) ∧ (pwIok 11 g (xl, xh) (yl, yh) a b = true → lo = (pwInt 11 g (xl, xh) (yl, yh) a b).1 ∧ hi = (pwInt 11 g (xl, xh) (yl, yh) a b).2)) ∧ Below W.heap.size W w' := by
 obtain ⟨xl1, xl2⟩ := accOk_iff.1 hxl; obtain ⟨xh1, xh2⟩ := accOk_iff.1 hxh; obtain ⟨yl1, yl2⟩ := accOk_iff.1 hyl; obtain ⟨yh1, yh2⟩ := accOk_iff.1 hyh; obtain ⟨B, hB⟩ : ∃ B, W.heap.size = B := ⟨_, rfl⟩; have HI0 := hid (St.init hB)
 go_enter Try.func84, Try.ntmps84
 go_upto_region 1 with fail
 have H1 := hid (show St _ _ (.cells (B + 1 + 1 + 1) _ _ :: .cells (B + 1 + 1) _ _ :: .cells (B + 1) _ _ :: .cells B _ _ :: _) _ _ from ((((HI0.out.alloc #[.int .i64 11, .int .i64 g] 57 hB).alloc #[.int .i64 xl, .int .i64 xh] 99 (by first | exact hB | simp [hB])).alloc #[.int .i64 yl, .int .i64 yh] 99 (by first | exact hB | simp [hB])).alloc #[.int .i64 0, .int .i64 0] 99 (by first | exact hB | simp [hB]))); first | refine gK H1 ?_ | refine gL H1 ?_ | refine gC H1 ?_
 clear H1; intro w1 H1; obtain ⟨mg, hmg⟩ : ∃ zz : Int, (if absI xl < absI xh then absI xh else absI xl) = zz := ⟨_, rfl⟩; have H2 := hid H1.out.drew; refine wp_region_held_drew (S := (fun w' => w'.cell? ⟨B + 1, 0, none⟩ = some (.int .i64 xl) ∧ w'.cell? ⟨B + 1, 1, none⟩ = some (.int .i64 xh))) (by kernel_rfl) ⟨H2.out.cell 2 rfl 0 rfl, H2.out.cell 2 rfl 1 rfl⟩ (fun hHeld => ?_); generalize w1.drew = k1 at *; refine tk 0 ?_; refine tk 1 ?_; refine tk 3 ?_; refine tk 4 ?_; refine rdy 2 fun K hK => ?_
 go_simp
 go_at_call 88
 refine (rabs_any _ (by omega) _).mono ?_; rintro e w1 ⟨rfl, hsw⟩; have hsw2 : k1 = w1 := by first | exact hsw | exact hsw.symm
 clear hsw; subst hsw2; refine hK.out _ _ (by (try dsimp only); exact ⟨H2.out.cell 2 rfl 0 rfl, H2.out.cell 2 rfl 1 rfl⟩) ?_; clear hK K hHeld; intro hHeld; try simp only [pz]
 refine rdy 5 fun K hK => ?_
 go_simp
 go_at_call 88
 refine (rabs_any _ (by omega) _).mono ?_; rintro e w1 ⟨rfl, hsw⟩; have hsw2 : k1 = w1 := by first | exact hsw | exact hsw.symm
 clear hsw; subst hsw2; refine hK.out _ _ (by (try dsimp only); exact ⟨H2.out.cell 2 rfl 0 rfl, H2.out.cell 2 rfl 1 rfl⟩) ?_; clear hK K hHeld; intro hHeld; try simp only [pz]
 refine tk 6 ?_; refine tk 7 ?_; refine wpAnyH_done (by kernel_rfl) ?_ _; try clear hHeld
 have HMG := hid (show mxI (absI xl) (absI xh) = mg from hmg); clear hmg; obtain ⟨mga, mgb⟩ : 0 ≤ mg ∧ mg ≤ 17592186044416 := by rw [← HMG.out]; exact mag_bd hxl hxh
 have mgw : IntKind.i64.wrap (-mg) = -mg := IntWalk.i64_in _ (by omega); obtain ⟨D1, hD1⟩ : ∃ D, k1.heap.size = D := ⟨_, rfl⟩; go_upto_region 3 with fail
 have H1 := hid (H2.out.alloc #[.int .i64 0, .int .i64 0] 99 hD1); first | refine gK H1 ?_ | refine gL H1 ?_ | refine gC H1 ?_
 clear H1; intro w1 H1; clear hD1; obtain ⟨z1, z2⟩ := H1.out.c2 4 rfl; obtain ⟨z3, z4, z5, z6⟩ := H1.out.f2 0 rfl; go_upto_region 27 with fail
 clear z1 z2 z3 z4 z5 z6; have H2 := hid (show St _ _ (.cells D1 #[.int .i64 0, .int .i64 mg] 99 :: _) _ _ from ((H1.out.set 0 rfl 0 (.int .i64 0)).set 0 rfl 1 (.int .i64 mg))); first | refine gK H2 ?_ | refine gL H2 ?_ | refine gC H2 ?_
 clear H2; intro w1 H2; have H1 := hid H2.out.drew; refine wp_region_held_drew (S := (fun w' => w'.cell? ⟨D1, 0, none⟩ = some (.int .i64 0) ∧ w'.cell? ⟨D1, 1, none⟩ = some (.int .i64 mg))) (by kernel_rfl) ⟨H1.out.cell 0 rfl 0 rfl, H1.out.cell 0 rfl 1 rfl⟩ (fun hHeld => ?_); generalize w1.drew = k1 at *; refine tk 0 ?_; refine tk 1 ?_; refine tk 2 ?_; refine tk 3 ?_; refine tk 4 ?_; refine rdy 5 fun K hK => ?_
 go_simp
 go_at_call 79
 refine (racc_any _ _).mono ?_; rintro e w1 ⟨rfl, hsw⟩; have hsw2 : k1 = w1 := by first | exact hsw | exact hsw.symm
 clear hsw; subst hsw2; obtain ⟨b1, hb1⟩ : ∃ xx', accOk 0 = xx' := ⟨_, rfl⟩; rw [hb1]; have HNb1 := hid hb1; clear hb1; refine hK.out _ _ (by (try dsimp only); exact ⟨H1.out.cell 0 rfl 0 rfl, H1.out.cell 0 rfl 1 rfl⟩) ?_; clear hK K hHeld; intro hHeld; try simp only [pz]
 cases b1
 ·
  refine tk 6 ?_; refine tk 7 ?_; refine tu 8 ?_; refine tu 9 ?_; refine tu 10 ?_; refine tk 11 ?_; refine rdy 12 fun K hK => ?_
  obtain ⟨z1, z2, z3, z4⟩ := H1.out.f2 1 rfl; have H2 := hid (show St _ _ (_ :: .cells (B + 1 + 1 + 1) #[.int .i64 0, .int .i64 mg] 99 :: _) _ _ from ((H1.out.set 1 rfl 0 (.int .i64 0)).set 1 rfl 1 (.int .i64 mg))); go_simp
  refine hK.out _ _ (by (try dsimp only); exact ⟨H2.out.cell 0 rfl 0 rfl, H2.out.cell 0 rfl 1 rfl⟩) ?_; clear hK K hHeld; intro hHeld; try simp only [pz]
  clear z1 z2 z3 z4; generalize ((k1.setCell ⟨B + 1 + 1 + 1, 0, none⟩ (.int .i64 0)).setCell ⟨B + 1 + 1 + 1, 1, none⟩ (.int .i64 mg)) = k2 at *; refine tk 13 ?_; refine wpAnyH_done (by kernel_rfl) ?_ _; try clear hHeld
  obtain ⟨z1, z2⟩ := H2.out.c2 1 rfl; go_wp2_with fail
  clear z1 z2; have hpk := hid (show pwIok 11 g (xl, xh) (yl, yh) a b = false from by unfold pwIok; rw [(show (pwInt 11 g (xl, xh) (yl, yh) a b).1 = 0 from rfl), (show (pwInt 11 g (xl, xh) (yl, yh) a b).2 = mg from HMG.out), HNb1.out]; rfl); obtain ⟨q1, q2⟩ := H2.out.c2 1 rfl; refine bodyPost_ret (v := .tuple #[.agg #[.int .i64 0, .int .i64 mg], .bool false]) ?_ rfl ⟨⟨_, _, by rw [hpk.out], fun _ => ⟨(show (pwInt 11 g (xl, xh) (yl, yh) a b).1 = 0 from rfl).symm, (show (pwInt 11 g (xl, xh) (yl, yh) a b).2 = mg from HMG.out).symm⟩⟩, H2.out.bl⟩; simp [results, Try.results84, go_sem, q1, q2]
 refine tk 6 ?_; refine tk 7 ?_; refine tk 8 ?_; refine tk 9 ?_; refine rdy 10 fun K hK => ?_
 go_simp
 go_at_call 79
 refine (racc_any _ _).mono ?_; rintro e w1 ⟨rfl, hsw⟩; have hsw2 : k1 = w1 := by first | exact hsw | exact hsw.symm
 clear hsw; subst hsw2; obtain ⟨b1, hb1⟩ : ∃ xx', accOk mg = xx' := ⟨_, rfl⟩; rw [hb1]; have HNb2 := hid hb1; clear hb1; refine hK.out _ _ (by (try dsimp only); exact ⟨H1.out.cell 0 rfl 0 rfl, H1.out.cell 0 rfl 1 rfl⟩) ?_; clear hK K hHeld; intro hHeld; try simp only [pz]
 refine tk 11 ?_; refine rdy 12 fun K hK => ?_
 obtain ⟨z1, z2, z3, z4⟩ := H1.out.f2 1 rfl; have H2 := hid (show St _ _ (_ :: .cells (B + 1 + 1 + 1) #[.int .i64 0, .int .i64 mg] 99 :: _) _ _ from ((H1.out.set 1 rfl 0 (.int .i64 0)).set 1 rfl 1 (.int .i64 mg))); go_simp
 refine hK.out _ _ (by (try dsimp only); exact ⟨H2.out.cell 0 rfl 0 rfl, H2.out.cell 0 rfl 1 rfl⟩) ?_; clear hK K hHeld; intro hHeld; try simp only [pz]
 clear z1 z2 z3 z4; generalize ((k1.setCell ⟨B + 1 + 1 + 1, 0, none⟩ (.int .i64 0)).setCell ⟨B + 1 + 1 + 1, 1, none⟩ (.int .i64 mg)) = k1 at *; refine tk 13 ?_; refine wpAnyH_done (by kernel_rfl) ?_ _; try clear hHeld
 obtain ⟨z1, z2⟩ := H2.out.c2 1 rfl; go_wp2_with fail
 clear z1 z2; have hpk := hid (show pwIok 11 g (xl, xh) (yl, yh) a b = b1 from by unfold pwIok; rw [(show (pwInt 11 g (xl, xh) (yl, yh) a b).1 = 0 from rfl), (show (pwInt 11 g (xl, xh) (yl, yh) a b).2 = mg from HMG.out), HNb1.out, HNb2.out]; rfl); obtain ⟨q1, q2⟩ := H2.out.c2 1 rfl; refine bodyPost_ret (v := .tuple #[.agg #[.int .i64 0, .int .i64 mg], .bool b1]) ?_ rfl ⟨⟨_, _, by rw [hpk.out], fun _ => ⟨(show (pwInt 11 g (xl, xh) (yl, yh) a b).1 = 0 from rfl).symm, (show (pwInt 11 g (xl, xh) (yl, yh) a b).2 = mg from HMG.out).symm⟩⟩, H2.out.bl⟩; simp [results, Try.results84, go_sem, q1, q2]
theorem rnext_any (c g xl xh yl yh a b : Int) (W : World) (hc : 0 ≤ c ∧ c ≤ 11) (hxl : accOk xl = true) (hxh : accOk xh = true) (hyl : accOk yl = true) (hyh : accOk yh = true) : Calls Try.prog 84 #[.agg #[.int .i64 c, .int .i64 g], .agg #[.int .i64 xl, .int .i64 xh], .agg #[.int .i64 yl, .int .i64 yh], .int .i64 a, .int .i64 b] W fun e w' => (∃ lo hi, e = .returned (.tuple #[.agg #[.int .i64 lo, .int .i64 hi], .bool (pwIok c g (xl, xh) (yl, yh) a b)]) ∧ (pwIok c g (xl, xh) (yl, yh) a b = true → lo = (pwInt c g (xl, xh) (yl, yh) a b).1 ∧ hi = (pwInt c g (xl, xh) (yl, yh) a b).2)) ∧ Below W.heap.size W w' := by
 rcases codes (c := c) (by omega) (by omega) with rfl | rfl | rfl | rfl | rfl | rfl | rfl | rfl | rfl | rfl | rfl | rfl
 ·
  exact rnext_any_0 g xl xh yl yh a b W hxl hxh hyl hyh
 ·
  exact rnext_any_1 g xl xh yl yh a b W hxl hxh hyl hyh
 ·
  exact rnext_any_2 g xl xh yl yh a b W hxl hxh hyl hyh
 ·
  exact rnext_any_3 g xl xh yl yh a b W hxl hxh hyl hyh
 ·
  exact rnext_any_4 g xl xh yl yh a b W hxl hxh hyl hyh
 ·
  exact rnext_any_5 g xl xh yl yh a b W hxl hxh hyl hyh
 ·
  exact rnext_any_6 g xl xh yl yh a b W hxl hxh hyl hyh
 ·
  exact rnext_any_7 g xl xh yl yh a b W hxl hxh hyl hyh
 ·
  exact rnext_any_8 g xl xh yl yh a b W hxl hxh hyl hyh
 ·
  exact rnext_any_9 g xl xh yl yh a b W hxl hxh hyl hyh
 ·
  exact rnext_any_10 g xl xh yl yh a b W hxl hxh hyl hyh
 exact rnext_any_11 g xl xh yl yh a b W hxl hxh hyl hyh
end Go.Proofs.Yteejjnhlfgjlaaa
