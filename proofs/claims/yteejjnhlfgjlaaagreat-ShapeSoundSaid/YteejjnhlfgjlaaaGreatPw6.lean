/-
 Contracts: the interval of an operation, in the reference.
-/
import Derived.Test.YteejjnhlfgjlaaaGreatPA
namespace Go.Proofs.YteejjnhlfgjlaaaGreat
open Go.RowKit
attribute [local go_sem ↓] Go.wp_at_zero Go.wp_at_succ
set_option linter.unusedVariables false
set_option linter.unusedSimpArgs false


set_option maxRecDepth 100000 in
set_option maxHeartbeats 6400000 in
theorem rnext_any (c g xl xh yl yh a b : Int) (W : World) (hc : 0 ≤ c ∧ c ≤ 11) (hxl : accOk xl = true) (hxh : accOk xh = true) (hyl : accOk yl = true) (hyh : accOk yh = true) : Calls Tryz.prog 111 #[.agg #[.int .i64 c, .int .i64 g], .agg #[.int .i64 xl, .int .i64 xh], .agg #[.int .i64 yl, .int .i64 yh], .int .i64 a, .int .i64 b] W fun e w' => (∃ lo hi, e = .returned (.tuple #[.agg #[.int .i64 lo, .int .i64 hi], .bool (pwIok c g (xl, xh) (yl, yh) a b)]) ∧ (pwIok c g (xl, xh) (yl, yh) a b = true → lo = (pwInt c g (xl, xh) (yl, yh) a b).1 ∧ hi = (pwInt c g (xl, xh) (yl, yh) a b).2)) ∧ Below W.heap.size W w' := by
 obtain ⟨xl1, xl2⟩ := accOk_iff.1 hxl; obtain ⟨xh1, xh2⟩ := accOk_iff.1 hxh; obtain ⟨yl1, yl2⟩ := accOk_iff.1 hyl; obtain ⟨yh1, yh2⟩ := accOk_iff.1 hyh; obtain ⟨B, hB⟩ : ∃ B, W.heap.size = B := ⟨_, rfl⟩; have HI0 := kq (St.init hB)
 go_enter Tryz.func111, Tryz.ntmps111
 go_upto_region 1 with fail
 have H1 := kq (show St _ _ (.cells (B + 1 + 1 + 1) _ _ :: .cells (B + 1 + 1) _ _ :: .cells (B + 1) _ _ :: .cells B _ _ :: _) _ _ from ((((HI0.o.alloc #[.int .i64 c, .int .i64 g] 61 hB).alloc #[.int .i64 xl, .int .i64 xh] 129 (by first | exact hB | simp [hB])).alloc #[.int .i64 yl, .int .i64 yh] 129 (by first | exact hB | simp [hB])).alloc #[.int .i64 0, .int .i64 0] 129 (by first | exact hB | simp [hB]))); first | refine gK H1 ?_ | refine gL H1 ?_ | refine gC H1 ?_
 clear H1; intro w1 H1; obtain ⟨mg, hmg⟩ : ∃ zz : Int, (if absI xl < absI xh then absI xh else absI xl) = zz := ⟨_, rfl⟩; have H2 := kq H1.o.drew; refine wp_region_held_drew (S := (fun w' => w'.cell? ⟨B + 1, 0, none⟩ = some (.int .i64 xl) ∧ w'.cell? ⟨B + 1, 1, none⟩ = some (.int .i64 xh))) (by kernel_rfl) ⟨H2.o.cell 2 rfl 0 rfl, H2.o.cell 2 rfl 1 rfl⟩ (fun hHeld => ?_); generalize w1.drew = k1 at *; refine tk 0 ?_; refine tk 1 ?_; refine tk 3 ?_; refine tk 4 ?_; refine rdy 2 fun K hK => ?_
 go_simp
 go_at_call 115
 refine (rabs_any _ (by omega) _).mono ?_; rintro e w1 ⟨rfl, hsw⟩; have hsw2 : k1 = w1 := by first | exact hsw | exact hsw.symm
 clear hsw; subst hsw2; refine hK.out _ _ (by (try dsimp only); exact ⟨H2.o.cell 2 rfl 0 rfl, H2.o.cell 2 rfl 1 rfl⟩) ?_; clear hK K hHeld; intro hHeld; try simp only [pz]
 refine rdy 5 fun K hK => ?_
 go_simp
 go_at_call 115
 refine (rabs_any _ (by omega) _).mono ?_; rintro e w1 ⟨rfl, hsw⟩; have hsw2 : k1 = w1 := by first | exact hsw | exact hsw.symm
 clear hsw; subst hsw2; refine hK.out _ _ (by (try dsimp only); exact ⟨H2.o.cell 2 rfl 0 rfl, H2.o.cell 2 rfl 1 rfl⟩) ?_; clear hK K hHeld; intro hHeld; try simp only [pz]
 refine tk 6 ?_; refine tk 7 ?_; refine wpAnyH_done (by kernel_rfl) ?_ _; try clear hHeld
 have HMG := kq (show mxI (absI xl) (absI xh) = mg from hmg); clear hmg; obtain ⟨mga, mgb⟩ : 0 ≤ mg ∧ mg ≤ 17592186044416 := by rw [← HMG.o]; exact mag_bd hxl hxh
 have mgw : IntKind.i64.wrap (-mg) = -mg := IntWalk.i64_in _ (by omega); obtain ⟨D1, hD1⟩ := nK k1.heap.size; go_upto_region 3 with fail
 have H1 := kq (H2.o.alloc #[.int .i64 0, .int .i64 0] 129 hD1); first | refine gK H1 ?_ | refine gL H1 ?_ | refine gC H1 ?_
 clear H1; intro w1 H1; clear hD1; have z1 := H1.o.c2 4 rfl; go_upto_block 0 with fail
 clear z1
 go_cut [14] (fun s wx => ∃ (lo hi : Int) (ok : Bool), s = .bool ok ∧ (if c = 5 then pwMul (xl, xh) (yl, yh) else true) = ok ∧ (ok = true → lo = (pwInt c g (xl, xh) (yl, yh) a b).1 ∧ hi = (pwInt c g (xl, xh) (yl, yh) a b).2) ∧ St B W [.cells D1 #[.int .i64 lo, .int .i64 hi] 129, .cells (B + 1 + 1 + 1) #[.int .i64 0, .int .i64 0] 129, .cells (B + 1 + 1) #[.int .i64 yl, .int .i64 yh] 129, .cells (B + 1) #[.int .i64 xl, .int .i64 xh] 129, .cells B #[.int .i64 c, .int .i64 g] 61] [] wx)
 case first =>
  rcases (show c = 0 ∨ c = 1 ∨ c = 2 ∨ c = 3 ∨ c = 4 ∨ c = 5 ∨ c = 6 ∨ c = 7 ∨ c = 8 ∨ c = 9 ∨ c = 10 ∨ c = 11 by omega) with rfl | rfl | rfl | rfl | rfl | rfl | rfl | rfl | rfl | rfl | rfl | rfl
  ·
   clear hc; have z1 := H1.o.f2 0 rfl; go_wp2_with fail
   clear z1; have H2 := kq (show St _ _ (.cells D1 #[.int .i64 0, .int .i64 a] 129 :: _) _ _ from ((H1.o.set 0 rfl 0 (.int .i64 0)).set 0 rfl 1 (.int .i64 a)))
   go_meet
   exact ⟨_, _, true, rfl, if_neg (by decide), fun _ => ⟨(show 0 = (pwInt 0 g (xl, xh) (yl, yh) a b).1 from rfl), (show a = (pwInt 0 g (xl, xh) (yl, yh) a b).2 from rfl)⟩, H2.o.pick [0, 1, 2, 3, 4] rfl (by decide)⟩
  ·
   clear hc; have z1 := H1.o.f2 0 rfl; go_wp2_with fail
   clear z1; have H2 := kq (show St _ _ (.cells D1 #[.int .i64 0, .int .i64 b] 129 :: _) _ _ from ((H1.o.set 0 rfl 0 (.int .i64 0)).set 0 rfl 1 (.int .i64 b)))
   go_meet
   exact ⟨_, _, true, rfl, if_neg (by decide), fun _ => ⟨(show 0 = (pwInt 1 g (xl, xh) (yl, yh) a b).1 from rfl), (show b = (pwInt 1 g (xl, xh) (yl, yh) a b).2 from rfl)⟩, H2.o.pick [0, 1, 2, 3, 4] rfl (by decide)⟩
  ·
   clear hc; have z1 := H1.o.c2 4 rfl; have z3 := H1.o.f2 0 rfl; go_wp2_with fail
   clear z1 z3; have H2 := kq (show St _ _ (.cells D1 #[.int .i64 g, .int .i64 g] 129 :: _) _ _ from ((H1.o.set 0 rfl 0 (.int .i64 g)).set 0 rfl 1 (.int .i64 g)))
   go_meet
   exact ⟨_, _, true, rfl, if_neg (by decide), fun _ => ⟨(show g = (pwInt 2 g (xl, xh) (yl, yh) a b).1 from rfl), (show g = (pwInt 2 g (xl, xh) (yl, yh) a b).2 from rfl)⟩, H2.o.pick [0, 1, 2, 3, 4] rfl (by decide)⟩
  ·
   clear hc; have z1 := H1.o.c2 3 rfl; have z3 := H1.o.c2 2 rfl; have z5 := H1.o.f2 0 rfl; go_wp2_with fail
   clear z1 z3 z5; have H2 := kq (show St _ _ (.cells D1 #[.int .i64 (xl + yl), .int .i64 (xh + yh)] 129 :: _) _ _ from ((H1.o.set 0 rfl 0 (.int .i64 (xl + yl))).set 0 rfl 1 (.int .i64 (xh + yh))))
   go_meet
   exact ⟨_, _, true, rfl, if_neg (by decide), fun _ => ⟨(show xl + yl = (pwInt 3 g (xl, xh) (yl, yh) a b).1 from rfl), (show xh + yh = (pwInt 3 g (xl, xh) (yl, yh) a b).2 from rfl)⟩, H2.o.pick [0, 1, 2, 3, 4] rfl (by decide)⟩
  ·
   clear hc; have z1 := H1.o.c2 3 rfl; have z3 := H1.o.c2 2 rfl; have z5 := H1.o.f2 0 rfl; go_wp2_with fail
   clear z1 z3 z5; have H2 := kq (show St _ _ (.cells D1 #[.int .i64 (xl - yh), .int .i64 (xh - yl)] 129 :: _) _ _ from ((H1.o.set 0 rfl 0 (.int .i64 (xl - yh))).set 0 rfl 1 (.int .i64 (xh - yl))))
   go_meet
   exact ⟨_, _, true, rfl, if_neg (by decide), fun _ => ⟨(show xl - yh = (pwInt 4 g (xl, xh) (yl, yh) a b).1 from rfl), (show xh - yl = (pwInt 4 g (xl, xh) (yl, yh) a b).2 from rfl)⟩, H2.o.pick [0, 1, 2, 3, 4] rfl (by decide)⟩
  ·
   clear hc; have z1 := H1.o.c2 3 rfl; have z3 := H1.o.c2 2 rfl; go_wp2_with fail
   clear z1 z3; refine (rproduct_any _ _ _ _ _ hxl hxh hyl hyh).mono ?_; rintro e w2 ⟨⟨lo1, hi1, rfl, hlh⟩, hb⟩; have H2 := kq (H1.o.call hb); clear hb; obtain ⟨b1, hb1⟩ := nK (pwMul (xl, xh) (yl, yh)); rw [hb1] at hlh ⊢; have HNb1 := kq hb1; clear hb1; have HLH := kq hlh; clear hlh; have z1 := H2.o.f2 0 rfl; go_wp2_with fail
   clear z1; have H3 := kq (show St _ _ (.cells D1 #[.int .i64 lo1, .int .i64 hi1] 129 :: _) _ _ from ((H2.o.set 0 rfl 0 (.int .i64 lo1)).set 0 rfl 1 (.int .i64 hi1)))
   go_meet
   exact ⟨_, _, _, rfl, (if_pos (by first | rfl | trivial)).trans HNb1.o, fun h => HLH.o h, H3.o.pick [0, 1, 2, 3, 4] rfl (by decide)⟩
  ·
   clear hc; obtain ⟨m1, hm1⟩ : ∃ zz : Int, (if yl < xl then yl else xl) = zz := ⟨_, rfl⟩; obtain ⟨m2, hm2⟩ : ∃ zz : Int, (if yh < xh then yh else xh) = zz := ⟨_, rfl⟩; have z1 := H1.o.c2 3 rfl; have z3 := H1.o.c2 2 rfl; have z5 := H1.o.f2 0 rfl; go_wp2_with fail
   clear z1 z3 z5; have HNm1 := kq hm1; clear hm1; have HNm2 := kq hm2; clear hm2; have H2 := kq (show St _ _ (.cells D1 #[.int .i64 m1, .int .i64 m2] 129 :: _) _ _ from ((H1.o.set 0 rfl 0 (.int .i64 m1)).set 0 rfl 1 (.int .i64 m2)))
   go_meet
   exact ⟨_, _, true, rfl, if_neg (by decide), fun _ => ⟨(show m1 = (pwInt 6 g (xl, xh) (yl, yh) a b).1 from by rw [← HNm1.o]; rfl), (show m2 = (pwInt 6 g (xl, xh) (yl, yh) a b).2 from by rw [← HNm2.o]; rfl)⟩, H2.o.pick [0, 1, 2, 3, 4] rfl (by decide)⟩
  ·
   clear hc; obtain ⟨m1, hm1⟩ : ∃ zz : Int, (if xl < yl then yl else xl) = zz := ⟨_, rfl⟩; obtain ⟨m2, hm2⟩ : ∃ zz : Int, (if xh < yh then yh else xh) = zz := ⟨_, rfl⟩; have z1 := H1.o.c2 3 rfl; have z3 := H1.o.c2 2 rfl; have z5 := H1.o.f2 0 rfl; go_wp2_with fail
   clear z1 z3 z5; have HNm1 := kq hm1; clear hm1; have HNm2 := kq hm2; clear hm2; have H2 := kq (show St _ _ (.cells D1 #[.int .i64 m1, .int .i64 m2] 129 :: _) _ _ from ((H1.o.set 0 rfl 0 (.int .i64 m1)).set 0 rfl 1 (.int .i64 m2)))
   go_meet
   exact ⟨_, _, true, rfl, if_neg (by decide), fun _ => ⟨(show m1 = (pwInt 7 g (xl, xh) (yl, yh) a b).1 from by rw [← HNm1.o]; rfl), (show m2 = (pwInt 7 g (xl, xh) (yl, yh) a b).2 from by rw [← HNm2.o]; rfl)⟩, H2.o.pick [0, 1, 2, 3, 4] rfl (by decide)⟩
  ·
   clear hc; obtain ⟨m1, hm1⟩ : ∃ zz : Int, (if (xh - yl) < (yh - xl) then yh - xl else xh - yl) = zz := ⟨_, rfl⟩; have z1 := H1.o.c2 3 rfl; have z3 := H1.o.c2 2 rfl; have z5 := H1.o.f2 0 rfl; go_wp2_with fail
   clear z1 z3 z5; have HNm1 := kq hm1; clear hm1; have H2 := kq (show St _ _ (.cells D1 #[.int .i64 0, .int .i64 m1] 129 :: _) _ _ from ((H1.o.set 0 rfl 0 (.int .i64 0)).set 0 rfl 1 (.int .i64 m1)))
   go_meet
   exact ⟨_, _, true, rfl, if_neg (by decide), fun _ => ⟨(show 0 = (pwInt 8 g (xl, xh) (yl, yh) a b).1 from rfl), (show m1 = (pwInt 8 g (xl, xh) (yl, yh) a b).2 from by rw [← HNm1.o]; rfl)⟩, H2.o.pick [0, 1, 2, 3, 4] rfl (by decide)⟩
  ·
   clear hc; have z1 := H1.o.f2 0 rfl; go_wp2_with fail
   clear z1; have H2 := kq (show St _ _ (.cells D1 #[.int .i64 (-mg), .int .i64 mg] 129 :: _) _ _ from ((H1.o.set 0 rfl 0 (.int .i64 (-mg))).set 0 rfl 1 (.int .i64 mg)))
   go_meet
   exact ⟨_, _, true, rfl, if_neg (by decide), fun _ => ⟨(show -mg = (pwInt 9 g (xl, xh) (yl, yh) a b).1 from by rw [← HMG.o]; rfl), HMG.o.symm⟩, H2.o.pick [0, 1, 2, 3, 4] rfl (by decide)⟩
  ·
   clear hc; have z1 := H1.o.c2 3 rfl; have z3 := H1.o.c2 4 rfl; go_wp2_with fail
   clear z1 z3; refine (rspan_any _ _ _ _).mono ?_; rintro e w2 ⟨rfl, hsw⟩; have hsw2 : w1 = w2 := by first | exact hsw | exact hsw.symm
   clear hsw; subst hsw2; obtain ⟨t1, HNt1⟩ := nQ (shV xl g); rw [HNt1.o]; obtain ⟨t2, HNt2⟩ := nQ (shV xh g); rw [HNt2.o]; have z1 := H1.o.f2 0 rfl; go_wp2_with fail
   clear z1; have H2 := kq (show St _ _ (.cells D1 #[.int .i64 t1, .int .i64 t2] 129 :: _) _ _ from ((H1.o.set 0 rfl 0 (.int .i64 t1)).set 0 rfl 1 (.int .i64 t2)))
   go_meet
   exact ⟨_, _, true, rfl, if_neg (by decide), fun _ => ⟨(show t1 = (pwInt 10 g (xl, xh) (yl, yh) a b).1 from by rw [← HNt1.o]; rfl), (show t2 = (pwInt 10 g (xl, xh) (yl, yh) a b).2 from by rw [← HNt2.o]; rfl)⟩, H2.o.pick [0, 1, 2, 3, 4] rfl (by decide)⟩
  clear hc; have z1 := H1.o.f2 0 rfl; go_wp2_with fail
  clear z1; have H2 := kq (show St _ _ (.cells D1 #[.int .i64 0, .int .i64 mg] 129 :: _) _ _ from ((H1.o.set 0 rfl 0 (.int .i64 0)).set 0 rfl 1 (.int .i64 mg)))
  go_meet
  exact ⟨_, _, true, rfl, if_neg (by decide), fun _ => ⟨(show 0 = (pwInt 11 g (xl, xh) (yl, yh) a b).1 from rfl), HMG.o.symm⟩, H2.o.pick [0, 1, 2, 3, 4] rfl (by decide)⟩
 case rest =>
  obtain ⟨lo, hi, ok, rfl, hok, hlh, hst⟩ := hcut; obtain ⟨u1, rfl⟩ : ∃ u1 : World, u1 = wc := ⟨_, rfl⟩; have H1 := kq hst; clear hst; have HOK := kq hok; have HLH := kq hlh; clear hok hlh; cases ok; rotate_left
  ·
   go_upto_region 27 with fail
   have H2 := kq H1.o.drew; refine wp_region_held_drew (S := (fun w' => w'.cell? ⟨D1, 0, none⟩ = some (.int .i64 lo) ∧ w'.cell? ⟨D1, 1, none⟩ = some (.int .i64 hi))) (by kernel_rfl) ⟨H2.o.cell 0 rfl 0 rfl, H2.o.cell 0 rfl 1 rfl⟩ (fun hHeld => ?_); generalize u1.drew = k1 at *; refine tk 0 ?_; refine tk 1 ?_; refine tk 2 ?_; refine tk 3 ?_; refine tk 4 ?_; refine rdy 5 fun K hK => ?_
   go_simp
   go_at_call 101
   refine (racc_any _ _).mono ?_; rintro e w1 ⟨rfl, hsw⟩; have hsw2 : k1 = w1 := by first | exact hsw | exact hsw.symm
   clear hsw; subst hsw2; obtain ⟨b1, HNb1⟩ := nQ (accOk lo); rw [HNb1.o]; refine hK.out _ _ (by (try dsimp only); exact ⟨H2.o.cell 0 rfl 0 rfl, H2.o.cell 0 rfl 1 rfl⟩) ?_; clear hK K hHeld; intro hHeld; try simp only [pz]
   cases b1
   ·
    refine tk 6 ?_; refine tk 7 ?_; refine tu 8 ?_; refine tu 9 ?_; refine tu 10 ?_; refine tk 11 ?_; refine rdy 12 fun K hK => ?_
    have z1 := H2.o.f2 1 rfl; have H3 := kq (show St _ _ (_ :: .cells (B + 1 + 1 + 1) #[.int .i64 lo, .int .i64 hi] 129 :: _) _ _ from ((H2.o.set 1 rfl 0 (.int .i64 lo)).set 1 rfl 1 (.int .i64 hi))); go_simp
    refine hK.out _ _ (by (try dsimp only); exact ⟨H3.o.cell 0 rfl 0 rfl, H3.o.cell 0 rfl 1 rfl⟩) ?_; clear hK K hHeld; intro hHeld; try simp only [pz]
    clear z1; generalize ((k1.setCell ⟨B + 1 + 1 + 1, 0, none⟩ (.int .i64 lo)).setCell ⟨B + 1 + 1 + 1, 1, none⟩ (.int .i64 hi)) = k2 at *; refine tk 13 ?_; refine wpAnyH_done (by kernel_rfl) ?_ _; try clear hHeld
    have z1 := H3.o.c2 1 rfl; go_wp2_with fail
    clear z1; obtain ⟨q1, q2⟩ := HLH.o (by first | rfl | trivial); have hpk := kq (show pwIok c g (xl, xh) (yl, yh) a b = false from by unfold pwIok; rw [HOK.o, ← q1, ← q2, HNb1.o]; rfl); obtain ⟨q3, q4⟩ := H3.o.c2 1 rfl; refine bodyPost_ret (v := .tuple #[.agg #[.int .i64 lo, .int .i64 hi], .bool false]) ?_ rfl ⟨⟨_, _, by rw [hpk.o], fun _ => ⟨q1, q2⟩⟩, H3.o.bl⟩; simp [results, Tryz.results111, go_sem, q3, q4]
   refine tk 6 ?_; refine tk 7 ?_; refine tk 8 ?_; refine tk 9 ?_; refine rdy 10 fun K hK => ?_
   go_simp
   go_at_call 101
   refine (racc_any _ _).mono ?_; rintro e w1 ⟨rfl, hsw⟩; have hsw2 : k1 = w1 := by first | exact hsw | exact hsw.symm
   clear hsw; subst hsw2; obtain ⟨b1, HNb2⟩ := nQ (accOk hi); rw [HNb2.o]; refine hK.out _ _ (by (try dsimp only); exact ⟨H2.o.cell 0 rfl 0 rfl, H2.o.cell 0 rfl 1 rfl⟩) ?_; clear hK K hHeld; intro hHeld; try simp only [pz]
   refine tk 11 ?_; refine rdy 12 fun K hK => ?_
   have z1 := H2.o.f2 1 rfl; have H3 := kq (show St _ _ (_ :: .cells (B + 1 + 1 + 1) #[.int .i64 lo, .int .i64 hi] 129 :: _) _ _ from ((H2.o.set 1 rfl 0 (.int .i64 lo)).set 1 rfl 1 (.int .i64 hi))); go_simp
   refine hK.out _ _ (by (try dsimp only); exact ⟨H3.o.cell 0 rfl 0 rfl, H3.o.cell 0 rfl 1 rfl⟩) ?_; clear hK K hHeld; intro hHeld; try simp only [pz]
   clear z1; generalize ((k1.setCell ⟨B + 1 + 1 + 1, 0, none⟩ (.int .i64 lo)).setCell ⟨B + 1 + 1 + 1, 1, none⟩ (.int .i64 hi)) = k1 at *; refine tk 13 ?_; refine wpAnyH_done (by kernel_rfl) ?_ _; try clear hHeld
   have z1 := H3.o.c2 1 rfl; go_wp2_with fail
   clear z1; obtain ⟨q1, q2⟩ := HLH.o (by first | rfl | trivial); have hpk := kq (show pwIok c g (xl, xh) (yl, yh) a b = b1 from by unfold pwIok; rw [HOK.o, ← q1, ← q2, HNb1.o, HNb2.o]; rfl); obtain ⟨q3, q4⟩ := H3.o.c2 1 rfl; refine bodyPost_ret (v := .tuple #[.agg #[.int .i64 lo, .int .i64 hi], .bool b1]) ?_ rfl ⟨⟨_, _, by rw [hpk.o], fun _ => ⟨q1, q2⟩⟩, H3.o.bl⟩; simp [results, Tryz.results111, go_sem, q3, q4]
  go_upto_region 27 with fail
  have H2 := kq H1.o.drew; refine wp_region_held_drew (S := (fun w' => w'.cell? ⟨D1, 0, none⟩ = some (.int .i64 lo) ∧ w'.cell? ⟨D1, 1, none⟩ = some (.int .i64 hi))) (by kernel_rfl) ⟨H2.o.cell 0 rfl 0 rfl, H2.o.cell 0 rfl 1 rfl⟩ (fun hHeld => ?_); generalize u1.drew = k1 at *; refine tk 0 ?_; refine tk 1 ?_; refine tk 2 ?_; refine tu 3 ?_; refine tu 4 ?_; refine tu 5 ?_; refine tk 6 ?_; refine tk 7 ?_; refine tu 8 ?_; refine tu 9 ?_; refine tu 10 ?_; refine tk 11 ?_; refine rdy 12 fun K hK => ?_
  have z1 := H2.o.f2 1 rfl; have H1 := kq (show St _ _ (_ :: .cells (B + 1 + 1 + 1) #[.int .i64 lo, .int .i64 hi] 129 :: _) _ _ from ((H2.o.set 1 rfl 0 (.int .i64 lo)).set 1 rfl 1 (.int .i64 hi))); go_simp
  refine hK.out _ _ (by (try dsimp only); exact ⟨H1.o.cell 0 rfl 0 rfl, H1.o.cell 0 rfl 1 rfl⟩) ?_; clear hK K hHeld; intro hHeld; try simp only [pz]
  clear z1; generalize ((k1.setCell ⟨B + 1 + 1 + 1, 0, none⟩ (.int .i64 lo)).setCell ⟨B + 1 + 1 + 1, 1, none⟩ (.int .i64 hi)) = k1 at *; refine tk 13 ?_; refine wpAnyH_done (by kernel_rfl) ?_ _; try clear hHeld
  have z1 := H1.o.c2 1 rfl; go_wp2_with fail
  clear z1; have hpk := kq (show pwIok c g (xl, xh) (yl, yh) a b = false from by unfold pwIok; rw [HOK.o]; rfl); obtain ⟨q3, q4⟩ := H1.o.c2 1 rfl; refine bodyPost_ret (v := .tuple #[.agg #[.int .i64 lo, .int .i64 hi], .bool false]) ?_ rfl ⟨⟨_, _, by rw [hpk.o], fun h => by rw [hpk.o] at h; cases h⟩, H1.o.bl⟩; simp [results, Tryz.results111, go_sem, q3, q4]
end Go.Proofs.YteejjnhlfgjlaaaGreat
