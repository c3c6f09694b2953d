/-
 Contracts: the errors that depend on the kind of a stage, in the program.
-/
import Derived.Test.YteejjnhlfgjlaaaShp1
import Derived.Test.YteejjnhlfgjlaaaKN
import Derived.Test.YteejjnhlfgjlaaaSpChk
import Derived.Test.YteejjnhlfgjlaaaRzChk
import Derived.Test.YteejjnhlfgjlaaaKB
import Derived.Test.YteejjnhlfgjlaaaPw7
import Derived.Test.YteejjnhlfgjlaaaPw10
namespace Go.Proofs.Yteejjnhlfgjlaaa
open Go.RowKit
attribute [local go_sem ↓] Go.wp_at_zero Go.wp_at_succ
set_option linter.unusedVariables false
set_option linter.unusedSimpArgs false

set_option maxRecDepth 100000 in
set_option maxHeartbeats 1600000 in
theorem point_any {kd sa sb : Int} {bar : Bool} {ep ef kw kh : Int} {wa : Option Addr} {wn wc : Nat} {ra : Option Addr} {rn rc : Nat} {ca : Option Addr} {cn cc : Nat} {sh sh2 : Int} {xa : Option Addr} {xn xc : Nat} {ya : Option Addr} {yn yc : Nat} {bins : Int} {oa : Option Addr} {on oc : Nat} {mx : Int} {A : Array Value} (hA : A = #[.int .i64 kd, .int .i64 sa, .int .i64 sb, .bool bar, .int .i64 ep, .int .i64 ef, .int .i64 kw, .int .i64 kh, .slice wa wn wc, .slice ra rn rc, .slice ca cn cc, .int .i64 sh, .int .i64 sh2, .slice xa xn xc, .slice ya yn yc, .int .i64 bins, .slice oa on oc, .int .i64 mx]) (ol : List (Int × Int)) (aw ah am bw bh bm : Int) (W : World) (ho : Prs W oa on oc ol) : Calls Try.prog 44 #[.agg A, .agg #[.int .i64 aw, .int .i64 ah, .int .i64 am], .agg #[.int .i64 bw, .int .i64 bh, .int .i64 bm]] W fun e w' => e = .returned (.int .i64 (shPn ol (shTwo kd sb) aw ah am bw bh bm mx)) ∧ Below W.heap.size W w' := by
 have HA := hid hA; clear hA; have HO := hid ho; clear ho; obtain ⟨B, hB⟩ : ∃ B, W.heap.size = B := ⟨_, rfl⟩; have HI0 := hid (St.init hB)
 go_enter Try.func44, Try.ntmps44
 go_upto_region 1 with fail
 have H1 := hid (show St _ _ (.cells (B + 1 + 1) _ _ :: .cells (B + 1) _ _ :: .cells B _ _ :: _) _ _ from (((HI0.out.alloc A 33 hB).alloc #[.int .i64 aw, .int .i64 ah, .int .i64 am] 24 (by first | exact hB | simp [hB])).alloc #[.int .i64 bw, .int .i64 bh, .int .i64 bm] 24 (by first | exact hB | simp [hB]))); first | refine gK H1 ?_ | refine gL H1 ?_ | refine gC H1 ?_
 clear H1; intro w1 H1; have z1 := H1.out.loadStg 2 rfl (by rw [HA.out]; rfl)
 go_wp2_with (refine loadArm z1 (by rfl) (by rfl) ?_)
 clear z1; refine (pair_any HA.out _).mono ?_; rintro e w1 ⟨rfl, hb⟩; have H2 := hid (H1.out.call hb); clear hb; obtain ⟨b1, hb1⟩ : ∃ xx', shTwo kd sb = xx' := ⟨_, rfl⟩; rw [hb1]; have HNb1 := hid hb1; clear hb1; have z1 := H2.out.cell 2 rfl 16 (show A[16]? = some (.slice oa on oc) from by rw [HA.out]; rfl); go_wp2_with fail
 clear z1; refine (pvalid_any14 _ _ _ ol b1 _ (H2.out.oldPrs HO.out)).mono ?_; rintro e w1 ⟨rfl, hb⟩; have H1 := hid (H2.out.call hb); clear hb; obtain ⟨c1, hc1⟩ : ∃ xx', vCode ol b1 = xx' := ⟨_, rfl⟩; rw [hc1]; have HNc1 := hid hc1; clear hc1; by_cases c2 : (c1 : Int) = 0
 ·
  obtain ⟨c2c, c2d⟩ : (c1 : Int) ≤ 0 ∧ (0 : Int) ≤ c1 := by omega
  have c2a : ((c1 : Int) == (0)) = true := by simpa using c2
  have c2b : ((c1 : Int) != (0)) = false := by simpa using c2
  have c2h := hid c2; clear c2; by_cases c4 : (mx : Int) < 1
  ·
   have z1 := H1.out.cell 2 rfl 17 (show A[17]? = some (.int .i64 mx) from by rw [HA.out]; rfl); go_wp2_with fail
   clear z1
   go_ret
   exact ⟨by rw [show shPn ol (shTwo kd sb) aw ah am bw bh bm mx = 2 from by unfold shPn; rw [HNb1.out]; rw [if_neg (by rw [HNc1.out]; have := c2h.out; omega), if_pos (by unfold valOk; simp; omega)]] <;> rfl, H1.out.bl⟩
  by_cases c4 : (4294967296 : Int) < mx
  ·
   have z1 := H1.out.cell 2 rfl 17 (show A[17]? = some (.int .i64 mx) from by rw [HA.out]; rfl); go_wp2_with fail
   clear z1
   go_ret
   exact ⟨by rw [show shPn ol (shTwo kd sb) aw ah am bw bh bm mx = 2 from by unfold shPn; rw [HNb1.out]; rw [if_neg (by rw [HNc1.out]; have := c2h.out; omega), if_pos (by unfold valOk; simp; omega)]] <;> rfl, H1.out.bl⟩
  cases b1; rotate_left
  ·
   obtain ⟨z1, z2, z3⟩ := H1.out.c3 0 rfl; obtain ⟨z4, z5, z6⟩ := H1.out.c3 1 rfl; have z7 := H1.out.cell 2 rfl 17 (show A[17]? = some (.int .i64 mx) from by rw [HA.out]; rfl); have z8 := H1.out.cell 2 rfl 16 (show A[16]? = some (.slice oa on oc) from by rw [HA.out]; rfl); go_wp2_with fail
   clear z1 z2 z3 z4 z5 z6 z7 z8; refine (pinterval_any _ _ _ ol am bm _ (H1.out.oldPrs HO.out)).mono ?_; rintro e w1 ⟨rfl, hb⟩; have H2 := hid (H1.out.call hb); clear hb; obtain ⟨i1, hi1⟩ : ∃ xx', (ivR ol am bm).1 = xx' := ⟨_, rfl⟩; rw [hi1]; have HNi1 := hid hi1; clear hi1; obtain ⟨i1, hi1⟩ : ∃ xx', (ivR ol am bm).2.1 = xx' := ⟨_, rfl⟩; rw [hi1]; have HNi1 := hid hi1; clear hi1; obtain ⟨k1, hk1⟩ : ∃ xx', (ivR ol am bm).2.2 = xx' := ⟨_, rfl⟩; rw [hk1]; have HNk1 := hid hk1; clear hk1; by_cases c4 : (k1 : Int) = 0
   ·
    obtain ⟨c4c, c4d⟩ : (k1 : Int) ≤ 0 ∧ (0 : Int) ≤ k1 := by omega
    have c4a : ((k1 : Int) == (0)) = true := by simpa using c4
    have c4b : ((k1 : Int) != (0)) = false := by simpa using c4
    have c4h := hid c4; clear c4; by_cases c5 : (aw : Int) = bw
    ·
     obtain ⟨c5c, c5d⟩ : (aw : Int) ≤ bw ∧ (bw : Int) ≤ aw := by omega
     have c5a : ((aw : Int) == (bw)) = true := by simpa using c5
     have c5b : ((aw : Int) != (bw)) = false := by simpa using c5
     have c5h := hid c5; clear c5; by_cases c6 : (ah : Int) = bh
     ·
      obtain ⟨c6c, c6d⟩ : (ah : Int) ≤ bh ∧ (bh : Int) ≤ ah := by omega
      have c6a : ((ah : Int) == (bh)) = true := by simpa using c6
      have c6b : ((ah : Int) != (bh)) = false := by simpa using c6
      have c6h := hid c6; clear c6; obtain ⟨z1, z2, z3⟩ := H2.out.c3 1 rfl; obtain ⟨z4, z5, z6⟩ := H2.out.c3 0 rfl; go_wp2_with fail
      clear z1 z2 z3 z4 z5 z6
      go_ret
      exact ⟨by rw [show shPn ol (shTwo kd sb) aw ah am bw bh bm mx = 0 from by unfold shPn; rw [HNb1.out, show pwS true bm = bm from rfl]; rw [if_neg (by rw [HNc1.out]; have := c2h.out; have := c4h.out; have := c5h.out; have := c6h.out; omega), if_neg (by unfold valOk; simp; omega), if_neg (by rw [HNk1.out]; have := c2h.out; have := c4h.out; have := c5h.out; have := c6h.out; omega), if_neg (by have := c2h.out; have := c4h.out; have := c5h.out; have := c6h.out; simp; try omega)]] <;> rfl, H2.out.bl⟩
     have c6a : ((ah : Int) == (bh)) = false := by simpa using c6
     have c6b : ((ah : Int) != (bh)) = true := by simpa using c6
     have c6h := hid c6; clear c6; obtain ⟨z1, z2, z3⟩ := H2.out.c3 1 rfl; obtain ⟨z4, z5, z6⟩ := H2.out.c3 0 rfl; go_wp2_with fail
     clear z1 z2 z3 z4 z5 z6
     go_ret
     exact ⟨by rw [show shPn ol (shTwo kd sb) aw ah am bw bh bm mx = 8 from by unfold shPn; rw [HNb1.out, show pwS true bm = bm from rfl]; rw [if_neg (by rw [HNc1.out]; have := c2h.out; have := c4h.out; have := c5h.out; have := c6h.out; omega), if_neg (by unfold valOk; simp; omega), if_neg (by rw [HNk1.out]; have := c2h.out; have := c4h.out; have := c5h.out; have := c6h.out; omega), if_pos (by have := c2h.out; have := c4h.out; have := c5h.out; have := c6h.out; simp; omega)]] <;> rfl, H2.out.bl⟩
    have c5a : ((aw : Int) == (bw)) = false := by simpa using c5
    have c5b : ((aw : Int) != (bw)) = true := by simpa using c5
    have c5h := hid c5; clear c5; obtain ⟨z1, z2, z3⟩ := H2.out.c3 1 rfl; obtain ⟨z4, z5, z6⟩ := H2.out.c3 0 rfl; go_wp2_with fail
    clear z1 z2 z3 z4 z5 z6
    go_ret
    exact ⟨by rw [show shPn ol (shTwo kd sb) aw ah am bw bh bm mx = 8 from by unfold shPn; rw [HNb1.out, show pwS true bm = bm from rfl]; rw [if_neg (by rw [HNc1.out]; have := c2h.out; have := c4h.out; have := c5h.out; omega), if_neg (by unfold valOk; simp; omega), if_neg (by rw [HNk1.out]; have := c2h.out; have := c4h.out; have := c5h.out; omega), if_pos (by have := c2h.out; have := c4h.out; have := c5h.out; simp; omega)]] <;> rfl, H2.out.bl⟩
   have c4a : ((k1 : Int) == (0)) = false := by simpa using c4
   have c4b : ((k1 : Int) != (0)) = true := by simpa using c4
   have c4h := hid c4; clear c4; go_wp2_with fail
   go_ret
   exact ⟨by rw [show shPn ol (shTwo kd sb) aw ah am bw bh bm mx = k1 from by unfold shPn; rw [HNb1.out, show pwS true bm = bm from rfl]; rw [if_neg (by rw [HNc1.out]; have := c2h.out; have := c4h.out; omega), if_neg (by unfold valOk; simp; omega), if_pos (by rw [HNk1.out]; have := c2h.out; have := c4h.out; omega), HNk1.out]] <;> rfl, H2.out.bl⟩
  obtain ⟨z1, z2, z128⟩ := H1.out.c3 1 rfl; have z3 := H1.out.cell 2 rfl 17 (show A[17]? = some (.int .i64 mx) from by rw [HA.out]; rfl); have z4 := H1.out.cell 2 rfl 16 (show A[16]? = some (.slice oa on oc) from by rw [HA.out]; rfl); go_wp2_with fail
  clear z1 z2 z128 z3 z4; refine (pinterval_any _ _ _ ol am 1 _ (H1.out.oldPrs HO.out)).mono ?_; rintro e w1 ⟨rfl, hb⟩; have H2 := hid (H1.out.call hb); clear hb; obtain ⟨i1, hi1⟩ : ∃ xx', (ivR ol am 1).1 = xx' := ⟨_, rfl⟩; rw [hi1]; have HNi1 := hid hi1; clear hi1; obtain ⟨i1, hi1⟩ : ∃ xx', (ivR ol am 1).2.1 = xx' := ⟨_, rfl⟩; rw [hi1]; have HNi1 := hid hi1; clear hi1; obtain ⟨k1, hk1⟩ : ∃ xx', (ivR ol am 1).2.2 = xx' := ⟨_, rfl⟩; rw [hk1]; have HNk1 := hid hk1; clear hk1; by_cases c4 : (k1 : Int) = 0
  ·
   obtain ⟨c4c, c4d⟩ : (k1 : Int) ≤ 0 ∧ (0 : Int) ≤ k1 := by omega
   have c4a : ((k1 : Int) == (0)) = true := by simpa using c4
   have c4b : ((k1 : Int) != (0)) = false := by simpa using c4
   have c4h := hid c4; clear c4; go_wp2_with fail
   go_ret
   exact ⟨by rw [show shPn ol (shTwo kd sb) aw ah am bw bh bm mx = 0 from by unfold shPn; rw [HNb1.out, show pwS false bm = 1 from rfl]; rw [if_neg (by rw [HNc1.out]; have := c2h.out; have := c4h.out; omega), if_neg (by unfold valOk; simp; omega), if_neg (by rw [HNk1.out]; have := c2h.out; have := c4h.out; omega), if_neg (by have := c2h.out; have := c4h.out; simp; try omega)]] <;> rfl, H2.out.bl⟩
  have c4a : ((k1 : Int) == (0)) = false := by simpa using c4
  have c4b : ((k1 : Int) != (0)) = true := by simpa using c4
  have c4h := hid c4; clear c4; go_wp2_with fail
  go_ret
  exact ⟨by rw [show shPn ol (shTwo kd sb) aw ah am bw bh bm mx = k1 from by unfold shPn; rw [HNb1.out, show pwS false bm = 1 from rfl]; rw [if_neg (by rw [HNc1.out]; have := c2h.out; have := c4h.out; omega), if_neg (by unfold valOk; simp; omega), if_pos (by rw [HNk1.out]; have := c2h.out; have := c4h.out; omega), HNk1.out]] <;> rfl, H2.out.bl⟩
 have c2a : ((c1 : Int) == (0)) = false := by simpa using c2
 have c2b : ((c1 : Int) != (0)) = true := by simpa using c2
 have c2h := hid c2; clear c2; go_wp2_with fail
 go_ret
 exact ⟨by rw [show shPn ol (shTwo kd sb) aw ah am bw bh bm mx = c1 from by unfold shPn; rw [HNb1.out]; rw [if_pos (by rw [HNc1.out]; have := c2h.out; omega), HNc1.out]] <;> rfl, H1.out.bl⟩

set_option maxRecDepth 100000 in
set_option maxHeartbeats 1600000 in
theorem shcheck_any {kd sa sb : Int} {bar : Bool} {ep ef kw kh : Int} {wa : Option Addr} {wn wc : Nat} {ra : Option Addr} {rn rc : Nat} {ca : Option Addr} {cn cc : Nat} {sh sh2 : Int} {xa : Option Addr} {xn xc : Nat} {ya : Option Addr} {yn yc : Nat} {bins : Int} {oa : Option Addr} {on oc : Nat} {mx : Int} {A : Array Value} (hA : A = #[.int .i64 kd, .int .i64 sa, .int .i64 sb, .bool bar, .int .i64 ep, .int .i64 ef, .int .i64 kw, .int .i64 kh, .slice wa wn wc, .slice ra rn rc, .slice ca cn cc, .int .i64 sh, .int .i64 sh2, .slice xa xn xc, .slice ya yn yc, .int .i64 bins, .slice oa on oc, .int .i64 mx]) (wl rl cl : List Int) (X Y : Tbl) (ol : List (Int × Int)) (aw ah am bw bh bm : Int) (W : World) (hw : Slc W wa wn wc wl) (hr : Slc W ra rn rc rl) (hc : Slc W ca cn cc cl) (hx : Tps W xa xn xc X) (hy : Tps W ya yn yc Y) (ho : Prs W oa on oc ol) : Calls Try.prog 28 #[.agg A, .agg #[.int .i64 aw, .int .i64 ah, .int .i64 am], .agg #[.int .i64 bw, .int .i64 bh, .int .i64 bm]] W fun e w' => e = .returned (.int .i64 (shCk kd sb kw kh wl rl cl sh sh2 X Y bins ol mx aw ah am bw bh bm)) ∧ Below W.heap.size W w' := by
 have HA := hid hA; clear hA; have HWL := hid hw; have HRL := hid hr; have HCL := hid hc; have HX := hid hx; have HY := hid hy; have HO := hid ho; clear hw hr hc hx hy ho; obtain ⟨B, hB⟩ : ∃ B, W.heap.size = B := ⟨_, rfl⟩; have HI0 := hid (St.init hB)
 go_enter Try.func28, Try.ntmps28
 go_upto_region 1 with fail
 have H1 := hid (show St _ _ (.cells (B + 1 + 1) _ _ :: .cells (B + 1) _ _ :: .cells B _ _ :: _) _ _ from (((HI0.out.alloc A 33 hB).alloc #[.int .i64 aw, .int .i64 ah, .int .i64 am] 24 (by first | exact hB | simp [hB])).alloc #[.int .i64 bw, .int .i64 bh, .int .i64 bm] 24 (by first | exact hB | simp [hB]))); first | refine gK H1 ?_ | refine gL H1 ?_ | refine gC H1 ?_
 clear H1; intro w1 H1; by_cases c1 : (kd : Int) = 1
 ·
  obtain ⟨c1c, c1d⟩ : (kd : Int) ≤ 1 ∧ (1 : Int) ≤ kd := by omega
  have c1a : ((kd : Int) == (1)) = true := by simpa using c1
  have c1b : ((kd : Int) != (1)) = false := by simpa using c1
  have c1h := hid c1; clear c1; obtain ⟨z1, z2, z3⟩ := H1.out.c3 1 rfl; have z4 := H1.out.cell 2 rfl 0 (show A[0]? = some (.int .i64 kd) from by rw [HA.out]; rfl); have z5 := H1.out.cell 2 rfl 6 (show A[6]? = some (.int .i64 kw) from by rw [HA.out]; rfl); have z6 := H1.out.cell 2 rfl 7 (show A[7]? = some (.int .i64 kh) from by rw [HA.out]; rfl); have z7 := H1.out.cell 2 rfl 8 (show A[8]? = some (.slice wa wn wc) from by rw [HA.out]; rfl); have z8 := H1.out.cell 2 rfl 11 (show A[11]? = some (.int .i64 sh) from by rw [HA.out]; rfl); have z9 := H1.out.cell 2 rfl 17 (show A[17]? = some (.int .i64 mx) from by rw [HA.out]; rfl); go_wp2_with fail
  clear z1 z2 z3 z4 z5 z6 z7 z8 z9; refine (ccheck_any _ _ _ _ _ _ _ _ wl _ (H1.out.old HWL.out)).mono ?_; rintro e w1 ⟨rfl, hb⟩; have H2 := hid (H1.out.call hb); clear hb; obtain ⟨c2, hc1⟩ : ∃ xx', cvCode am kw kh wl sh mx = xx' := ⟨_, rfl⟩; rw [hc1]; have HNc1 := hid hc1; clear hc1; go_wp2_with fail
  go_ret
  exact ⟨by rw [show shCk kd sb kw kh wl rl cl sh sh2 X Y bins ol mx aw ah am bw bh bm = c2 from by unfold shCk; rw [if_pos (by have := c1h.out; omega)]; exact HNc1.out] <;> rfl, H2.out.bl⟩
 have c1a : ((kd : Int) == (1)) = false := by simpa using c1
 have c1b : ((kd : Int) != (1)) = true := by simpa using c1
 have c1h := hid c1; clear c1; by_cases c2 : (kd : Int) = 2
 ·
  obtain ⟨c2c, c2d⟩ : (kd : Int) ≤ 2 ∧ (2 : Int) ≤ kd := by omega
  have c2a : ((kd : Int) == (2)) = true := by simpa using c2
  have c2b : ((kd : Int) != (2)) = false := by simpa using c2
  have c2h := hid c2; clear c2; obtain ⟨z1, z2, z3⟩ := H1.out.c3 1 rfl; have z4 := H1.out.cell 2 rfl 0 (show A[0]? = some (.int .i64 kd) from by rw [HA.out]; rfl); have z5 := H1.out.cell 2 rfl 9 (show A[9]? = some (.slice ra rn rc) from by rw [HA.out]; rfl); have z6 := H1.out.cell 2 rfl 10 (show A[10]? = some (.slice ca cn cc) from by rw [HA.out]; rfl); have z7 := H1.out.cell 2 rfl 11 (show A[11]? = some (.int .i64 sh) from by rw [HA.out]; rfl); have z8 := H1.out.cell 2 rfl 12 (show A[12]? = some (.int .i64 sh2) from by rw [HA.out]; rfl); have z9 := H1.out.cell 2 rfl 17 (show A[17]? = some (.int .i64 mx) from by rw [HA.out]; rfl); go_wp2_with fail
  clear z1 z2 z3 z4 z5 z6 z7 z8 z9; refine (scheck_any _ _ _ _ _ _ _ rl _ _ _ cl _ (H1.out.old HRL.out) (H1.out.old HCL.out)).mono ?_; rintro e w1 ⟨rfl, hb⟩; have H2 := hid (H1.out.call hb); clear hb; obtain ⟨c4, hc1⟩ : ∃ xx', spCode am rl cl sh sh2 mx = xx' := ⟨_, rfl⟩; rw [hc1]; have HNc1 := hid hc1; clear hc1; go_wp2_with fail
  go_ret
  exact ⟨by rw [show shCk kd sb kw kh wl rl cl sh sh2 X Y bins ol mx aw ah am bw bh bm = c4 from by unfold shCk; rw [if_neg (by have := c1h.out; have := c2h.out; omega), if_pos (by have := c1h.out; have := c2h.out; omega)]; exact HNc1.out] <;> rfl, H2.out.bl⟩
 have c2a : ((kd : Int) == (2)) = false := by simpa using c2
 have c2b : ((kd : Int) != (2)) = true := by simpa using c2
 have c2h := hid c2; clear c2; by_cases c4 : (kd : Int) = 3
 ·
  obtain ⟨c4c, c4d⟩ : (kd : Int) ≤ 3 ∧ (3 : Int) ≤ kd := by omega
  have c4a : ((kd : Int) == (3)) = true := by simpa using c4
  have c4b : ((kd : Int) != (3)) = false := by simpa using c4
  have c4h := hid c4; clear c4; obtain ⟨z1, z2, z3⟩ := H1.out.c3 1 rfl; have z4 := H1.out.cell 2 rfl 0 (show A[0]? = some (.int .i64 kd) from by rw [HA.out]; rfl); have z5 := H1.out.cell 2 rfl 13 (show A[13]? = some (.slice xa xn xc) from by rw [HA.out]; rfl); have z6 := H1.out.cell 2 rfl 14 (show A[14]? = some (.slice ya yn yc) from by rw [HA.out]; rfl); have z7 := H1.out.cell 2 rfl 11 (show A[11]? = some (.int .i64 sh) from by rw [HA.out]; rfl); have z8 := H1.out.cell 2 rfl 12 (show A[12]? = some (.int .i64 sh2) from by rw [HA.out]; rfl); have z9 := H1.out.cell 2 rfl 17 (show A[17]? = some (.int .i64 mx) from by rw [HA.out]; rfl); go_wp2_with fail
  clear z1 z2 z3 z4 z5 z6 z7 z8 z9; refine (rzcheck_any _ _ _ _ _ _ X _ _ _ Y _ _ _ _ (H1.out.oldTps HX.out) (H1.out.oldTps HY.out)).mono ?_; rintro e w1 ⟨rfl, hb⟩; have H2 := hid (H1.out.call hb); clear hb; obtain ⟨c5, hc1⟩ : ∃ xx', rzCode aw ah am X Y sh sh2 mx = xx' := ⟨_, rfl⟩; rw [hc1]; have HNc1 := hid hc1; clear hc1; go_wp2_with fail
  go_ret
  exact ⟨by rw [show shCk kd sb kw kh wl rl cl sh sh2 X Y bins ol mx aw ah am bw bh bm = c5 from by unfold shCk; rw [if_neg (by have := c1h.out; have := c2h.out; have := c4h.out; omega), if_neg (by have := c1h.out; have := c2h.out; have := c4h.out; omega), if_pos (by have := c1h.out; have := c2h.out; have := c4h.out; omega)]; exact HNc1.out] <;> rfl, H2.out.bl⟩
 have c4a : ((kd : Int) == (3)) = false := by simpa using c4
 have c4b : ((kd : Int) != (3)) = true := by simpa using c4
 have c4h := hid c4; clear c4; by_cases c5 : (kd : Int) = 4
 ·
  obtain ⟨c5c, c5d⟩ : (kd : Int) ≤ 4 ∧ (4 : Int) ≤ kd := by omega
  have c5a : ((kd : Int) == (4)) = true := by simpa using c5
  have c5b : ((kd : Int) != (4)) = false := by simpa using c5
  have c5h := hid c5; clear c5; by_cases c6 : (bins : Int) < 1
  ·
   have z1 := H1.out.cell 2 rfl 0 (show A[0]? = some (.int .i64 kd) from by rw [HA.out]; rfl); have z2 := H1.out.cell 2 rfl 15 (show A[15]? = some (.int .i64 bins) from by rw [HA.out]; rfl); go_wp2_with fail
   clear z1 z2
   go_ret
   exact ⟨by rw [show shCk kd sb kw kh wl rl cl sh sh2 X Y bins ol mx aw ah am bw bh bm = 9 from by unfold shCk; rw [if_neg (by have := c1h.out; have := c2h.out; have := c4h.out; have := c5h.out; omega), if_neg (by have := c1h.out; have := c2h.out; have := c4h.out; have := c5h.out; omega), if_neg (by have := c1h.out; have := c2h.out; have := c4h.out; have := c5h.out; omega), if_pos (by have := c1h.out; have := c2h.out; have := c4h.out; have := c5h.out; omega), if_neg (by omega)]] <;> rfl, H1.out.bl⟩
  by_cases c6 : (128 : Int) < bins
  ·
   have z1 := H1.out.cell 2 rfl 0 (show A[0]? = some (.int .i64 kd) from by rw [HA.out]; rfl); have z2 := H1.out.cell 2 rfl 15 (show A[15]? = some (.int .i64 bins) from by rw [HA.out]; rfl); go_wp2_with fail
   clear z1 z2
   go_ret
   exact ⟨by rw [show shCk kd sb kw kh wl rl cl sh sh2 X Y bins ol mx aw ah am bw bh bm = 9 from by unfold shCk; rw [if_neg (by have := c1h.out; have := c2h.out; have := c4h.out; have := c5h.out; omega), if_neg (by have := c1h.out; have := c2h.out; have := c4h.out; have := c5h.out; omega), if_neg (by have := c1h.out; have := c2h.out; have := c4h.out; have := c5h.out; omega), if_pos (by have := c1h.out; have := c2h.out; have := c4h.out; have := c5h.out; omega), if_neg (by omega)]] <;> rfl, H1.out.bl⟩
  have z1 := H1.out.cell 2 rfl 0 (show A[0]? = some (.int .i64 kd) from by rw [HA.out]; rfl); have z2 := H1.out.cell 2 rfl 15 (show A[15]? = some (.int .i64 bins) from by rw [HA.out]; rfl); go_wp2_with fail
  clear z1 z2
  go_ret
  exact ⟨by rw [show shCk kd sb kw kh wl rl cl sh sh2 X Y bins ol mx aw ah am bw bh bm = 0 from by unfold shCk; rw [if_neg (by have := c1h.out; have := c2h.out; have := c4h.out; have := c5h.out; omega), if_neg (by have := c1h.out; have := c2h.out; have := c4h.out; have := c5h.out; omega), if_neg (by have := c1h.out; have := c2h.out; have := c4h.out; have := c5h.out; omega), if_pos (by have := c1h.out; have := c2h.out; have := c4h.out; have := c5h.out; omega), if_pos (by omega)]] <;> rfl, H1.out.bl⟩
 have c5a : ((kd : Int) == (4)) = false := by simpa using c5
 have c5b : ((kd : Int) != (4)) = true := by simpa using c5
 have c5h := hid c5; clear c5; by_cases c6 : (kd : Int) = 5
 ·
  obtain ⟨c6c, c6d⟩ : (kd : Int) ≤ 5 ∧ (5 : Int) ≤ kd := by omega
  have c6a : ((kd : Int) == (5)) = true := by simpa using c6
  have c6b : ((kd : Int) != (5)) = false := by simpa using c6
  have c6h := hid c6; clear c6; obtain ⟨z1, z2, z3⟩ := H1.out.c3 1 rfl; have z4 := H1.out.cell 2 rfl 0 (show A[0]? = some (.int .i64 kd) from by rw [HA.out]; rfl); go_wp2_with fail
  clear z1 z2 z3 z4; refine (icheck_any _ _ _ _).mono ?_; rintro e w1 ⟨rfl, hb⟩; have H2 := hid (H1.out.call hb); clear hb; obtain ⟨c7, hc1⟩ : ∃ xx', iCode aw ah am = xx' := ⟨_, rfl⟩; rw [hc1]; have HNc1 := hid hc1; clear hc1; go_wp2_with fail
  go_ret
  exact ⟨by rw [show shCk kd sb kw kh wl rl cl sh sh2 X Y bins ol mx aw ah am bw bh bm = c7 from by unfold shCk; rw [if_neg (by have := c1h.out; have := c2h.out; have := c4h.out; have := c5h.out; have := c6h.out; omega), if_neg (by have := c1h.out; have := c2h.out; have := c4h.out; have := c5h.out; have := c6h.out; omega), if_neg (by have := c1h.out; have := c2h.out; have := c4h.out; have := c5h.out; have := c6h.out; omega), if_neg (by have := c1h.out; have := c2h.out; have := c4h.out; have := c5h.out; have := c6h.out; omega), if_pos (by have := c1h.out; have := c2h.out; have := c4h.out; have := c5h.out; have := c6h.out; omega)]; exact HNc1.out] <;> rfl, H2.out.bl⟩
 have c6a : ((kd : Int) == (5)) = false := by simpa using c6
 have c6b : ((kd : Int) != (5)) = true := by simpa using c6
 have c6h := hid c6; clear c6; obtain ⟨z1, z2, z3⟩ := H1.out.c3 1 rfl; obtain ⟨z4, z5, z6⟩ := H1.out.c3 0 rfl; have z7 := H1.out.cell 2 rfl 0 (show A[0]? = some (.int .i64 kd) from by rw [HA.out]; rfl); have z8 := H1.out.loadStg 2 rfl (by rw [HA.out]; rfl)
 go_wp2_with (refine loadArm z8 (by rfl) (by rfl) ?_)
 clear z1 z2 z3 z4 z5 z6 z7 z8; refine (point_any HA.out ol aw ah am bw bh bm _ (H1.out.oldPrs HO.out)).mono ?_; rintro e w1 ⟨rfl, hb⟩; have H2 := hid (H1.out.call hb); clear hb; obtain ⟨c7, hc1⟩ : ∃ xx', shPn ol (shTwo kd sb) aw ah am bw bh bm mx = xx' := ⟨_, rfl⟩; rw [hc1]; have HNc1 := hid hc1; clear hc1; go_wp2_with fail
 go_ret
 exact ⟨by rw [show shCk kd sb kw kh wl rl cl sh sh2 X Y bins ol mx aw ah am bw bh bm = c7 from by unfold shCk; rw [if_neg (by have := c1h.out; have := c2h.out; have := c4h.out; have := c5h.out; have := c6h.out; omega), if_neg (by have := c1h.out; have := c2h.out; have := c4h.out; have := c5h.out; have := c6h.out; omega), if_neg (by have := c1h.out; have := c2h.out; have := c4h.out; have := c5h.out; have := c6h.out; omega), if_neg (by have := c1h.out; have := c2h.out; have := c4h.out; have := c5h.out; have := c6h.out; omega), if_neg (by have := c1h.out; have := c2h.out; have := c4h.out; have := c5h.out; have := c6h.out; omega)]; exact HNc1.out] <;> rfl, H2.out.bl⟩
end Go.Proofs.Yteejjnhlfgjlaaa
