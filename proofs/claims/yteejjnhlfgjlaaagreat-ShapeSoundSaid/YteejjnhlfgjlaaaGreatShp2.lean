/-
 Contracts: the errors that depend on the kind of a stage, in the program.
-/
import Derived.Test.YteejjnhlfgjlaaaGreatEA
import Derived.Test.YteejjnhlfgjlaaaGreatKN
import Derived.Test.YteejjnhlfgjlaaaGreatSpChk
import Derived.Test.YteejjnhlfgjlaaaGreatRzChk
import Derived.Test.YteejjnhlfgjlaaaGreatKB
import Derived.Test.YteejjnhlfgjlaaaGreatPC
import Derived.Test.YteejjnhlfgjlaaaGreatPw10
namespace Go.Proofs.YteejjnhlfgjlaaaGreat
open Go.RowKit
attribute [local go_sem ↓] Go.wp_at_zero Go.wp_at_succ
set_option linter.unusedVariables false
set_option linter.unusedSimpArgs false

set_option maxRecDepth 100000 in
set_option maxHeartbeats 1600000 in
theorem point_any {kd sa sb : Int} {bar : Bool} {ep ef kw kh : Int} {wa : Option Addr} {wn wc : Nat} {ra : Option Addr} {rn rc : Nat} {ca : Option Addr} {cn cc : Nat} {sh sh2 : Int} {xa : Option Addr} {xn xc : Nat} {ya : Option Addr} {yn yc : Nat} {bins : Int} {oa : Option Addr} {on oc : Nat} {mx : Int} {A : Array Value} (hA : A = #[.int .i64 kd, .int .i64 sa, .int .i64 sb, .bool bar, .int .i64 ep, .int .i64 ef, .int .i64 kw, .int .i64 kh, .slice wa wn wc, .slice ra rn rc, .slice ca cn cc, .int .i64 sh, .int .i64 sh2, .slice xa xn xc, .slice ya yn yc, .int .i64 bins, .slice oa on oc, .int .i64 mx]) (ol : List (Int × Int)) (aw ah am bw bh bm : Int) (W : World) (ho : Prs W oa on oc ol) : Calls Tryz.prog 43 #[.agg A, .agg #[.int .i64 aw, .int .i64 ah, .int .i64 am], .agg #[.int .i64 bw, .int .i64 bh, .int .i64 bm]] W fun e w' => e = .returned (.int .i64 (shPn ol (shTwo kd sb) aw ah am bw bh bm mx)) ∧ Below W.heap.size W w' := by
 have HA := kq hA; clear hA; have HO := kq ho; clear ho; obtain ⟨B, hB⟩ : ∃ B, W.heap.size = B := ⟨_, rfl⟩; have HI0 := kq (St.init hB)
 go_enter Tryz.func43, Tryz.ntmps43
 go_upto_region 1 with fail
 have H1 := kq (show St _ _ (.cells (B + 1 + 1) _ _ :: .cells (B + 1) _ _ :: .cells B _ _ :: _) _ _ from (((HI0.o.alloc A 34 hB).alloc #[.int .i64 aw, .int .i64 ah, .int .i64 am] 37 (by first | exact hB | simp [hB])).alloc #[.int .i64 bw, .int .i64 bh, .int .i64 bm] 37 (by first | exact hB | simp [hB]))); first | refine gK H1 ?_ | refine gL H1 ?_ | refine gC H1 ?_
 clear H1; intro w1 H1; have z1 := H1.o.loadStg 2 rfl (by rw [HA.o]; rfl)
 go_wp2_with (refine loadArm z1 (by rfl) (by rfl) ?_)
 clear z1; refine (pair_any HA.o _).mono ?_; rintro e w1 ⟨rfl, hb⟩; have H2 := kq (H1.o.call hb); clear hb; obtain ⟨b1, HNb1⟩ := nQ (shTwo kd sb); rw [HNb1.o]; have z1 := H2.o.cell 2 rfl 16 (show A[16]? = some (.slice oa on oc) from by rw [HA.o]; rfl); go_wp2_with fail
 clear z1; refine (pvalid_any14 _ _ _ ol b1 _ (H2.o.oldPrs HO.o)).mono ?_; rintro e w1 ⟨rfl, hb⟩; have H1 := kq (H2.o.call hb); clear hb; obtain ⟨c1, HNc1⟩ := nQ (vCode ol b1); rw [HNc1.o]
 rcases eqZ c1 0 with ⟨c2a, c2b, c2c, c2d, c2h⟩ | ⟨c2a, c2b, c2h⟩
 ·
  by_cases c4 : (mx : Int) < 1
  ·
   have z1 := H1.o.cell 2 rfl 17 (show A[17]? = some (.int .i64 mx) from by rw [HA.o]; rfl); go_wp2_with fail
   clear z1
   go_ret
   exact ⟨by rw [show shPn ol (shTwo kd sb) aw ah am bw bh bm mx = 2 from by unfold shPn; rw [HNb1.o]; rw [if_neg (by rw [HNc1.o]; have := c2h.o; omega), if_pos (by unfold valOk; simp; omega)]] <;> rfl, H1.o.bl⟩
  by_cases c4 : (4294967296 : Int) < mx
  ·
   have z1 := H1.o.cell 2 rfl 17 (show A[17]? = some (.int .i64 mx) from by rw [HA.o]; rfl); go_wp2_with fail
   clear z1
   go_ret
   exact ⟨by rw [show shPn ol (shTwo kd sb) aw ah am bw bh bm mx = 2 from by unfold shPn; rw [HNb1.o]; rw [if_neg (by rw [HNc1.o]; have := c2h.o; omega), if_pos (by unfold valOk; simp; omega)]] <;> rfl, H1.o.bl⟩
  cases b1; rotate_left
  ·
   have z1 := H1.o.c3 0 rfl; have z4 := H1.o.c3 1 rfl; have z7 := H1.o.cell 2 rfl 17 (show A[17]? = some (.int .i64 mx) from by rw [HA.o]; rfl); have z8 := H1.o.cell 2 rfl 16 (show A[16]? = some (.slice oa on oc) from by rw [HA.o]; rfl); go_wp2_with fail
   clear z1 z4 z7 z8; refine (pinterval_any _ _ _ ol am bm _ (H1.o.oldPrs HO.o)).mono ?_; rintro e w1 ⟨rfl, hb⟩; have H2 := kq (H1.o.call hb); clear hb; obtain ⟨i1, HNi1⟩ := nQ ((ivR ol am bm).1); rw [HNi1.o]; obtain ⟨i1, HNi1⟩ := nQ ((ivR ol am bm).2.1); rw [HNi1.o]; obtain ⟨k1, HNk1⟩ := nQ ((ivR ol am bm).2.2); rw [HNk1.o]
   rcases eqZ k1 0 with ⟨c4a, c4b, c4c, c4d, c4h⟩ | ⟨c4a, c4b, c4h⟩
   ·
    rcases eqZ aw bw with ⟨c5a, c5b, c5c, c5d, c5h⟩ | ⟨c5a, c5b, c5h⟩
    ·
     rcases eqZ ah bh with ⟨c6a, c6b, c6c, c6d, c6h⟩ | ⟨c6a, c6b, c6h⟩
     ·
      have z1 := H2.o.c3 1 rfl; have z4 := H2.o.c3 0 rfl; go_wp2_with fail
      clear z1 z4
      go_ret
      exact ⟨by rw [show shPn ol (shTwo kd sb) aw ah am bw bh bm mx = 0 from by unfold shPn; rw [HNb1.o, show pwS true bm = bm from rfl]; rw [if_neg (by rw [HNc1.o]; have := c2h.o; have := c4h.o; have := c5h.o; have := c6h.o; omega), if_neg (by unfold valOk; simp; omega), if_neg (by rw [HNk1.o]; have := c2h.o; have := c4h.o; have := c5h.o; have := c6h.o; omega), if_neg (by have := c2h.o; have := c4h.o; have := c5h.o; have := c6h.o; simp; try omega)]] <;> rfl, H2.o.bl⟩
     have z1 := H2.o.c3 1 rfl; have z4 := H2.o.c3 0 rfl; go_wp2_with fail
     clear z1 z4
     go_ret
     exact ⟨by rw [show shPn ol (shTwo kd sb) aw ah am bw bh bm mx = 8 from by unfold shPn; rw [HNb1.o, show pwS true bm = bm from rfl]; rw [if_neg (by rw [HNc1.o]; have := c2h.o; have := c4h.o; have := c5h.o; have := c6h.o; omega), if_neg (by unfold valOk; simp; omega), if_neg (by rw [HNk1.o]; have := c2h.o; have := c4h.o; have := c5h.o; have := c6h.o; omega), if_pos (by have := c2h.o; have := c4h.o; have := c5h.o; have := c6h.o; simp; omega)]] <;> rfl, H2.o.bl⟩
    have z1 := H2.o.c3 1 rfl; have z4 := H2.o.c3 0 rfl; go_wp2_with fail
    clear z1 z4
    go_ret
    exact ⟨by rw [show shPn ol (shTwo kd sb) aw ah am bw bh bm mx = 8 from by unfold shPn; rw [HNb1.o, show pwS true bm = bm from rfl]; rw [if_neg (by rw [HNc1.o]; have := c2h.o; have := c4h.o; have := c5h.o; omega), if_neg (by unfold valOk; simp; omega), if_neg (by rw [HNk1.o]; have := c2h.o; have := c4h.o; have := c5h.o; omega), if_pos (by have := c2h.o; have := c4h.o; have := c5h.o; simp; omega)]] <;> rfl, H2.o.bl⟩
   go_wp2_with fail
   go_ret
   exact ⟨by rw [show shPn ol (shTwo kd sb) aw ah am bw bh bm mx = k1 from by unfold shPn; rw [HNb1.o, show pwS true bm = bm from rfl]; rw [if_neg (by rw [HNc1.o]; have := c2h.o; have := c4h.o; omega), if_neg (by unfold valOk; simp; omega), if_pos (by rw [HNk1.o]; have := c2h.o; have := c4h.o; omega), HNk1.o]] <;> rfl, H2.o.bl⟩
  have z1 := H1.o.c3 1 rfl; have z3 := H1.o.cell 2 rfl 17 (show A[17]? = some (.int .i64 mx) from by rw [HA.o]; rfl); have z4 := H1.o.cell 2 rfl 16 (show A[16]? = some (.slice oa on oc) from by rw [HA.o]; rfl); go_wp2_with fail
  clear z1 z3 z4; refine (pinterval_any _ _ _ ol am 1 _ (H1.o.oldPrs HO.o)).mono ?_; rintro e w1 ⟨rfl, hb⟩; have H2 := kq (H1.o.call hb); clear hb; obtain ⟨i1, HNi1⟩ := nQ ((ivR ol am 1).1); rw [HNi1.o]; obtain ⟨i1, HNi1⟩ := nQ ((ivR ol am 1).2.1); rw [HNi1.o]; obtain ⟨k1, HNk1⟩ := nQ ((ivR ol am 1).2.2); rw [HNk1.o]
  rcases eqZ k1 0 with ⟨c4a, c4b, c4c, c4d, c4h⟩ | ⟨c4a, c4b, c4h⟩
  ·
   go_wp2_with fail
   go_ret
   exact ⟨by rw [show shPn ol (shTwo kd sb) aw ah am bw bh bm mx = 0 from by unfold shPn; rw [HNb1.o, show pwS false bm = 1 from rfl]; rw [if_neg (by rw [HNc1.o]; have := c2h.o; have := c4h.o; omega), if_neg (by unfold valOk; simp; omega), if_neg (by rw [HNk1.o]; have := c2h.o; have := c4h.o; omega), if_neg (by have := c2h.o; have := c4h.o; simp; try omega)]] <;> rfl, H2.o.bl⟩
  go_wp2_with fail
  go_ret
  exact ⟨by rw [show shPn ol (shTwo kd sb) aw ah am bw bh bm mx = k1 from by unfold shPn; rw [HNb1.o, show pwS false bm = 1 from rfl]; rw [if_neg (by rw [HNc1.o]; have := c2h.o; have := c4h.o; omega), if_neg (by unfold valOk; simp; omega), if_pos (by rw [HNk1.o]; have := c2h.o; have := c4h.o; omega), HNk1.o]] <;> rfl, H2.o.bl⟩
 go_wp2_with fail
 go_ret
 exact ⟨by rw [show shPn ol (shTwo kd sb) aw ah am bw bh bm mx = c1 from by unfold shPn; rw [HNb1.o]; rw [if_pos (by rw [HNc1.o]; have := c2h.o; omega), HNc1.o]] <;> rfl, H1.o.bl⟩

set_option maxRecDepth 100000 in
set_option maxHeartbeats 1600000 in
theorem shcheck_any {kd sa sb : Int} {bar : Bool} {ep ef kw kh : Int} {wa : Option Addr} {wn wc : Nat} {ra : Option Addr} {rn rc : Nat} {ca : Option Addr} {cn cc : Nat} {sh sh2 : Int} {xa : Option Addr} {xn xc : Nat} {ya : Option Addr} {yn yc : Nat} {bins : Int} {oa : Option Addr} {on oc : Nat} {mx : Int} {A : Array Value} (hA : A = #[.int .i64 kd, .int .i64 sa, .int .i64 sb, .bool bar, .int .i64 ep, .int .i64 ef, .int .i64 kw, .int .i64 kh, .slice wa wn wc, .slice ra rn rc, .slice ca cn cc, .int .i64 sh, .int .i64 sh2, .slice xa xn xc, .slice ya yn yc, .int .i64 bins, .slice oa on oc, .int .i64 mx]) (wl rl cl : List Int) (X Y : Tbl) (ol : List (Int × Int)) (aw ah am bw bh bm : Int) (W : World) (hw : Slc W wa wn wc wl) (hr : Slc W ra rn rc rl) (hc : Slc W ca cn cc cl) (hx : Tps W xa xn xc X) (hy : Tps W ya yn yc Y) (ho : Prs W oa on oc ol) : Calls Tryz.prog 26 #[.agg A, .agg #[.int .i64 aw, .int .i64 ah, .int .i64 am], .agg #[.int .i64 bw, .int .i64 bh, .int .i64 bm]] W fun e w' => e = .returned (.int .i64 (shCk kd sb kw kh wl rl cl sh sh2 X Y bins ol mx aw ah am bw bh bm)) ∧ Below W.heap.size W w' := by
 have HA := kq hA; clear hA; have HWL := kq hw; have HRL := kq hr; have HCL := kq hc; have HX := kq hx; have HY := kq hy; have HO := kq ho; clear hw hr hc hx hy ho; obtain ⟨B, hB⟩ : ∃ B, W.heap.size = B := ⟨_, rfl⟩; have HI0 := kq (St.init hB)
 go_enter Tryz.func26, Tryz.ntmps26
 go_upto_region 1 with fail
 have H1 := kq (show St _ _ (.cells (B + 1 + 1) _ _ :: .cells (B + 1) _ _ :: .cells B _ _ :: _) _ _ from (((HI0.o.alloc A 34 hB).alloc #[.int .i64 aw, .int .i64 ah, .int .i64 am] 37 (by first | exact hB | simp [hB])).alloc #[.int .i64 bw, .int .i64 bh, .int .i64 bm] 37 (by first | exact hB | simp [hB]))); first | refine gK H1 ?_ | refine gL H1 ?_ | refine gC H1 ?_
 clear H1; intro w1 H1
 rcases eqZ kd 1 with ⟨c1a, c1b, c1c, c1d, c1h⟩ | ⟨c1a, c1b, c1h⟩
 ·
  have z1 := H1.o.c3 1 rfl; have z4 := H1.o.cell 2 rfl 0 (show A[0]? = some (.int .i64 kd) from by rw [HA.o]; rfl); have z5 := H1.o.cell 2 rfl 6 (show A[6]? = some (.int .i64 kw) from by rw [HA.o]; rfl); have z6 := H1.o.cell 2 rfl 7 (show A[7]? = some (.int .i64 kh) from by rw [HA.o]; rfl); have z7 := H1.o.cell 2 rfl 8 (show A[8]? = some (.slice wa wn wc) from by rw [HA.o]; rfl); have z8 := H1.o.cell 2 rfl 11 (show A[11]? = some (.int .i64 sh) from by rw [HA.o]; rfl); have z9 := H1.o.cell 2 rfl 17 (show A[17]? = some (.int .i64 mx) from by rw [HA.o]; rfl); go_wp2_with fail
  clear z1 z4 z5 z6 z7 z8 z9; refine (ccheck_any _ _ _ _ _ _ _ _ wl _ (H1.o.old HWL.o)).mono ?_; rintro e w1 ⟨rfl, hb⟩; have H2 := kq (H1.o.call hb); clear hb; obtain ⟨c2, HNc1⟩ := nQ (cvCode am kw kh wl sh mx); rw [HNc1.o]; go_wp2_with fail
  go_ret
  exact ⟨by rw [show shCk kd sb kw kh wl rl cl sh sh2 X Y bins ol mx aw ah am bw bh bm = c2 from by unfold shCk; rw [if_pos (by have := c1h.o; omega)]; exact HNc1.o] <;> rfl, H2.o.bl⟩
 rcases eqZ kd 2 with ⟨c2a, c2b, c2c, c2d, c2h⟩ | ⟨c2a, c2b, c2h⟩
 ·
  have z1 := H1.o.c3 1 rfl; have z4 := H1.o.cell 2 rfl 0 (show A[0]? = some (.int .i64 kd) from by rw [HA.o]; rfl); have z5 := H1.o.cell 2 rfl 9 (show A[9]? = some (.slice ra rn rc) from by rw [HA.o]; rfl); have z6 := H1.o.cell 2 rfl 10 (show A[10]? = some (.slice ca cn cc) from by rw [HA.o]; rfl); have z7 := H1.o.cell 2 rfl 11 (show A[11]? = some (.int .i64 sh) from by rw [HA.o]; rfl); have z8 := H1.o.cell 2 rfl 12 (show A[12]? = some (.int .i64 sh2) from by rw [HA.o]; rfl); have z9 := H1.o.cell 2 rfl 17 (show A[17]? = some (.int .i64 mx) from by rw [HA.o]; rfl); go_wp2_with fail
  clear z1 z4 z5 z6 z7 z8 z9; refine (scheck_any _ _ _ _ _ _ _ rl _ _ _ cl _ (H1.o.old HRL.o) (H1.o.old HCL.o)).mono ?_; rintro e w1 ⟨rfl, hb⟩; have H2 := kq (H1.o.call hb); clear hb; obtain ⟨c4, HNc1⟩ := nQ (spCode am rl cl sh sh2 mx); rw [HNc1.o]; go_wp2_with fail
  go_ret
  exact ⟨by rw [show shCk kd sb kw kh wl rl cl sh sh2 X Y bins ol mx aw ah am bw bh bm = c4 from by unfold shCk; rw [if_neg (by have := c1h.o; have := c2h.o; omega), if_pos (by have := c1h.o; have := c2h.o; omega)]; exact HNc1.o] <;> rfl, H2.o.bl⟩
 rcases eqZ kd 3 with ⟨c4a, c4b, c4c, c4d, c4h⟩ | ⟨c4a, c4b, c4h⟩
 ·
  have z1 := H1.o.c3 1 rfl; have z4 := H1.o.cell 2 rfl 0 (show A[0]? = some (.int .i64 kd) from by rw [HA.o]; rfl); have z5 := H1.o.cell 2 rfl 13 (show A[13]? = some (.slice xa xn xc) from by rw [HA.o]; rfl); have z6 := H1.o.cell 2 rfl 14 (show A[14]? = some (.slice ya yn yc) from by rw [HA.o]; rfl); have z7 := H1.o.cell 2 rfl 11 (show A[11]? = some (.int .i64 sh) from by rw [HA.o]; rfl); have z8 := H1.o.cell 2 rfl 12 (show A[12]? = some (.int .i64 sh2) from by rw [HA.o]; rfl); have z9 := H1.o.cell 2 rfl 17 (show A[17]? = some (.int .i64 mx) from by rw [HA.o]; rfl); go_wp2_with fail
  clear z1 z4 z5 z6 z7 z8 z9; refine (rzcheck_any _ _ _ _ _ _ X _ _ _ Y _ _ _ _ (H1.o.oldTps HX.o) (H1.o.oldTps HY.o)).mono ?_; rintro e w1 ⟨rfl, hb⟩; have H2 := kq (H1.o.call hb); clear hb; obtain ⟨c5, HNc1⟩ := nQ (rzCode aw ah am X Y sh sh2 mx); rw [HNc1.o]; go_wp2_with fail
  go_ret
  exact ⟨by rw [show shCk kd sb kw kh wl rl cl sh sh2 X Y bins ol mx aw ah am bw bh bm = c5 from by unfold shCk; rw [if_neg (by have := c1h.o; have := c2h.o; have := c4h.o; omega), if_neg (by have := c1h.o; have := c2h.o; have := c4h.o; omega), if_pos (by have := c1h.o; have := c2h.o; have := c4h.o; omega)]; exact HNc1.o] <;> rfl, H2.o.bl⟩
 rcases eqZ kd 4 with ⟨c5a, c5b, c5c, c5d, c5h⟩ | ⟨c5a, c5b, c5h⟩
 ·
  by_cases c6 : (bins : Int) < 1
  ·
   have z1 := H1.o.cell 2 rfl 0 (show A[0]? = some (.int .i64 kd) from by rw [HA.o]; rfl); have z2 := H1.o.cell 2 rfl 15 (show A[15]? = some (.int .i64 bins) from by rw [HA.o]; rfl); go_wp2_with fail
   clear z1 z2
   go_ret
   exact ⟨by rw [show shCk kd sb kw kh wl rl cl sh sh2 X Y bins ol mx aw ah am bw bh bm = 9 from by unfold shCk; rw [if_neg (by have := c1h.o; have := c2h.o; have := c4h.o; have := c5h.o; omega), if_neg (by have := c1h.o; have := c2h.o; have := c4h.o; have := c5h.o; omega), if_neg (by have := c1h.o; have := c2h.o; have := c4h.o; have := c5h.o; omega), if_pos (by have := c1h.o; have := c2h.o; have := c4h.o; have := c5h.o; omega), if_neg (by omega)]] <;> rfl, H1.o.bl⟩
  by_cases c6 : (128 : Int) < bins
  ·
   have z1 := H1.o.cell 2 rfl 0 (show A[0]? = some (.int .i64 kd) from by rw [HA.o]; rfl); have z2 := H1.o.cell 2 rfl 15 (show A[15]? = some (.int .i64 bins) from by rw [HA.o]; rfl); go_wp2_with fail
   clear z1 z2
   go_ret
   exact ⟨by rw [show shCk kd sb kw kh wl rl cl sh sh2 X Y bins ol mx aw ah am bw bh bm = 9 from by unfold shCk; rw [if_neg (by have := c1h.o; have := c2h.o; have := c4h.o; have := c5h.o; omega), if_neg (by have := c1h.o; have := c2h.o; have := c4h.o; have := c5h.o; omega), if_neg (by have := c1h.o; have := c2h.o; have := c4h.o; have := c5h.o; omega), if_pos (by have := c1h.o; have := c2h.o; have := c4h.o; have := c5h.o; omega), if_neg (by omega)]] <;> rfl, H1.o.bl⟩
  have z1 := H1.o.cell 2 rfl 0 (show A[0]? = some (.int .i64 kd) from by rw [HA.o]; rfl); have z2 := H1.o.cell 2 rfl 15 (show A[15]? = some (.int .i64 bins) from by rw [HA.o]; rfl); go_wp2_with fail
  clear z1 z2
  go_ret
  exact ⟨by rw [show shCk kd sb kw kh wl rl cl sh sh2 X Y bins ol mx aw ah am bw bh bm = 0 from by unfold shCk; rw [if_neg (by have := c1h.o; have := c2h.o; have := c4h.o; have := c5h.o; omega), if_neg (by have := c1h.o; have := c2h.o; have := c4h.o; have := c5h.o; omega), if_neg (by have := c1h.o; have := c2h.o; have := c4h.o; have := c5h.o; omega), if_pos (by have := c1h.o; have := c2h.o; have := c4h.o; have := c5h.o; omega), if_pos (by omega)]] <;> rfl, H1.o.bl⟩
 rcases eqZ kd 5 with ⟨c6a, c6b, c6c, c6d, c6h⟩ | ⟨c6a, c6b, c6h⟩
 ·
  have z1 := H1.o.c3 1 rfl; have z4 := H1.o.cell 2 rfl 0 (show A[0]? = some (.int .i64 kd) from by rw [HA.o]; rfl); go_wp2_with fail
  clear z1 z4; refine (icheck_any _ _ _ _).mono ?_; rintro e w1 ⟨rfl, hb⟩; have H2 := kq (H1.o.call hb); clear hb; obtain ⟨c7, HNc1⟩ := nQ (iCode aw ah am); rw [HNc1.o]; go_wp2_with fail
  go_ret
  exact ⟨by rw [show shCk kd sb kw kh wl rl cl sh sh2 X Y bins ol mx aw ah am bw bh bm = c7 from by unfold shCk; rw [if_neg (by have := c1h.o; have := c2h.o; have := c4h.o; have := c5h.o; have := c6h.o; omega), if_neg (by have := c1h.o; have := c2h.o; have := c4h.o; have := c5h.o; have := c6h.o; omega), if_neg (by have := c1h.o; have := c2h.o; have := c4h.o; have := c5h.o; have := c6h.o; omega), if_neg (by have := c1h.o; have := c2h.o; have := c4h.o; have := c5h.o; have := c6h.o; omega), if_pos (by have := c1h.o; have := c2h.o; have := c4h.o; have := c5h.o; have := c6h.o; omega)]; exact HNc1.o] <;> rfl, H2.o.bl⟩
 have z1 := H1.o.c3 1 rfl; have z4 := H1.o.c3 0 rfl; have z7 := H1.o.cell 2 rfl 0 (show A[0]? = some (.int .i64 kd) from by rw [HA.o]; rfl); have z8 := H1.o.loadStg 2 rfl (by rw [HA.o]; rfl)
 go_wp2_with (refine loadArm z8 (by rfl) (by rfl) ?_)
 clear z1 z4 z7 z8; refine (point_any HA.o ol aw ah am bw bh bm _ (H1.o.oldPrs HO.o)).mono ?_; rintro e w1 ⟨rfl, hb⟩; have H2 := kq (H1.o.call hb); clear hb; obtain ⟨c7, HNc1⟩ := nQ (shPn ol (shTwo kd sb) aw ah am bw bh bm mx); rw [HNc1.o]; go_wp2_with fail
 go_ret
 exact ⟨by rw [show shCk kd sb kw kh wl rl cl sh sh2 X Y bins ol mx aw ah am bw bh bm = c7 from by unfold shCk; rw [if_neg (by have := c1h.o; have := c2h.o; have := c4h.o; have := c5h.o; have := c6h.o; omega), if_neg (by have := c1h.o; have := c2h.o; have := c4h.o; have := c5h.o; have := c6h.o; omega), if_neg (by have := c1h.o; have := c2h.o; have := c4h.o; have := c5h.o; have := c6h.o; omega), if_neg (by have := c1h.o; have := c2h.o; have := c4h.o; have := c5h.o; have := c6h.o; omega), if_neg (by have := c1h.o; have := c2h.o; have := c4h.o; have := c5h.o; have := c6h.o; omega)]; exact HNc1.o] <;> rfl, H2.o.bl⟩
end Go.Proofs.YteejjnhlfgjlaaaGreat
