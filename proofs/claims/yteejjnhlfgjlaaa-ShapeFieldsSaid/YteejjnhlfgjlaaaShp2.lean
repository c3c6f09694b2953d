/-
 Contracts: the errors that depend on the kind of a stage, in the program.
-/
import Derived.Test.YteejjnhlfgjlaaaShp1
import Derived.Test.YteejjnhlfgjlaaaKN
import Derived.Test.YteejjnhlfgjlaaaSpChk
import Derived.Test.YteejjnhlfgjlaaaRzChk
import Derived.Test.YteejjnhlfgjlaaaKB
import Derived.Test.YteejjnhlfgjlaaaPw7
import Derived.Test.YteejjnhlfgjlaaaPw10
namespace Go.Proofs.Yteejjnhlfgjlaaa
open Go.RowKit
attribute [local go_sem ↓] Go.wp_at_zero Go.wp_at_succ
set_option linter.unusedVariables false
set_option linter.unusedSimpArgs false

set_option maxRecDepth 100000 in
set_option maxHeartbeats 1600000 in
theorem point_any {kd sa sb : Int} {bar : Bool} {ep ef kw kh : Int} {wa : Option Addr} {wn wc : Nat} {ra : Option Addr} {rn rc : Nat} {ca : Option Addr} {cn cc : Nat} {sh sh2 : Int} {xa : Option Addr} {xn xc : Nat} {ya : Option Addr} {yn yc : Nat} {bins : Int} {oa : Option Addr} {on oc : Nat} {mx : Int} {A : Array Value} (hA : A = #[.int .i64 kd, .int .i64 sa, .int .i64 sb, .bool bar, .int .i64 ep, .int .i64 ef, .int .i64 kw, .int .i64 kh, .slice wa wn wc, .slice ra rn rc, .slice ca cn cc, .int .i64 sh, .int .i64 sh2, .slice xa xn xc, .slice ya yn yc, .int .i64 bins, .slice oa on oc, .int .i64 mx]) (ol : List (Int × Int)) (aw ah am bw bh bm : Int) (W : World) (ho : Prs W oa on oc ol) : Calls Try.prog 44 #[.agg A, .agg #[.int .i64 aw, .int .i64 ah, .int .i64 am], .agg #[.int .i64 bw, .int .i64 bh, .int .i64 bm]] W fun e w' => e = .returned (.int .i64 (shPn ol (shTwo kd sb) aw ah am bw bh bm mx)) ∧ Below W.heap.size W w' := by
 have HA := hid hA
 clear hA
 have HO := hid ho
 clear ho
 obtain ⟨B, hB⟩ : ∃ B, W.heap.size = B := ⟨_, rfl⟩
 have HI0 := hid (St.init hB)
 go_enter Try.func44, Try.ntmps44
 go_upto_region 1 with fail
 have H77 := hid (show St _ _ (.cells (B + 1 + 1) _ _ :: .cells (B + 1) _ _ :: .cells B _ _ :: _) _ _ from (((HI0.out.alloc A 33 hB).alloc #[.int .i64 aw, .int .i64 ah, .int .i64 am] 24 (by first | exact hB | simp [hB])).alloc #[.int .i64 bw, .int .i64 bh, .int .i64 bm] 24 (by first | exact hB | simp [hB])))
 first | refine gen_code H77.out ?_ | refine gen_list H77.out ?_ | refine gen_calls H77.out ?_
 intro w78 hG
 clear H77
 have H77 := hid hG
 clear hG
 have z79 := H77.out.loadStg 2 rfl (by rw [HA.out]; rfl)
 go_wp2_with (refine loadArm z79 (by rfl) (by rfl) ?_)
 clear z79
 refine (pair_any HA.out _).mono ?_
 rintro e w80 ⟨rfl, hb⟩
 have H81 := hid (H77.out.call hb)
 clear hb
 obtain ⟨b82, hb82⟩ : ∃ xx', shTwo kd sb = xx' := ⟨_, rfl⟩
 rw [hb82]
 have HNb82 := hid hb82
 clear hb82
 have z83 := H81.out.cell 2 rfl 16 (show A[16]? = some (.slice oa on oc) from by rw [HA.out]; rfl)
 go_wp2_with fail
 clear z83
 refine (pvalid_any14 _ _ _ ol b82 _ (H81.out.oldPrs HO.out)).mono ?_
 rintro e w84 ⟨rfl, hb⟩
 have H85 := hid (H81.out.call hb)
 clear hb
 obtain ⟨c86, hc86⟩ : ∃ xx', vCode ol b82 = xx' := ⟨_, rfl⟩
 rw [hc86]
 have HNc86 := hid hc86
 clear hc86
 by_cases c87 : (c86 : Int) = 0
 ·
  obtain ⟨c87c, c87d⟩ : (c86 : Int) ≤ 0 ∧ (0 : Int) ≤ c86 := by omega
  have c87a : ((c86 : Int) == (0)) = true := by simpa using c87
  have c87b : ((c86 : Int) != (0)) = false := by simpa using c87
  have c87h := hid c87
  clear c87
  by_cases c88 : (mx : Int) < 1
  ·
   skip
   have z89 := H85.out.cell 2 rfl 17 (show A[17]? = some (.int .i64 mx) from by rw [HA.out]; rfl)
   go_wp2_with fail
   clear z89
   go_ret
   exact ⟨by rw [show shPn ol (shTwo kd sb) aw ah am bw bh bm mx = 2 from by unfold shPn; rw [HNb82.out]; rw [if_neg (by rw [HNc86.out]; have := c87h.out; omega), if_pos (by unfold valOk; simp; omega)]] <;> rfl, by first | exact H85.out.below | exact H85.out.below'⟩
  ·
   skip
   by_cases c90 : (4294967296 : Int) < mx
   ·
    skip
    have z91 := H85.out.cell 2 rfl 17 (show A[17]? = some (.int .i64 mx) from by rw [HA.out]; rfl)
    go_wp2_with fail
    clear z91
    go_ret
    exact ⟨by rw [show shPn ol (shTwo kd sb) aw ah am bw bh bm mx = 2 from by unfold shPn; rw [HNb82.out]; rw [if_neg (by rw [HNc86.out]; have := c87h.out; omega), if_pos (by unfold valOk; simp; omega)]] <;> rfl, by first | exact H85.out.below | exact H85.out.below'⟩
   ·
    skip
    cases b82 with
    | true =>
     have z92 := H85.out.cell 0 rfl 0 rfl
     have z93 := H85.out.cell 0 rfl 1 rfl
     have z94 := H85.out.cell 0 rfl 2 rfl
     have z95 := H85.out.cell 1 rfl 0 rfl
     have z96 := H85.out.cell 1 rfl 1 rfl
     have z97 := H85.out.cell 1 rfl 2 rfl
     have z98 := H85.out.cell 2 rfl 17 (show A[17]? = some (.int .i64 mx) from by rw [HA.out]; rfl)
     have z99 := H85.out.cell 2 rfl 16 (show A[16]? = some (.slice oa on oc) from by rw [HA.out]; rfl)
     go_wp2_with fail
     clear z92 z93 z94 z95 z96 z97 z98 z99
     refine (pinterval_any _ _ _ ol am bm _ (H85.out.oldPrs HO.out)).mono ?_
     rintro e w100 ⟨rfl, hb⟩
     have H101 := hid (H85.out.call hb)
     clear hb
     obtain ⟨i102, hi102⟩ : ∃ xx', (ivR ol am bm).1 = xx' := ⟨_, rfl⟩
     rw [hi102]
     have HNi102 := hid hi102
     clear hi102
     obtain ⟨i103, hi103⟩ : ∃ xx', (ivR ol am bm).2.1 = xx' := ⟨_, rfl⟩
     rw [hi103]
     have HNi103 := hid hi103
     clear hi103
     obtain ⟨k104, hk104⟩ : ∃ xx', (ivR ol am bm).2.2 = xx' := ⟨_, rfl⟩
     rw [hk104]
     have HNk104 := hid hk104
     clear hk104
     by_cases c105 : (k104 : Int) = 0
     ·
      obtain ⟨c105c, c105d⟩ : (k104 : Int) ≤ 0 ∧ (0 : Int) ≤ k104 := by omega
      have c105a : ((k104 : Int) == (0)) = true := by simpa using c105
      have c105b : ((k104 : Int) != (0)) = false := by simpa using c105
      have c105h := hid c105
      clear c105
      by_cases c106 : (aw : Int) = bw
      ·
       obtain ⟨c106c, c106d⟩ : (aw : Int) ≤ bw ∧ (bw : Int) ≤ aw := by omega
       have c106a : ((aw : Int) == (bw)) = true := by simpa using c106
       have c106b : ((aw : Int) != (bw)) = false := by simpa using c106
       have c106h := hid c106
       clear c106
       by_cases c107 : (ah : Int) = bh
       ·
        obtain ⟨c107c, c107d⟩ : (ah : Int) ≤ bh ∧ (bh : Int) ≤ ah := by omega
        have c107a : ((ah : Int) == (bh)) = true := by simpa using c107
        have c107b : ((ah : Int) != (bh)) = false := by simpa using c107
        have c107h := hid c107
        clear c107
        have z108 := H101.out.cell 1 rfl 0 rfl
        have z109 := H101.out.cell 1 rfl 1 rfl
        have z110 := H101.out.cell 1 rfl 2 rfl
        have z111 := H101.out.cell 0 rfl 0 rfl
        have z112 := H101.out.cell 0 rfl 1 rfl
        have z113 := H101.out.cell 0 rfl 2 rfl
        go_wp2_with fail
        clear z108 z109 z110 z111 z112 z113
        go_ret
        exact ⟨by rw [show shPn ol (shTwo kd sb) aw ah am bw bh bm mx = 0 from by unfold shPn; rw [HNb82.out, show pwS true bm = bm from rfl]; rw [if_neg (by rw [HNc86.out]; have := c87h.out; have := c105h.out; have := c106h.out; have := c107h.out; omega), if_neg (by unfold valOk; simp; omega), if_neg (by rw [HNk104.out]; have := c87h.out; have := c105h.out; have := c106h.out; have := c107h.out; omega), if_neg (by have := c87h.out; have := c105h.out; have := c106h.out; have := c107h.out; simp; try omega)]] <;> rfl, by first | exact H101.out.below | exact H101.out.below'⟩
       ·
        have c107a : ((ah : Int) == (bh)) = false := by simpa using c107
        have c107b : ((ah : Int) != (bh)) = true := by simpa using c107
        have c107h := hid c107
        clear c107
        have z114 := H101.out.cell 1 rfl 0 rfl
        have z115 := H101.out.cell 1 rfl 1 rfl
        have z116 := H101.out.cell 1 rfl 2 rfl
        have z117 := H101.out.cell 0 rfl 0 rfl
        have z118 := H101.out.cell 0 rfl 1 rfl
        have z119 := H101.out.cell 0 rfl 2 rfl
        go_wp2_with fail
        clear z114 z115 z116 z117 z118 z119
        go_ret
        exact ⟨by rw [show shPn ol (shTwo kd sb) aw ah am bw bh bm mx = 8 from by unfold shPn; rw [HNb82.out, show pwS true bm = bm from rfl]; rw [if_neg (by rw [HNc86.out]; have := c87h.out; have := c105h.out; have := c106h.out; have := c107h.out; omega), if_neg (by unfold valOk; simp; omega), if_neg (by rw [HNk104.out]; have := c87h.out; have := c105h.out; have := c106h.out; have := c107h.out; omega), if_pos (by have := c87h.out; have := c105h.out; have := c106h.out; have := c107h.out; simp; omega)]] <;> rfl, by first | exact H101.out.below | exact H101.out.below'⟩
      ·
       have c106a : ((aw : Int) == (bw)) = false := by simpa using c106
       have c106b : ((aw : Int) != (bw)) = true := by simpa using c106
       have c106h := hid c106
       clear c106
       have z120 := H101.out.cell 1 rfl 0 rfl
       have z121 := H101.out.cell 1 rfl 1 rfl
       have z122 := H101.out.cell 1 rfl 2 rfl
       have z123 := H101.out.cell 0 rfl 0 rfl
       have z124 := H101.out.cell 0 rfl 1 rfl
       have z125 := H101.out.cell 0 rfl 2 rfl
       go_wp2_with fail
       clear z120 z121 z122 z123 z124 z125
       go_ret
       exact ⟨by rw [show shPn ol (shTwo kd sb) aw ah am bw bh bm mx = 8 from by unfold shPn; rw [HNb82.out, show pwS true bm = bm from rfl]; rw [if_neg (by rw [HNc86.out]; have := c87h.out; have := c105h.out; have := c106h.out; omega), if_neg (by unfold valOk; simp; omega), if_neg (by rw [HNk104.out]; have := c87h.out; have := c105h.out; have := c106h.out; omega), if_pos (by have := c87h.out; have := c105h.out; have := c106h.out; simp; omega)]] <;> rfl, by first | exact H101.out.below | exact H101.out.below'⟩
     ·
      have c105a : ((k104 : Int) == (0)) = false := by simpa using c105
      have c105b : ((k104 : Int) != (0)) = true := by simpa using c105
      have c105h := hid c105
      clear c105
      go_wp2_with fail
      go_ret
      exact ⟨by rw [show shPn ol (shTwo kd sb) aw ah am bw bh bm mx = k104 from by unfold shPn; rw [HNb82.out, show pwS true bm = bm from rfl]; rw [if_neg (by rw [HNc86.out]; have := c87h.out; have := c105h.out; omega), if_neg (by unfold valOk; simp; omega), if_pos (by rw [HNk104.out]; have := c87h.out; have := c105h.out; omega), HNk104.out]] <;> rfl, by first | exact H101.out.below | exact H101.out.below'⟩
    | false =>
     have z126 := H85.out.cell 1 rfl 0 rfl
     have z127 := H85.out.cell 1 rfl 1 rfl
     have z128 := H85.out.cell 1 rfl 2 rfl
     have z129 := H85.out.cell 2 rfl 17 (show A[17]? = some (.int .i64 mx) from by rw [HA.out]; rfl)
     have z130 := H85.out.cell 2 rfl 16 (show A[16]? = some (.slice oa on oc) from by rw [HA.out]; rfl)
     go_wp2_with fail
     clear z126 z127 z128 z129 z130
     refine (pinterval_any _ _ _ ol am 1 _ (H85.out.oldPrs HO.out)).mono ?_
     rintro e w131 ⟨rfl, hb⟩
     have H132 := hid (H85.out.call hb)
     clear hb
     obtain ⟨i133, hi133⟩ : ∃ xx', (ivR ol am 1).1 = xx' := ⟨_, rfl⟩
     rw [hi133]
     have HNi133 := hid hi133
     clear hi133
     obtain ⟨i134, hi134⟩ : ∃ xx', (ivR ol am 1).2.1 = xx' := ⟨_, rfl⟩
     rw [hi134]
     have HNi134 := hid hi134
     clear hi134
     obtain ⟨k135, hk135⟩ : ∃ xx', (ivR ol am 1).2.2 = xx' := ⟨_, rfl⟩
     rw [hk135]
     have HNk135 := hid hk135
     clear hk135
     by_cases c136 : (k135 : Int) = 0
     ·
      obtain ⟨c136c, c136d⟩ : (k135 : Int) ≤ 0 ∧ (0 : Int) ≤ k135 := by omega
      have c136a : ((k135 : Int) == (0)) = true := by simpa using c136
      have c136b : ((k135 : Int) != (0)) = false := by simpa using c136
      have c136h := hid c136
      clear c136
      go_wp2_with fail
      go_ret
      exact ⟨by rw [show shPn ol (shTwo kd sb) aw ah am bw bh bm mx = 0 from by unfold shPn; rw [HNb82.out, show pwS false bm = 1 from rfl]; rw [if_neg (by rw [HNc86.out]; have := c87h.out; have := c136h.out; omega), if_neg (by unfold valOk; simp; omega), if_neg (by rw [HNk135.out]; have := c87h.out; have := c136h.out; omega), if_neg (by have := c87h.out; have := c136h.out; simp; try omega)]] <;> rfl, by first | exact H132.out.below | exact H132.out.below'⟩
     ·
      have c136a : ((k135 : Int) == (0)) = false := by simpa using c136
      have c136b : ((k135 : Int) != (0)) = true := by simpa using c136
      have c136h := hid c136
      clear c136
      go_wp2_with fail
      go_ret
      exact ⟨by rw [show shPn ol (shTwo kd sb) aw ah am bw bh bm mx = k135 from by unfold shPn; rw [HNb82.out, show pwS false bm = 1 from rfl]; rw [if_neg (by rw [HNc86.out]; have := c87h.out; have := c136h.out; omega), if_neg (by unfold valOk; simp; omega), if_pos (by rw [HNk135.out]; have := c87h.out; have := c136h.out; omega), HNk135.out]] <;> rfl, by first | exact H132.out.below | exact H132.out.below'⟩
 ·
  have c87a : ((c86 : Int) == (0)) = false := by simpa using c87
  have c87b : ((c86 : Int) != (0)) = true := by simpa using c87
  have c87h := hid c87
  clear c87
  go_wp2_with fail
  go_ret
  exact ⟨by rw [show shPn ol (shTwo kd sb) aw ah am bw bh bm mx = c86 from by unfold shPn; rw [HNb82.out]; rw [if_pos (by rw [HNc86.out]; have := c87h.out; omega), HNc86.out]] <;> rfl, by first | exact H85.out.below | exact H85.out.below'⟩

set_option maxRecDepth 100000 in
set_option maxHeartbeats 1600000 in
theorem shcheck_any {kd sa sb : Int} {bar : Bool} {ep ef kw kh : Int} {wa : Option Addr} {wn wc : Nat} {ra : Option Addr} {rn rc : Nat} {ca : Option Addr} {cn cc : Nat} {sh sh2 : Int} {xa : Option Addr} {xn xc : Nat} {ya : Option Addr} {yn yc : Nat} {bins : Int} {oa : Option Addr} {on oc : Nat} {mx : Int} {A : Array Value} (hA : A = #[.int .i64 kd, .int .i64 sa, .int .i64 sb, .bool bar, .int .i64 ep, .int .i64 ef, .int .i64 kw, .int .i64 kh, .slice wa wn wc, .slice ra rn rc, .slice ca cn cc, .int .i64 sh, .int .i64 sh2, .slice xa xn xc, .slice ya yn yc, .int .i64 bins, .slice oa on oc, .int .i64 mx]) (wl rl cl : List Int) (X Y : Tbl) (ol : List (Int × Int)) (aw ah am bw bh bm : Int) (W : World) (hw : Slc W wa wn wc wl) (hr : Slc W ra rn rc rl) (hc : Slc W ca cn cc cl) (hx : Tps W xa xn xc X) (hy : Tps W ya yn yc Y) (ho : Prs W oa on oc ol) : Calls Try.prog 28 #[.agg A, .agg #[.int .i64 aw, .int .i64 ah, .int .i64 am], .agg #[.int .i64 bw, .int .i64 bh, .int .i64 bm]] W fun e w' => e = .returned (.int .i64 (shCk kd sb kw kh wl rl cl sh sh2 X Y bins ol mx aw ah am bw bh bm)) ∧ Below W.heap.size W w' := by
 have HA := hid hA
 clear hA
 have HWL := hid hw
 have HRL := hid hr
 have HCL := hid hc
 have HX := hid hx
 have HY := hid hy
 have HO := hid ho
 clear hw hr hc hx hy ho
 obtain ⟨B, hB⟩ : ∃ B, W.heap.size = B := ⟨_, rfl⟩
 have HI0 := hid (St.init hB)
 go_enter Try.func28, Try.ntmps28
 go_upto_region 1 with fail
 have H137 := hid (show St _ _ (.cells (B + 1 + 1) _ _ :: .cells (B + 1) _ _ :: .cells B _ _ :: _) _ _ from (((HI0.out.alloc A 33 hB).alloc #[.int .i64 aw, .int .i64 ah, .int .i64 am] 24 (by first | exact hB | simp [hB])).alloc #[.int .i64 bw, .int .i64 bh, .int .i64 bm] 24 (by first | exact hB | simp [hB])))
 first | refine gen_code H137.out ?_ | refine gen_list H137.out ?_ | refine gen_calls H137.out ?_
 intro w138 hG
 clear H137
 have H137 := hid hG
 clear hG
 by_cases c139 : (kd : Int) = 1
 ·
  obtain ⟨c139c, c139d⟩ : (kd : Int) ≤ 1 ∧ (1 : Int) ≤ kd := by omega
  have c139a : ((kd : Int) == (1)) = true := by simpa using c139
  have c139b : ((kd : Int) != (1)) = false := by simpa using c139
  have c139h := hid c139
  clear c139
  have z140 := H137.out.cell 1 rfl 0 rfl
  have z141 := H137.out.cell 1 rfl 1 rfl
  have z142 := H137.out.cell 1 rfl 2 rfl
  have z143 := H137.out.cell 2 rfl 0 (show A[0]? = some (.int .i64 kd) from by rw [HA.out]; rfl)
  have z144 := H137.out.cell 2 rfl 6 (show A[6]? = some (.int .i64 kw) from by rw [HA.out]; rfl)
  have z145 := H137.out.cell 2 rfl 7 (show A[7]? = some (.int .i64 kh) from by rw [HA.out]; rfl)
  have z146 := H137.out.cell 2 rfl 8 (show A[8]? = some (.slice wa wn wc) from by rw [HA.out]; rfl)
  have z147 := H137.out.cell 2 rfl 11 (show A[11]? = some (.int .i64 sh) from by rw [HA.out]; rfl)
  have z148 := H137.out.cell 2 rfl 17 (show A[17]? = some (.int .i64 mx) from by rw [HA.out]; rfl)
  go_wp2_with fail
  clear z140 z141 z142 z143 z144 z145 z146 z147 z148
  refine (ccheck_any _ _ _ _ _ _ _ _ wl _ (H137.out.old HWL.out)).mono ?_
  rintro e w149 ⟨rfl, hb⟩
  have H150 := hid (H137.out.call hb)
  clear hb
  obtain ⟨c151, hc151⟩ : ∃ xx', cvCode am kw kh wl sh mx = xx' := ⟨_, rfl⟩
  rw [hc151]
  have HNc151 := hid hc151
  clear hc151
  go_wp2_with fail
  go_ret
  exact ⟨by rw [show shCk kd sb kw kh wl rl cl sh sh2 X Y bins ol mx aw ah am bw bh bm = c151 from by unfold shCk; rw [if_pos (by have := c139h.out; omega)]; exact HNc151.out] <;> rfl, by first | exact H150.out.below | exact H150.out.below'⟩
 ·
  have c139a : ((kd : Int) == (1)) = false := by simpa using c139
  have c139b : ((kd : Int) != (1)) = true := by simpa using c139
  have c139h := hid c139
  clear c139
  by_cases c152 : (kd : Int) = 2
  ·
   obtain ⟨c152c, c152d⟩ : (kd : Int) ≤ 2 ∧ (2 : Int) ≤ kd := by omega
   have c152a : ((kd : Int) == (2)) = true := by simpa using c152
   have c152b : ((kd : Int) != (2)) = false := by simpa using c152
   have c152h := hid c152
   clear c152
   have z153 := H137.out.cell 1 rfl 0 rfl
   have z154 := H137.out.cell 1 rfl 1 rfl
   have z155 := H137.out.cell 1 rfl 2 rfl
   have z156 := H137.out.cell 2 rfl 0 (show A[0]? = some (.int .i64 kd) from by rw [HA.out]; rfl)
   have z157 := H137.out.cell 2 rfl 9 (show A[9]? = some (.slice ra rn rc) from by rw [HA.out]; rfl)
   have z158 := H137.out.cell 2 rfl 10 (show A[10]? = some (.slice ca cn cc) from by rw [HA.out]; rfl)
   have z159 := H137.out.cell 2 rfl 11 (show A[11]? = some (.int .i64 sh) from by rw [HA.out]; rfl)
   have z160 := H137.out.cell 2 rfl 12 (show A[12]? = some (.int .i64 sh2) from by rw [HA.out]; rfl)
   have z161 := H137.out.cell 2 rfl 17 (show A[17]? = some (.int .i64 mx) from by rw [HA.out]; rfl)
   go_wp2_with fail
   clear z153 z154 z155 z156 z157 z158 z159 z160 z161
   refine (scheck_any _ _ _ _ _ _ _ rl _ _ _ cl _ (H137.out.old HRL.out) (H137.out.old HCL.out)).mono ?_
   rintro e w162 ⟨rfl, hb⟩
   have H163 := hid (H137.out.call hb)
   clear hb
   obtain ⟨c164, hc164⟩ : ∃ xx', spCode am rl cl sh sh2 mx = xx' := ⟨_, rfl⟩
   rw [hc164]
   have HNc164 := hid hc164
   clear hc164
   go_wp2_with fail
   go_ret
   exact ⟨by rw [show shCk kd sb kw kh wl rl cl sh sh2 X Y bins ol mx aw ah am bw bh bm = c164 from by unfold shCk; rw [if_neg (by have := c139h.out; have := c152h.out; omega), if_pos (by have := c139h.out; have := c152h.out; omega)]; exact HNc164.out] <;> rfl, by first | exact H163.out.below | exact H163.out.below'⟩
  ·
   have c152a : ((kd : Int) == (2)) = false := by simpa using c152
   have c152b : ((kd : Int) != (2)) = true := by simpa using c152
   have c152h := hid c152
   clear c152
   by_cases c165 : (kd : Int) = 3
   ·
    obtain ⟨c165c, c165d⟩ : (kd : Int) ≤ 3 ∧ (3 : Int) ≤ kd := by omega
    have c165a : ((kd : Int) == (3)) = true := by simpa using c165
    have c165b : ((kd : Int) != (3)) = false := by simpa using c165
    have c165h := hid c165
    clear c165
    have z166 := H137.out.cell 1 rfl 0 rfl
    have z167 := H137.out.cell 1 rfl 1 rfl
    have z168 := H137.out.cell 1 rfl 2 rfl
    have z169 := H137.out.cell 2 rfl 0 (show A[0]? = some (.int .i64 kd) from by rw [HA.out]; rfl)
    have z170 := H137.out.cell 2 rfl 13 (show A[13]? = some (.slice xa xn xc) from by rw [HA.out]; rfl)
    have z171 := H137.out.cell 2 rfl 14 (show A[14]? = some (.slice ya yn yc) from by rw [HA.out]; rfl)
    have z172 := H137.out.cell 2 rfl 11 (show A[11]? = some (.int .i64 sh) from by rw [HA.out]; rfl)
    have z173 := H137.out.cell 2 rfl 12 (show A[12]? = some (.int .i64 sh2) from by rw [HA.out]; rfl)
    have z174 := H137.out.cell 2 rfl 17 (show A[17]? = some (.int .i64 mx) from by rw [HA.out]; rfl)
    go_wp2_with fail
    clear z166 z167 z168 z169 z170 z171 z172 z173 z174
    refine (rzcheck_any _ _ _ _ _ _ X _ _ _ Y _ _ _ _ (H137.out.oldTps HX.out) (H137.out.oldTps HY.out)).mono ?_
    rintro e w175 ⟨rfl, hb⟩
    have H176 := hid (H137.out.call hb)
    clear hb
    obtain ⟨c177, hc177⟩ : ∃ xx', rzCode aw ah am X Y sh sh2 mx = xx' := ⟨_, rfl⟩
    rw [hc177]
    have HNc177 := hid hc177
    clear hc177
    go_wp2_with fail
    go_ret
    exact ⟨by rw [show shCk kd sb kw kh wl rl cl sh sh2 X Y bins ol mx aw ah am bw bh bm = c177 from by unfold shCk; rw [if_neg (by have := c139h.out; have := c152h.out; have := c165h.out; omega), if_neg (by have := c139h.out; have := c152h.out; have := c165h.out; omega), if_pos (by have := c139h.out; have := c152h.out; have := c165h.out; omega)]; exact HNc177.out] <;> rfl, by first | exact H176.out.below | exact H176.out.below'⟩
   ·
    have c165a : ((kd : Int) == (3)) = false := by simpa using c165
    have c165b : ((kd : Int) != (3)) = true := by simpa using c165
    have c165h := hid c165
    clear c165
    by_cases c178 : (kd : Int) = 4
    ·
     obtain ⟨c178c, c178d⟩ : (kd : Int) ≤ 4 ∧ (4 : Int) ≤ kd := by omega
     have c178a : ((kd : Int) == (4)) = true := by simpa using c178
     have c178b : ((kd : Int) != (4)) = false := by simpa using c178
     have c178h := hid c178
     clear c178
     by_cases c179 : (bins : Int) < 1
     ·
      skip
      have z180 := H137.out.cell 2 rfl 0 (show A[0]? = some (.int .i64 kd) from by rw [HA.out]; rfl)
      have z181 := H137.out.cell 2 rfl 15 (show A[15]? = some (.int .i64 bins) from by rw [HA.out]; rfl)
      go_wp2_with fail
      clear z180 z181
      go_ret
      exact ⟨by rw [show shCk kd sb kw kh wl rl cl sh sh2 X Y bins ol mx aw ah am bw bh bm = 9 from by unfold shCk; rw [if_neg (by have := c139h.out; have := c152h.out; have := c165h.out; have := c178h.out; omega), if_neg (by have := c139h.out; have := c152h.out; have := c165h.out; have := c178h.out; omega), if_neg (by have := c139h.out; have := c152h.out; have := c165h.out; have := c178h.out; omega), if_pos (by have := c139h.out; have := c152h.out; have := c165h.out; have := c178h.out; omega), if_neg (by omega)]] <;> rfl, by first | exact H137.out.below | exact H137.out.below'⟩
     ·
      skip
      by_cases c182 : (128 : Int) < bins
      ·
       skip
       have z183 := H137.out.cell 2 rfl 0 (show A[0]? = some (.int .i64 kd) from by rw [HA.out]; rfl)
       have z184 := H137.out.cell 2 rfl 15 (show A[15]? = some (.int .i64 bins) from by rw [HA.out]; rfl)
       go_wp2_with fail
       clear z183 z184
       go_ret
       exact ⟨by rw [show shCk kd sb kw kh wl rl cl sh sh2 X Y bins ol mx aw ah am bw bh bm = 9 from by unfold shCk; rw [if_neg (by have := c139h.out; have := c152h.out; have := c165h.out; have := c178h.out; omega), if_neg (by have := c139h.out; have := c152h.out; have := c165h.out; have := c178h.out; omega), if_neg (by have := c139h.out; have := c152h.out; have := c165h.out; have := c178h.out; omega), if_pos (by have := c139h.out; have := c152h.out; have := c165h.out; have := c178h.out; omega), if_neg (by omega)]] <;> rfl, by first | exact H137.out.below | exact H137.out.below'⟩
      ·
       skip
       have z185 := H137.out.cell 2 rfl 0 (show A[0]? = some (.int .i64 kd) from by rw [HA.out]; rfl)
       have z186 := H137.out.cell 2 rfl 15 (show A[15]? = some (.int .i64 bins) from by rw [HA.out]; rfl)
       go_wp2_with fail
       clear z185 z186
       go_ret
       exact ⟨by rw [show shCk kd sb kw kh wl rl cl sh sh2 X Y bins ol mx aw ah am bw bh bm = 0 from by unfold shCk; rw [if_neg (by have := c139h.out; have := c152h.out; have := c165h.out; have := c178h.out; omega), if_neg (by have := c139h.out; have := c152h.out; have := c165h.out; have := c178h.out; omega), if_neg (by have := c139h.out; have := c152h.out; have := c165h.out; have := c178h.out; omega), if_pos (by have := c139h.out; have := c152h.out; have := c165h.out; have := c178h.out; omega), if_pos (by omega)]] <;> rfl, by first | exact H137.out.below | exact H137.out.below'⟩
    ·
     have c178a : ((kd : Int) == (4)) = false := by simpa using c178
     have c178b : ((kd : Int) != (4)) = true := by simpa using c178
     have c178h := hid c178
     clear c178
     by_cases c187 : (kd : Int) = 5
     ·
      obtain ⟨c187c, c187d⟩ : (kd : Int) ≤ 5 ∧ (5 : Int) ≤ kd := by omega
      have c187a : ((kd : Int) == (5)) = true := by simpa using c187
      have c187b : ((kd : Int) != (5)) = false := by simpa using c187
      have c187h := hid c187
      clear c187
      have z188 := H137.out.cell 1 rfl 0 rfl
      have z189 := H137.out.cell 1 rfl 1 rfl
      have z190 := H137.out.cell 1 rfl 2 rfl
      have z191 := H137.out.cell 2 rfl 0 (show A[0]? = some (.int .i64 kd) from by rw [HA.out]; rfl)
      go_wp2_with fail
      clear z188 z189 z190 z191
      refine (icheck_any _ _ _ _).mono ?_
      rintro e w192 ⟨rfl, hb⟩
      have H193 := hid (H137.out.call hb)
      clear hb
      obtain ⟨c194, hc194⟩ : ∃ xx', iCode aw ah am = xx' := ⟨_, rfl⟩
      rw [hc194]
      have HNc194 := hid hc194
      clear hc194
      go_wp2_with fail
      go_ret
      exact ⟨by rw [show shCk kd sb kw kh wl rl cl sh sh2 X Y bins ol mx aw ah am bw bh bm = c194 from by unfold shCk; rw [if_neg (by have := c139h.out; have := c152h.out; have := c165h.out; have := c178h.out; have := c187h.out; omega), if_neg (by have := c139h.out; have := c152h.out; have := c165h.out; have := c178h.out; have := c187h.out; omega), if_neg (by have := c139h.out; have := c152h.out; have := c165h.out; have := c178h.out; have := c187h.out; omega), if_neg (by have := c139h.out; have := c152h.out; have := c165h.out; have := c178h.out; have := c187h.out; omega), if_pos (by have := c139h.out; have := c152h.out; have := c165h.out; have := c178h.out; have := c187h.out; omega)]; exact HNc194.out] <;> rfl, by first | exact H193.out.below | exact H193.out.below'⟩
     ·
      have c187a : ((kd : Int) == (5)) = false := by simpa using c187
      have c187b : ((kd : Int) != (5)) = true := by simpa using c187
      have c187h := hid c187
      clear c187
      have z195 := H137.out.cell 1 rfl 0 rfl
      have z196 := H137.out.cell 1 rfl 1 rfl
      have z197 := H137.out.cell 1 rfl 2 rfl
      have z198 := H137.out.cell 0 rfl 0 rfl
      have z199 := H137.out.cell 0 rfl 1 rfl
      have z200 := H137.out.cell 0 rfl 2 rfl
      have z201 := H137.out.cell 2 rfl 0 (show A[0]? = some (.int .i64 kd) from by rw [HA.out]; rfl)
      have z202 := H137.out.loadStg 2 rfl (by rw [HA.out]; rfl)
      go_wp2_with (refine loadArm z202 (by rfl) (by rfl) ?_)
      clear z195 z196 z197 z198 z199 z200 z201 z202
      refine (point_any HA.out ol aw ah am bw bh bm _ (H137.out.oldPrs HO.out)).mono ?_
      rintro e w203 ⟨rfl, hb⟩
      have H204 := hid (H137.out.call hb)
      clear hb
      obtain ⟨c205, hc205⟩ : ∃ xx', shPn ol (shTwo kd sb) aw ah am bw bh bm mx = xx' := ⟨_, rfl⟩
      rw [hc205]
      have HNc205 := hid hc205
      clear hc205
      go_wp2_with fail
      go_ret
      exact ⟨by rw [show shCk kd sb kw kh wl rl cl sh sh2 X Y bins ol mx aw ah am bw bh bm = c205 from by unfold shCk; rw [if_neg (by have := c139h.out; have := c152h.out; have := c165h.out; have := c178h.out; have := c187h.out; omega), if_neg (by have := c139h.out; have := c152h.out; have := c165h.out; have := c178h.out; have := c187h.out; omega), if_neg (by have := c139h.out; have := c152h.out; have := c165h.out; have := c178h.out; have := c187h.out; omega), if_neg (by have := c139h.out; have := c152h.out; have := c165h.out; have := c178h.out; have := c187h.out; omega), if_neg (by have := c139h.out; have := c152h.out; have := c165h.out; have := c178h.out; have := c187h.out; omega)]; exact HNc205.out] <;> rfl, by first | exact H204.out.below | exact H204.out.below'⟩
end Go.Proofs.Yteejjnhlfgjlaaa
