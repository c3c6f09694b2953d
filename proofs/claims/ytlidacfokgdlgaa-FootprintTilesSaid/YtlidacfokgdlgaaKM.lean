/-
  Contracts: the source coordinates of an output coordinate, in the program and in the reference. The needed coordinates: the plain law; arrays and slices of truth values as memory. A stage as an array of values behind a letter: its load out of a box, and the contracts of the functions that take a stage.
-/
import Derived.Test.YtlidacfokgdlgaaStAcc
import Derived.Test.YtlidacfokgdlgaaStAc2
import Derived.Laws.Rows
import Derived.Test.YtlidacfokgdlgaaKH
namespace Go.Proofs.Ytlidacfokgdlgaa
section
open Go.RowKit
attribute [local go_sem ↓] Go.wp_at_zero Go.wp_at_succ
set_option linter.unusedVariables false
set_option linter.unusedSimpArgs false

theorem ret_pp {a b c d : Int} (h : a = c) (h2 : b = d) : Ending.returned (.tuple #[.int .i64 a, .int .i64 b]) = .returned (.tuple #[.int .i64 c, .int .i64 d]) := by rw [h, h2]

set_option maxRecDepth 100000 in
set_option maxHeartbeats 6400000 in
theorem fspan16_any (kd sa sb : Int) (bar : Bool) (ep ef kw kh : Int) (wa : Option Addr) (wn wc : Nat) (ra : Option Addr) (rn rc : Nat) (ca : Option Addr) (cn cc : Nat) (sh sh2 : Int) (xa : Option Addr) (xn xc : Nat) (ya : Option Addr) (yn yc : Nat) (bins : Int) (oa : Option Addr) (on oc : Nat) (mx : Int) (i side : Int) (a : Option Addr) (m c : Nat) (T : Tbl) (W : World) (hs : Tps W a m c T) (hi : 0 ≤ i ∧ i ≤ 128) (hsd : kd = 1 ∨ kd = 2 → 1 ≤ side ∧ side ≤ 9) :
    Calls Try.prog 43 #[.agg #[.int .i64 kd, .int .i64 sa, .int .i64 sb, .bool bar, .int .i64 ep, .int .i64 ef, .int .i64 kw, .int .i64 kh, .slice wa wn wc, .slice ra rn rc, .slice ca cn cc, .int .i64 sh, .int .i64 sh2, .slice xa xn xc, .slice ya yn yc, .int .i64 bins, .slice oa on oc, .int .i64 mx], .int .i64 i, .int .i64 side, .slice a m c] W fun e w' => e = .returned (.tuple #[.int .i64 (spF kd i side T), .int .i64 (spC kd i side T)]) ∧ Below W.heap.size W w' := by
  obtain ⟨B, hB⟩ : ∃ B, W.heap.size = B := ⟨_, rfl⟩
  have HI0 := hid (St.init hB)
  have HL := hid hs.len
  have nmx : (m : Int) ≤ 9223372036854775807 := by have := hs.nc; have := hs.cap; omega
  have HS := hid hs
  obtain ⟨i0, i1⟩ := hi
  obtain ⟨I, hI⟩ : ∃ I : Nat, i = I := ⟨i.toNat, by omega⟩
  subst hI
  clear hs
  go_enter Try.func43, Try.ntmps43
  go_upto_region 1 with fail
  have H95 := hid (show St B W [.cells B #[.int .i64 kd, .int .i64 sa, .int .i64 sb, .bool bar, .int .i64 ep, .int .i64 ef, .int .i64 kw, .int .i64 kh, .slice wa wn wc, .slice ra rn rc, .slice ca cn cc, .int .i64 sh, .int .i64 sh2, .slice xa xn xc, .slice ya yn yc, .int .i64 bins, .slice oa on oc, .int .i64 mx] 33] [] (W.alloc (.cells #[.int .i64 kd, .int .i64 sa, .int .i64 sb, .bool bar, .int .i64 ep, .int .i64 ef, .int .i64 kw, .int .i64 kh, .slice wa wn wc, .slice ra rn rc, .slice ca cn cc, .int .i64 sh, .int .i64 sh2, .slice xa xn xc, .slice ya yn yc, .int .i64 bins, .slice oa on oc, .int .i64 mx] 33)) from (HI0.out.alloc #[.int .i64 kd, .int .i64 sa, .int .i64 sb, .bool bar, .int .i64 ep, .int .i64 ef, .int .i64 kw, .int .i64 kh, .slice wa wn wc, .slice ra rn rc, .slice ca cn cc, .int .i64 sh, .int .i64 sh2, .slice xa xn xc, .slice ya yn yc, .int .i64 bins, .slice oa on oc, .int .i64 mx] 33 hB))
  first | refine gen_code H95.out ?_ | refine gen_list H95.out ?_ | refine gen_calls H95.out ?_
  intro w96 hG
  clear H95
  have H95 := hid hG
  clear hG
  by_cases c97 : (kd : Int) = 1
  · obtain ⟨c97c, c97d⟩ : (kd : Int) ≤ 1 ∧ (1 : Int) ≤ kd := by omega
    have c97a : ((kd : Int) == (1)) = true := by simpa using c97
    have c97b : ((kd : Int) != (1)) = false := by simpa using c97
    have c97h := hid c97
    clear c97
    have z98 := H95.out.cell 0 rfl 0 rfl
    have z99 := H95.out.cell 0 rfl 1 rfl
    have z100 := H95.out.cell 0 rfl 2 rfl
    have z101 := H95.out.cell 0 rfl 3 rfl
    have z102 := H95.out.cell 0 rfl 4 rfl
    have z103 := H95.out.cell 0 rfl 5 rfl
    have z104 := H95.out.cell 0 rfl 6 rfl
    have z105 := H95.out.cell 0 rfl 7 rfl
    have z106 := H95.out.cell 0 rfl 8 rfl
    have z107 := H95.out.cell 0 rfl 9 rfl
    have z108 := H95.out.cell 0 rfl 10 rfl
    have z109 := H95.out.cell 0 rfl 11 rfl
    have z110 := H95.out.cell 0 rfl 12 rfl
    have z111 := H95.out.cell 0 rfl 13 rfl
    have z112 := H95.out.cell 0 rfl 14 rfl
    have z113 := H95.out.cell 0 rfl 15 rfl
    have z114 := H95.out.cell 0 rfl 16 rfl
    have z115 := H95.out.cell 0 rfl 17 rfl
    go_upto_region 4 with fail
    clear z98 z99 z100 z101 z102 z103 z104 z105 z106 z107 z108 z109 z110 z111 z112 z113 z114 z115
    obtain ⟨sd1, sd2⟩ := hsd (by have := c97h.out; omega)
    obtain ⟨hf, hhf⟩ : ∃ z, Int.tdiv side 2 = z := ⟨_, rfl⟩
    have hf1 : 0 ≤ hf ∧ hf ≤ 4 := by rw [← hhf, Int.tdiv_eq_ediv_of_nonneg (by omega)]; omega
    have HHF := hid hhf
    have whf : IntKind.i64.wrap hf = hf := IntWalk.i64_in _ (by omega)
    have whi : IntKind.i64.wrap ((I : Int) - hf) = (I : Int) - hf := IntWalk.i64_in _ (by omega)
    go_wp2_with fail
    go_ret2
    exact ⟨ret_pp (by unfold spF; rw [if_pos (by have := c97h.out; omega), HHF.out]) (by unfold spC; rw [if_pos (by have := c97h.out; omega)]), by first | exact H95.out.below | exact H95.out.below'⟩
  · have c97a : ((kd : Int) == (1)) = false := by simpa using c97
    have c97b : ((kd : Int) != (1)) = true := by simpa using c97
    have c97h := hid c97
    clear c97
    by_cases c116 : (kd : Int) = 2
    · obtain ⟨c116c, c116d⟩ : (kd : Int) ≤ 2 ∧ (2 : Int) ≤ kd := by omega
      have c116a : ((kd : Int) == (2)) = true := by simpa using c116
      have c116b : ((kd : Int) != (2)) = false := by simpa using c116
      have c116h := hid c116
      clear c116
      have z117 := H95.out.cell 0 rfl 0 rfl
      have z118 := H95.out.cell 0 rfl 1 rfl
      have z119 := H95.out.cell 0 rfl 2 rfl
      have z120 := H95.out.cell 0 rfl 3 rfl
      have z121 := H95.out.cell 0 rfl 4 rfl
      have z122 := H95.out.cell 0 rfl 5 rfl
      have z123 := H95.out.cell 0 rfl 6 rfl
      have z124 := H95.out.cell 0 rfl 7 rfl
      have z125 := H95.out.cell 0 rfl 8 rfl
      have z126 := H95.out.cell 0 rfl 9 rfl
      have z127 := H95.out.cell 0 rfl 10 rfl
      have z128 := H95.out.cell 0 rfl 11 rfl
      have z129 := H95.out.cell 0 rfl 12 rfl
      have z130 := H95.out.cell 0 rfl 13 rfl
      have z131 := H95.out.cell 0 rfl 14 rfl
      have z132 := H95.out.cell 0 rfl 15 rfl
      have z133 := H95.out.cell 0 rfl 16 rfl
      have z134 := H95.out.cell 0 rfl 17 rfl
      go_upto_region 4 with fail
      clear z117 z118 z119 z120 z121 z122 z123 z124 z125 z126 z127 z128 z129 z130 z131 z132 z133 z134
      obtain ⟨sd1, sd2⟩ := hsd (by have := c97h.out; have := c116h.out; omega)
      obtain ⟨hf, hhf⟩ : ∃ z, Int.tdiv side 2 = z := ⟨_, rfl⟩
      have hf1 : 0 ≤ hf ∧ hf ≤ 4 := by rw [← hhf, Int.tdiv_eq_ediv_of_nonneg (by omega)]; omega
      have HHF := hid hhf
      have whf : IntKind.i64.wrap hf = hf := IntWalk.i64_in _ (by omega)
      have whi : IntKind.i64.wrap ((I : Int) - hf) = (I : Int) - hf := IntWalk.i64_in _ (by omega)
      go_wp2_with fail
      go_ret2
      exact ⟨ret_pp (by unfold spF; rw [if_pos (by have := c97h.out; have := c116h.out; omega), HHF.out]) (by unfold spC; rw [if_pos (by have := c97h.out; have := c116h.out; omega)]), by first | exact H95.out.below | exact H95.out.below'⟩
    · have c116a : ((kd : Int) == (2)) = false := by simpa using c116
      have c116b : ((kd : Int) != (2)) = true := by simpa using c116
      have c116h := hid c116
      clear c116
      by_cases c135 : (kd : Int) = 3
      · obtain ⟨c135c, c135d⟩ : (kd : Int) ≤ 3 ∧ (3 : Int) ≤ kd := by omega
        have c135a : ((kd : Int) == (3)) = true := by simpa using c135
        have c135b : ((kd : Int) != (3)) = false := by simpa using c135
        have c135h := hid c135
        clear c135
        by_cases hin : I < m
        · skip
          have hin' : (I : Int) < m := by omega
          have hin2 : ¬ ((m : Int) ≤ (I : Int)) := by omega
          obtain ⟨pb, po, hpa⟩ := HS.out.at (by omega)
          subst hpa
          obtain ⟨ta, tn, tc, e1, e2, e3⟩ := HS.out.row (i := I) hin
          obtain ⟨p, hp⟩ : ∃ p, T.getD I (0, []) = p := ⟨_, rfl⟩
          obtain ⟨k, ws⟩ := p
          rw [hp] at e1 e3
          simp only at e1 e3
          have HE1 := hid e1
          have HE2 := hid e2
          have HWL := hid e3.len
          have tnm : (tn : Int) ≤ 9223372036854775807 := by have := e3.nc; have := e3.cap; omega
          have HP := hid hp
          clear e1 e2 e3 hp
          have z136 := H95.out.cell 0 rfl 0 rfl
          have z137 := H95.out.cell 0 rfl 1 rfl
          have z138 := H95.out.cell 0 rfl 2 rfl
          have z139 := H95.out.cell 0 rfl 3 rfl
          have z140 := H95.out.cell 0 rfl 4 rfl
          have z141 := H95.out.cell 0 rfl 5 rfl
          have z142 := H95.out.cell 0 rfl 6 rfl
          have z143 := H95.out.cell 0 rfl 7 rfl
          have z144 := H95.out.cell 0 rfl 8 rfl
          have z145 := H95.out.cell 0 rfl 9 rfl
          have z146 := H95.out.cell 0 rfl 10 rfl
          have z147 := H95.out.cell 0 rfl 11 rfl
          have z148 := H95.out.cell 0 rfl 12 rfl
          have z149 := H95.out.cell 0 rfl 13 rfl
          have z150 := H95.out.cell 0 rfl 14 rfl
          have z151 := H95.out.cell 0 rfl 15 rfl
          have z152 := H95.out.cell 0 rfl 16 rfl
          have z153 := H95.out.cell 0 rfl 17 rfl
          go_upto_region 8 with fail
          clear z136 z137 z138 z139 z140 z141 z142 z143 z144 z145 z146 z147 z148 z149 z150 z151 z152 z153
          have H154 := hid H95.out.drew
          refine wp_region_held_drew (S := (fun w' => w'.cell? ⟨pb, po + I * 2, none⟩ = some (.int .i64 k) ∧ w'.cell? ⟨pb, po + I * 2 + 1, none⟩ = some (.slice ta tn tc))) (by kernel_rfl) ⟨(H154.out.oldCell HE1.out), (H154.out.oldCell HE2.out)⟩ (fun hHeld => ?_)
          generalize w96.drew = k155 at *
          refine tkA 0 ?_
          try simp only [Act.put, p1, p2, p3, p4, p5, p6]
          refine tkA 1 ?_
          try simp only [Act.put, p1, p2, p3, p4, p5, p6]
          refine tkA 2 ?_
          try simp only [Act.put, p1, p2, p3, p4, p5, p6]
          refine tkA 3 ?_
          try simp only [Act.put, p1, p2, p3, p4, p5, p6]
          refine tkA 4 ?_
          try simp only [Act.put, p1, p2, p3, p4, p5, p6]
          refine tkA 5 ?_
          try simp only [Act.put, p1, p2, p3, p4, p5, p6]
          refine tkA 6 ?_
          try simp only [Act.put, p1, p2, p3, p4, p5, p6]
          refine tkA 7 ?_
          try simp only [Act.put, p1, p2, p3, p4, p5, p6]
          refine tkA 8 ?_
          try simp only [Act.put, p1, p2, p3, p4, p5, p6]
          refine tkA 9 ?_
          try simp only [Act.put, p1, p2, p3, p4, p5, p6]
          refine tkA 10 ?_
          try simp only [Act.put, p1, p2, p3, p4, p5, p6]
          refine tkA 11 ?_
          try simp only [Act.put, p1, p2, p3, p4, p5, p6]
          refine tkA 12 ?_
          try simp only [Act.put, p1, p2, p3, p4, p5, p6]
          refine wpAnyH_done (by kernel_rfl) ?_ _
          try clear hHeld
          go_wp2_with fail
          go_ret2
          exact ⟨ret_pp (by unfold spF; rw [if_neg (by have := c97h.out; have := c116h.out; have := c135h.out; omega), if_pos (by have := c97h.out; have := c116h.out; have := c135h.out; omega), if_pos (by rw [← HL.out]; omega), Int.toNat_natCast, HP.out]) (by unfold spC; rw [if_neg (by have := c97h.out; have := c116h.out; have := c135h.out; omega), if_pos (by have := c97h.out; have := c116h.out; have := c135h.out; omega), if_pos (by rw [← HL.out]; omega), Int.toNat_natCast, HP.out]; show _ = (ws.length : Int); rw [HWL.out]), by first | exact H154.out.below | exact H154.out.below'⟩
        · skip
          have hin' : ¬ ((I : Int) < m) := by omega
          have hin2 : (m : Int) ≤ (I : Int) := by omega
          have z156 := H95.out.cell 0 rfl 0 rfl
          have z157 := H95.out.cell 0 rfl 1 rfl
          have z158 := H95.out.cell 0 rfl 2 rfl
          have z159 := H95.out.cell 0 rfl 3 rfl
          have z160 := H95.out.cell 0 rfl 4 rfl
          have z161 := H95.out.cell 0 rfl 5 rfl
          have z162 := H95.out.cell 0 rfl 6 rfl
          have z163 := H95.out.cell 0 rfl 7 rfl
          have z164 := H95.out.cell 0 rfl 8 rfl
          have z165 := H95.out.cell 0 rfl 9 rfl
          have z166 := H95.out.cell 0 rfl 10 rfl
          have z167 := H95.out.cell 0 rfl 11 rfl
          have z168 := H95.out.cell 0 rfl 12 rfl
          have z169 := H95.out.cell 0 rfl 13 rfl
          have z170 := H95.out.cell 0 rfl 14 rfl
          have z171 := H95.out.cell 0 rfl 15 rfl
          have z172 := H95.out.cell 0 rfl 16 rfl
          have z173 := H95.out.cell 0 rfl 17 rfl
          go_wp2_with fail
          clear z156 z157 z158 z159 z160 z161 z162 z163 z164 z165 z166 z167 z168 z169 z170 z171 z172 z173
          go_ret2
          exact ⟨ret_pp (by unfold spF; rw [if_neg (by have := c97h.out; have := c116h.out; have := c135h.out; omega), if_pos (by have := c97h.out; have := c116h.out; have := c135h.out; omega), if_neg (by rw [← HL.out]; omega)]) (by unfold spC; rw [if_neg (by have := c97h.out; have := c116h.out; have := c135h.out; omega), if_pos (by have := c97h.out; have := c116h.out; have := c135h.out; omega), if_neg (by rw [← HL.out]; omega)]), by first | exact H95.out.below | exact H95.out.below'⟩
      · have c135a : ((kd : Int) == (3)) = false := by simpa using c135
        have c135b : ((kd : Int) != (3)) = true := by simpa using c135
        have c135h := hid c135
        clear c135
        have z174 := H95.out.cell 0 rfl 0 rfl
        have z175 := H95.out.cell 0 rfl 1 rfl
        have z176 := H95.out.cell 0 rfl 2 rfl
        have z177 := H95.out.cell 0 rfl 3 rfl
        have z178 := H95.out.cell 0 rfl 4 rfl
        have z179 := H95.out.cell 0 rfl 5 rfl
        have z180 := H95.out.cell 0 rfl 6 rfl
        have z181 := H95.out.cell 0 rfl 7 rfl
        have z182 := H95.out.cell 0 rfl 8 rfl
        have z183 := H95.out.cell 0 rfl 9 rfl
        have z184 := H95.out.cell 0 rfl 10 rfl
        have z185 := H95.out.cell 0 rfl 11 rfl
        have z186 := H95.out.cell 0 rfl 12 rfl
        have z187 := H95.out.cell 0 rfl 13 rfl
        have z188 := H95.out.cell 0 rfl 14 rfl
        have z189 := H95.out.cell 0 rfl 15 rfl
        have z190 := H95.out.cell 0 rfl 16 rfl
        have z191 := H95.out.cell 0 rfl 17 rfl
        go_wp2_with fail
        clear z174 z175 z176 z177 z178 z179 z180 z181 z182 z183 z184 z185 z186 z187 z188 z189 z190 z191
        go_ret2
        exact ⟨ret_pp (by unfold spF; rw [if_neg (by have := c97h.out; have := c116h.out; have := c135h.out; omega), if_neg (by have := c97h.out; have := c116h.out; have := c135h.out; omega)]) (by unfold spC; rw [if_neg (by have := c97h.out; have := c116h.out; have := c135h.out; omega), if_neg (by have := c97h.out; have := c116h.out; have := c135h.out; omega)]), by first | exact H95.out.below | exact H95.out.below'⟩

set_option maxRecDepth 100000 in
set_option maxHeartbeats 6400000 in
theorem rwindow_any (kd : Int) (i side : Int) (a : Option Addr) (m c : Nat) (T : Tbl) (W : World) (hs : Tps W a m c T) (hi : 0 ≤ i ∧ i ≤ 128) (hsd : kd = 1 ∨ kd = 2 → 1 ≤ side ∧ side ≤ 9) :
    Calls Try.prog 45 #[.int .i64 kd, .int .i64 i, .int .i64 side, .slice a m c] W fun e w' => e = .returned (.tuple #[.int .i64 (spF kd i side T), .int .i64 (spC kd i side T)]) ∧ Below W.heap.size W w' := by
  obtain ⟨B, hB⟩ : ∃ B, W.heap.size = B := ⟨_, rfl⟩
  have HI0 := hid (St.init hB)
  have HL := hid hs.len
  have nmx : (m : Int) ≤ 9223372036854775807 := by have := hs.nc; have := hs.cap; omega
  have HS := hid hs
  obtain ⟨i0, i1⟩ := hi
  obtain ⟨I, hI⟩ : ∃ I : Nat, i = I := ⟨i.toNat, by omega⟩
  subst hI
  clear hs
  go_enter Try.func45, Try.ntmps45
  by_cases c192 : (kd : Int) = 1
  · obtain ⟨c192c, c192d⟩ : (kd : Int) ≤ 1 ∧ (1 : Int) ≤ kd := by omega
    have c192a : ((kd : Int) == (1)) = true := by simpa using c192
    have c192b : ((kd : Int) != (1)) = false := by simpa using c192
    have c192h := hid c192
    clear c192
    go_upto_region 4 with fail
    obtain ⟨sd1, sd2⟩ := hsd (by have := c192h.out; omega)
    obtain ⟨hf, hhf⟩ : ∃ z, Int.tdiv side 2 = z := ⟨_, rfl⟩
    have hf1 : 0 ≤ hf ∧ hf ≤ 4 := by rw [← hhf, Int.tdiv_eq_ediv_of_nonneg (by omega)]; omega
    have HHF := hid hhf
    have whf : IntKind.i64.wrap hf = hf := IntWalk.i64_in _ (by omega)
    have whi : IntKind.i64.wrap ((I : Int) - hf) = (I : Int) - hf := IntWalk.i64_in _ (by omega)
    go_wp2_with fail
    go_ret2
    exact ⟨ret_pp (by unfold spF; rw [if_pos (by have := c192h.out; omega), HHF.out]) (by unfold spC; rw [if_pos (by have := c192h.out; omega)]), by first | exact HI0.out.below | exact HI0.out.below'⟩
  · have c192a : ((kd : Int) == (1)) = false := by simpa using c192
    have c192b : ((kd : Int) != (1)) = true := by simpa using c192
    have c192h := hid c192
    clear c192
    by_cases c193 : (kd : Int) = 2
    · obtain ⟨c193c, c193d⟩ : (kd : Int) ≤ 2 ∧ (2 : Int) ≤ kd := by omega
      have c193a : ((kd : Int) == (2)) = true := by simpa using c193
      have c193b : ((kd : Int) != (2)) = false := by simpa using c193
      have c193h := hid c193
      clear c193
      go_upto_region 4 with fail
      obtain ⟨sd1, sd2⟩ := hsd (by have := c192h.out; have := c193h.out; omega)
      obtain ⟨hf, hhf⟩ : ∃ z, Int.tdiv side 2 = z := ⟨_, rfl⟩
      have hf1 : 0 ≤ hf ∧ hf ≤ 4 := by rw [← hhf, Int.tdiv_eq_ediv_of_nonneg (by omega)]; omega
      have HHF := hid hhf
      have whf : IntKind.i64.wrap hf = hf := IntWalk.i64_in _ (by omega)
      have whi : IntKind.i64.wrap ((I : Int) - hf) = (I : Int) - hf := IntWalk.i64_in _ (by omega)
      go_wp2_with fail
      go_ret2
      exact ⟨ret_pp (by unfold spF; rw [if_pos (by have := c192h.out; have := c193h.out; omega), HHF.out]) (by unfold spC; rw [if_pos (by have := c192h.out; have := c193h.out; omega)]), by first | exact HI0.out.below | exact HI0.out.below'⟩
    · have c193a : ((kd : Int) == (2)) = false := by simpa using c193
      have c193b : ((kd : Int) != (2)) = true := by simpa using c193
      have c193h := hid c193
      clear c193
      by_cases c194 : (kd : Int) = 3
      · obtain ⟨c194c, c194d⟩ : (kd : Int) ≤ 3 ∧ (3 : Int) ≤ kd := by omega
        have c194a : ((kd : Int) == (3)) = true := by simpa using c194
        have c194b : ((kd : Int) != (3)) = false := by simpa using c194
        have c194h := hid c194
        clear c194
        by_cases hin : I < m
        · skip
          have hin' : (I : Int) < m := by omega
          have hin2 : ¬ ((m : Int) ≤ (I : Int)) := by omega
          obtain ⟨pb, po, hpa⟩ := HS.out.at (by omega)
          subst hpa
          obtain ⟨ta, tn, tc, e1, e2, e3⟩ := HS.out.row (i := I) hin
          obtain ⟨p, hp⟩ : ∃ p, T.getD I (0, []) = p := ⟨_, rfl⟩
          obtain ⟨k, ws⟩ := p
          rw [hp] at e1 e3
          simp only at e1 e3
          have HE1 := hid e1
          have HE2 := hid e2
          have HWL := hid e3.len
          have tnm : (tn : Int) ≤ 9223372036854775807 := by have := e3.nc; have := e3.cap; omega
          have HP := hid hp
          clear e1 e2 e3 hp
          go_upto_region 7 with fail
          have H195 := hid HI0.out.drew
          refine wp_region_held_drew (S := (fun w' => w'.cell? ⟨pb, po + I * 2, none⟩ = some (.int .i64 k) ∧ w'.cell? ⟨pb, po + I * 2 + 1, none⟩ = some (.slice ta tn tc))) (by kernel_rfl) ⟨(H195.out.oldCell HE1.out), (H195.out.oldCell HE2.out)⟩ (fun hHeld => ?_)
          generalize W.drew = k196 at *
          refine tkA 0 ?_
          try simp only [Act.put, p1, p2, p3, p4, p5, p6]
          refine tkA 1 ?_
          try simp only [Act.put, p1, p2, p3, p4, p5, p6]
          refine tkA 2 ?_
          try simp only [Act.put, p1, p2, p3, p4, p5, p6]
          refine tkA 3 ?_
          try simp only [Act.put, p1, p2, p3, p4, p5, p6]
          refine tkA 4 ?_
          try simp only [Act.put, p1, p2, p3, p4, p5, p6]
          refine tkA 5 ?_
          try simp only [Act.put, p1, p2, p3, p4, p5, p6]
          refine tkA 6 ?_
          try simp only [Act.put, p1, p2, p3, p4, p5, p6]
          refine tkA 7 ?_
          try simp only [Act.put, p1, p2, p3, p4, p5, p6]
          refine tkA 8 ?_
          try simp only [Act.put, p1, p2, p3, p4, p5, p6]
          refine tkA 9 ?_
          try simp only [Act.put, p1, p2, p3, p4, p5, p6]
          refine tkA 10 ?_
          try simp only [Act.put, p1, p2, p3, p4, p5, p6]
          refine tkA 11 ?_
          try simp only [Act.put, p1, p2, p3, p4, p5, p6]
          refine tkA 12 ?_
          try simp only [Act.put, p1, p2, p3, p4, p5, p6]
          refine wpAnyH_done (by kernel_rfl) ?_ _
          try clear hHeld
          go_wp2_with fail
          go_ret2
          exact ⟨ret_pp (by unfold spF; rw [if_neg (by have := c192h.out; have := c193h.out; have := c194h.out; omega), if_pos (by have := c192h.out; have := c193h.out; have := c194h.out; omega), if_pos (by rw [← HL.out]; omega), Int.toNat_natCast, HP.out]) (by unfold spC; rw [if_neg (by have := c192h.out; have := c193h.out; have := c194h.out; omega), if_pos (by have := c192h.out; have := c193h.out; have := c194h.out; omega), if_pos (by rw [← HL.out]; omega), Int.toNat_natCast, HP.out]; show _ = (ws.length : Int); rw [HWL.out]), by first | exact H195.out.below | exact H195.out.below'⟩
        · skip
          have hin' : ¬ ((I : Int) < m) := by omega
          have hin2 : (m : Int) ≤ (I : Int) := by omega
          go_wp2_with fail
          go_ret2
          exact ⟨ret_pp (by unfold spF; rw [if_neg (by have := c192h.out; have := c193h.out; have := c194h.out; omega), if_pos (by have := c192h.out; have := c193h.out; have := c194h.out; omega), if_neg (by rw [← HL.out]; omega)]) (by unfold spC; rw [if_neg (by have := c192h.out; have := c193h.out; have := c194h.out; omega), if_pos (by have := c192h.out; have := c193h.out; have := c194h.out; omega), if_neg (by rw [← HL.out]; omega)]), by first | exact HI0.out.below | exact HI0.out.below'⟩
      · have c194a : ((kd : Int) == (3)) = false := by simpa using c194
        have c194b : ((kd : Int) != (3)) = true := by simpa using c194
        have c194h := hid c194
        clear c194
        go_wp2_with fail
        go_ret2
        exact ⟨ret_pp (by unfold spF; rw [if_neg (by have := c192h.out; have := c193h.out; have := c194h.out; omega), if_neg (by have := c192h.out; have := c193h.out; have := c194h.out; omega)]) (by unfold spC; rw [if_neg (by have := c192h.out; have := c193h.out; have := c194h.out; omega), if_neg (by have := c192h.out; have := c193h.out; have := c194h.out; omega)]), by first | exact HI0.out.below | exact HI0.out.below'⟩
end

section
open Go.RowKit
set_option linter.unusedVariables false

/-- Marked by one output coordinate: the first c source coordinates from first on. -/
def mkIn (n p first : Int) (m : Nat) : Nat → Bool
  | 0 => false
  | c + 1 => mkIn n p first m c || (bOk (first + (c : Int)) n p && decide (bIdx (first + (c : Int)) n p = (m : Int)))
def mkTo (kd side n p : Int) (T : Tbl) (a : Int) (m : Nat) : Nat → Bool
  | 0 => false
  | d + 1 => mkTo kd side n p T a m d || mkIn n p (spF kd (a + (d : Int)) side T) m (spC kd (a + (d : Int)) side T).toNat
theorem mkIn_out {n p first : Int} {m : Nat} (h : n ≤ (m : Int)) (hb : ∀ i, bOk i n p = true → bIdx i n p < n) : ∀ c, mkIn n p first m c = false
  | 0 => rfl
  | c + 1 => by
    simp only [mkIn]; rw [mkIn_out h hb c, Bool.false_or]
    cases hk : bOk (first + (c : Int)) n p with
    | false => rfl
    | true => have := hb _ hk; simp; omega
theorem mkTo_out {kd side n p : Int} {T : Tbl} {a : Int} {m : Nat} (h : n ≤ (m : Int)) (hb : ∀ i, bOk i n p = true → bIdx i n p < n) : ∀ d, mkTo kd side n p T a m d = false
  | 0 => rfl
  | d + 1 => by simp only [mkTo]; rw [mkTo_out h hb d, mkIn_out h hb, Bool.or_false]
def outL (P : Nat → Bool) : Nat → List Int
  | 0 => []
  | m + 1 => if P m = true then outL P m ++ [(m : Int)] else outL P m
theorem outL_len (P : Nat → Bool) : ∀ m, (outL P m).length ≤ m
  | 0 => Nat.le_refl _
  | m + 1 => by
    have := outL_len P m
    simp only [outL]; split
    · rw [List.length_append, List.length_singleton]; omega
    · omega
theorem outL_more {P : Nat → Bool} {n : Nat} (h : ∀ m, n ≤ m → P m = false) : ∀ d, outL P (n + d) = outL P n
  | 0 => rfl
  | d + 1 => by
    show outL P (n + d + 1) = _
    simp only [outL]; rw [h (n + d) (by omega)]; simpa using outL_more h d
theorem outL_congr {P Q : Nat → Bool} (h : ∀ m, P m = Q m) : ∀ n, outL P n = outL Q n
  | 0 => rfl
  | n + 1 => by simp only [outL]; rw [h, outL_congr h n]
def stPol (kd ep : Int) : Int := if kd = 4 ∨ kd = 5 ∨ kd = 6 then 3 else ep
def ndL (fine : Bool) (kd ep side n : Int) (T : Tbl) (a b : Int) : List Int := if fine = true then outL (fun m => mkTo kd side n (stPol kd ep) T a m (b - a).toNat) n.toNat else []
def bvs (N : Nat) (P : Nat → Bool) : List Value := (List.range N).map fun m => .bool (P m)
theorem bvs_len (N : Nat) (P : Nat → Bool) : (bvs N P).length = N := by simp [bvs]
theorem bvs_get {N : Nat} (P : Nat → Bool) {j : Nat} (h : j < N) : (bvs N P)[j]? = some (.bool (P j)) := by
  unfold bvs; rw [List.getElem?_map, List.getElem?_range h]; rfl
theorem bvs_set {N j : Nat} (P : Nat → Bool) (h : j < N) : (bvs N P).set j (.bool true) = bvs N (fun m => P m || decide (m = j)) := by
  refine List.ext_getElem (by simp [bvs]) fun i h1 h2 => ?_
  rw [List.getElem_set]
  by_cases e : j = i
  · subst e; simp [bvs]
  · rw [if_neg e]; have : ¬ i = j := fun e' => e e'.symm; simp [bvs, this]
theorem bvs_congr {N : Nat} {P Q : Nat → Bool} (h : ∀ m, P m = Q m) : bvs N P = bvs N Q := by unfold bvs; rw [funext h]
theorem bvs_zero (N : Nat) : List.replicate N (Value.bool false) = bvs N (fun _ => false) := by
  refine List.ext_getElem (by simp [bvs]) fun i h1 h2 => ?_
  simp [bvs]
theorem bvs_zeroA : Array.replicate 128 (Value.bool false) = (bvs 128 (fun _ => false)).toArray := by rw [← bvs_zero, List.toArray_replicate]
theorem bvs_setA {N j : Nat} (P : Nat → Bool) (h : j < N) : (bvs N P).toArray.setIfInBounds j (.bool true) = (bvs N (fun m => P m || decide (m = j))).toArray := by
  rw [← bvs_set P h]; simp
theorem info_bool : (Try.prog.info? 4).map (fun i => (i.zero, i.size, i.bytes)) = some (some (.bool false), 1, 1) := by kernel_rfl
theorem make_bool {ops : Array Oper} {rest : List Oper} {o : Oper} {a : Act} {Q : Exit → Act → World → Prop} {w : World} (hgd : o.guard = none) (l c : Operand)
    (ho : o.op = Op.makeSlice 75 l c) (base : Nat) (L C : Int) (n : Nat) (hl : a.eval l = .int .i64 L) (hc : a.eval c = .int .i64 C) (hL : L = (n : Int)) (hC : C = (n : Int)) (hn : n ≤ 1000000) (hbase : base ≤ w.heap.size)
    (h : ∀ w', w'.ownsRow base 4 1 (.slice (some ⟨w.heap.size, 0, none⟩) n n) n (bvs n (fun _ => false)) → Below w.heap.size w w' → wpList Try.prog ops Q rest (a.put o.dst (.slice (some ⟨w.heap.size, 0, none⟩) n n)) w') :
    wpList Try.prog ops Q (o :: rest) a w := by
  obtain ⟨i0, hi, hz0, hz1, hz2⟩ := info_parts info_bool
  refine wpList_make_full w hgd l c 75 ho base 4 i0 (.bool false) 1 Try.underlying75 hi hz0 hz1 .i64 .i64 L C n hl hc hL hC (by rw [hz2]; omega) (by unfold maxLen; omega) hbase ?_
  intro w' h1 h2
  refine h w' ?_ (below_of_grown_none h2)
  have e : (madeCells (Value.bool false).cells (n * 1)).toList = List.replicate n (.bool false) := by
    rw [Nat.mul_one]; exact toList_madeCells_one _ _
  rw [e, bvs_zero] at h1
  exact h1
section
variable {B : Nat} {W w w' : World} {l : List Ch} {rs : List Ro}
theorem St.madeB (h : St B W l rs w) {D n : Nat} {vs : List Value} (hD : w.heap.size = D) (ho : w'.ownsRow B 4 1 (.slice (some ⟨D, 0, none⟩) n n) n vs) (hb : Below w.heap.size w w') : St B W (.arr 4 1 (.slice (some ⟨D, 0, none⟩) n n) n vs :: l) rs w' :=
  h.new hb (c := .arr 4 1 (.slice (some ⟨D, 0, none⟩) n n) n vs) ho (fun b e => by cases e; exact Nat.le_of_eq hD)
theorem St.loadArr (h : St B W l rs w) (i : Nat) {b : Nat} {P : Nat → Bool} (hi : l[i]? = some (.cells b (bvs 128 P).toArray 72)) : (Instr.loadAt 72 (.pointer (some ⟨b, 0, none⟩))).run Try.prog w = .ok (.agg (bvs 128 P).toArray) w := by
  simp only [Instr.loadAt, Instr.sureAddr, Sem.run_bind, Sem.run_pure, Result.andThen]
  exact run_loadVar_row _ _ 72 72 _ (0, 0) _ (h.all i _ hi).2 Try.underlying72 rfl (by
    have : (Try.prog.info? 72).map (·.size) = some 128 := by kernel_rfl
    rw [this]; simp [bvs])
end
theorem idx128 (P : Nat → Bool) {i : Nat} (hi : i < 128) (w : World) : (Instr.index 72 (.agg (bvs 128 P).toArray) (.int .i64 i)).run Try.prog w = .ok (.bool (P i)) w := by
  have h := Try.underlying72
  have h2 : (bvs 128 P).toArray[i]? = some (.bool (P i)) := by simpa using bvs_get P hi
  simp [Instr.index, run_underlying h, asIntOf, go_sem, hi]
  simp at h2
  simp [h2]
theorem zero128 (w : World) : (zeroValue 72).run Try.prog w = .ok (.agg (Array.replicate 128 (.bool false))) w := by kernel_rfl
end

section
open Go.RowKit
set_option linter.unusedVariables false

theorem fspan16_A {kd sa sb : Int} {bar : Bool} {ep ef kw kh : Int} {wa : Option Addr} {wn wc : Nat} {ra : Option Addr} {rn rc : Nat} {ca : Option Addr} {cn cc : Nat} {sh sh2 : Int} {xa : Option Addr} {xn xc : Nat} {ya : Option Addr} {yn yc : Nat} {bins : Int} {oa : Option Addr} {on oc : Nat} {mx : Int} {A : Array Value} (hA : A = #[.int .i64 kd, .int .i64 sa, .int .i64 sb, .bool bar, .int .i64 ep, .int .i64 ef, .int .i64 kw, .int .i64 kh, .slice wa wn wc, .slice ra rn rc, .slice ca cn cc, .int .i64 sh, .int .i64 sh2, .slice xa xn xc, .slice ya yn yc, .int .i64 bins, .slice oa on oc, .int .i64 mx]) (i side : Int) (a : Option Addr) (m c : Nat) (T : Tbl) (W : World) (hs : Tps W a m c T) (hi : 0 ≤ i ∧ i ≤ 128) (hsd : kd = 1 ∨ kd = 2 → 1 ≤ side ∧ side ≤ 9) : Calls Try.prog 43 #[.agg A, .int .i64 i, .int .i64 side, .slice a m c] W fun e w' => e = .returned (.tuple #[.int .i64 (spF kd i side T), .int .i64 (spC kd i side T)]) ∧ Below W.heap.size W w' := by
  subst hA; exact fspan16_any _ _ _ _ _ _ _ _ _ _ _ _ _ _ _ _ _ _ _ _ _ _ _ _ _ _ _ _ _ _ i side a m c T W hs hi hsd
end
end Go.Proofs.Ytlidacfokgdlgaa
