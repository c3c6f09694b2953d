/-
 Contract: which fields a stage may use, in the program, at the kind 2.
-/
import Derived.Test.YteejjnhlfgjlaaaStF
import Derived.Test.YteejjnhlfgjlaaaKH
namespace Go.Proofs.Yteejjnhlfgjlaaa
open Go.RowKit
attribute [local go_sem ↓] Go.wp_at_zero Go.wp_at_succ edge_eq edge_ne
set_option linter.unusedVariables false
set_option linter.unusedSimpArgs false

set_option maxRecDepth 100000 in
set_option maxHeartbeats 6400000 in
theorem sfields_2 (sa sb : Int) (bar : Bool) (ep ef kw kh : Int) (wa : Option Addr) (wn wc : Nat) (ra : Option Addr) (rn rc : Nat) (ca : Option Addr) (cn cc : Nat) (sh sh2 : Int) (xa : Option Addr) (xn xc : Nat) (ya : Option Addr) (yn yc : Nat) (bins : Int) (oa : Option Addr) (on oc : Nat) (mx : Int) (W : World) : Calls Try.prog 11 #[.agg #[.int .i64 2, .int .i64 sa, .int .i64 sb, .bool bar, .int .i64 ep, .int .i64 ef, .int .i64 kw, .int .i64 kh, .slice wa wn wc, .slice ra rn rc, .slice ca cn cc, .int .i64 sh, .int .i64 sh2, .slice xa xn xc, .slice ya yn yc, .int .i64 bins, .slice oa on oc, .int .i64 mx]] W fun e w' => e = .returned (.bool (sfOk 2 sb ep ef kw kh wn rn cn sh sh2 xn yn bins on mx)) ∧ Below W.heap.size W w' := by
 obtain ⟨B, hB⟩ : ∃ B, W.heap.size = B := ⟨_, rfl⟩
 have HI0 := hid (St.init hB)
 obtain ⟨eb, heb⟩ : ∃ x, decide (ep = 0 ∧ ef = 0) = x := ⟨_, rfl⟩
 have HEB := hid heb
 go_enter Try.func11, Try.ntmps11
 go_upto_region 1 with fail
 have H135 := hid (HI0.out.alloc #[.int .i64 2, .int .i64 sa, .int .i64 sb, .bool bar, .int .i64 ep, .int .i64 ef, .int .i64 kw, .int .i64 kh, .slice wa wn wc, .slice ra rn rc, .slice ca cn cc, .int .i64 sh, .int .i64 sh2, .slice xa xn xc, .slice ya yn yc, .int .i64 bins, .slice oa on oc, .int .i64 mx] 33 hB)
 first | refine gen_code H135.out ?_ | refine gen_list H135.out ?_ | refine gen_calls H135.out ?_
 intro w136 hG
 clear H135
 have H135 := hid hG
 clear hG
 by_cases c137 : (sb : Int) = (-1)
 ·
  obtain ⟨c137c, c137d⟩ : (sb : Int) ≤ (-1) ∧ ((-1) : Int) ≤ sb := by omega
  have c137a : ((sb : Int) == ((-1))) = true := by simpa using c137
  have c137b : ((sb : Int) != ((-1))) = false := by simpa using c137
  have c137h := hid c137
  clear c137
  obtain ⟨z138, z139, z140, z141, z142, z143, z144, z145, z146, z147, z148, z149, z150, z151, z152, z153, z154, z155⟩ := cs18 H135.out 0 rfl
  go_wp2_with fail
  clear z138 z139 z140 z141 z142 z143 z144 z145 z146 z147 z148 z149 z150 z151 z152 z153 z154 z155
  refine (edged_any _ _).mono ?_
  rintro e w156 ⟨rfl, hsw⟩
  have hsw2 : w136 = w156 := by first | exact hsw | exact hsw.symm
  clear hsw
  subst hsw2
  rw [show edOk 2 = true from by decide]
  obtain ⟨D157, hD157⟩ : ∃ D, w136.heap.size = D := ⟨_, rfl⟩
  go_wp2_with fail
  have H158 := hid (H135.out.alloc #[.int .i64 1] 3 hD157)
  first | refine gen_code H158.out ?_ | refine gen_list H158.out ?_ | refine gen_calls H158.out ?_
  intro w159 hG
  clear H158
  have H158 := hid hG
  clear hG
  clear hD157
  refine (is_any _ _ _ [1] B _ _ (H158.out.lit 0 [1] rfl (by simp)) (by decide) (hid (H158.out.cell 1 rfl 0 rfl))).mono ?_
  rintro e w160 ⟨rfl, hb⟩
  have H161 := hid (H158.out.call hb)
  clear hb
  rw [show isIn 2 [1] = false from by decide]
  obtain ⟨D162, hD162⟩ : ∃ D, w160.heap.size = D := ⟨_, rfl⟩
  go_wp2_with fail
  have H163 := hid (H161.out.alloc #[.int .i64 2] 3 hD162)
  first | refine gen_code H163.out ?_ | refine gen_list H163.out ?_ | refine gen_calls H163.out ?_
  intro w164 hG
  clear H163
  have H163 := hid hG
  clear hG
  clear hD162
  refine (is_any _ _ _ [2] B _ _ (H163.out.lit 0 [2] rfl (by simp)) (by decide) (hid (H163.out.cell 2 rfl 0 rfl))).mono ?_
  rintro e w165 ⟨rfl, hb⟩
  have H166 := hid (H163.out.call hb)
  clear hb
  rw [show isIn 2 [2] = true from by decide]
  obtain ⟨D167, hD167⟩ : ∃ D, w165.heap.size = D := ⟨_, rfl⟩
  go_wp2_with fail
  have H168 := hid (H166.out.alloc #[.int .i64 3] 3 hD167)
  first | refine gen_code H168.out ?_ | refine gen_list H168.out ?_ | refine gen_calls H168.out ?_
  intro w169 hG
  clear H168
  have H168 := hid hG
  clear hG
  clear hD167
  refine (is_any _ _ _ [3] B _ _ (H168.out.lit 0 [3] rfl (by simp)) (by decide) (hid (H168.out.cell 3 rfl 0 rfl))).mono ?_
  rintro e w170 ⟨rfl, hb⟩
  have H171 := hid (H168.out.call hb)
  clear hb
  rw [show isIn 2 [3] = false from by decide]
  obtain ⟨D172, hD172⟩ : ∃ D, w170.heap.size = D := ⟨_, rfl⟩
  go_wp2_with fail
  have H173 := hid (H171.out.alloc #[.int .i64 6] 3 hD172)
  first | refine gen_code H173.out ?_ | refine gen_list H173.out ?_ | refine gen_calls H173.out ?_
  intro w174 hG
  clear H173
  have H173 := hid hG
  clear hG
  clear hD172
  refine (is_any _ _ _ [6] B _ _ (H173.out.lit 0 [6] rfl (by simp)) (by decide) (hid (H173.out.cell 4 rfl 0 rfl))).mono ?_
  rintro e w175 ⟨rfl, hb⟩
  have H176 := hid (H173.out.call hb)
  clear hb
  rw [show isIn 2 [6] = false from by decide]
  go_upto_region 11 with fail
  first | refine wp_region_lit (wL_to ?_) | refine wp_seq (wp_region_lit (wL_to ?_))
  obtain ⟨z177, z178, z179, z180, z181, z182, z183, z184, z185, z186, z187, z188, z189, z190, z191, z192, z193, z194⟩ := cs18 H176.out 4 rfl
  iterate 2 (refine lsA ?_; try simp only [Act.put, p1, p2, p3, p4, p5, p6])
  iterate 4 (refine lsU ?_; try simp only [Act.put, p1, p2, p3, p4, p5, p6])
  iterate 6 (refine lsA ?_; try simp only [Act.put, p1, p2, p3, p4, p5, p6])
  by_cases c195 : (kw : Int) = 0
  ·
   obtain ⟨c195c, c195d⟩ : (kw : Int) ≤ 0 ∧ (0 : Int) ≤ kw := by omega
   have c195a : ((kw : Int) == (0)) = true := by simpa using c195
   have c195b : ((kw : Int) != (0)) = false := by simpa using c195
   have c195h := hid c195
   clear c195
   iterate 4 (refine lsA ?_; try simp only [Act.put, p1, p2, p3, p4, p5, p6])
   by_cases c196 : (kh : Int) = 0
   ·
    obtain ⟨c196c, c196d⟩ : (kh : Int) ≤ 0 ∧ (0 : Int) ≤ kh := by omega
    have c196a : ((kh : Int) == (0)) = true := by simpa using c196
    have c196b : ((kh : Int) != (0)) = false := by simpa using c196
    have c196h := hid c196
    clear c196
    iterate 6 (refine lsA ?_; try simp only [Act.put, p1, p2, p3, p4, p5, p6])
    by_cases c197 : (wn : Int) = 0
    ·
     obtain ⟨c197c, c197d⟩ : (wn : Int) ≤ 0 ∧ (0 : Int) ≤ wn := by omega
     have c197a : ((wn : Int) == (0)) = true := by simpa using c197
     have c197b : ((wn : Int) != (0)) = false := by simpa using c197
     have c197e : (wn == 0) = true := by simp; omega
     have c197f : (wn != 0) = false := by simp; omega
     have c197h := hid c197
     clear c197
     iterate 7 (refine lsA ?_; try simp only [Act.put, p1, p2, p3, p4, p5, p6])
     iterate 10 (refine lsU ?_; try simp only [Act.put, p1, p2, p3, p4, p5, p6])
     iterate 5 (refine lsA ?_; try simp only [Act.put, p1, p2, p3, p4, p5, p6])
     iterate 3 (refine lsU ?_; try simp only [Act.put, p1, p2, p3, p4, p5, p6])
     iterate 5 (refine lsA ?_; try simp only [Act.put, p1, p2, p3, p4, p5, p6])
     refine lsU ?_
     try simp only [Act.put, p1, p2, p3, p4, p5, p6]
     iterate 2 (refine lsA ?_; try simp only [Act.put, p1, p2, p3, p4, p5, p6])
     iterate 3 (refine lsU ?_; try simp only [Act.put, p1, p2, p3, p4, p5, p6])
     iterate 8 (refine lsA ?_; try simp only [Act.put, p1, p2, p3, p4, p5, p6])
     by_cases c198 : (xn : Int) = 0
     ·
      obtain ⟨c198c, c198d⟩ : (xn : Int) ≤ 0 ∧ (0 : Int) ≤ xn := by omega
      have c198a : ((xn : Int) == (0)) = true := by simpa using c198
      have c198b : ((xn : Int) != (0)) = false := by simpa using c198
      have c198e : (xn == 0) = true := by simp; omega
      have c198f : (xn != 0) = false := by simp; omega
      have c198h := hid c198
      clear c198
      iterate 5 (refine lsA ?_; try simp only [Act.put, p1, p2, p3, p4, p5, p6])
      by_cases c199 : (yn : Int) = 0
      ·
       obtain ⟨c199c, c199d⟩ : (yn : Int) ≤ 0 ∧ (0 : Int) ≤ yn := by omega
       have c199a : ((yn : Int) == (0)) = true := by simpa using c199
       have c199b : ((yn : Int) != (0)) = false := by simpa using c199
       have c199e : (yn == 0) = true := by simp; omega
       have c199f : (yn != 0) = false := by simp; omega
       have c199h := hid c199
       clear c199
       iterate 6 (refine lsA ?_; try simp only [Act.put, p1, p2, p3, p4, p5, p6])
       obtain ⟨D200, hD200⟩ : ∃ D, w175.heap.size = D := ⟨_, rfl⟩
       refine lsB ?_
       try simp only [Act.put, p1, p2, p3, p4, p5, p6]
       have H201 := hid (H176.out.alloc #[.int .i64 4] 3 hD200)
       clear hD200
       generalize (w175.alloc (.cells #[.int .i64 4] 3)) = k202 at *
       clear z177 z178 z179 z180 z181 z182 z183 z184 z185 z186 z187 z188 z189 z190 z191 z192 z193 z194
       obtain ⟨z203, z204, z205, z206, z207, z208, z209, z210, z211, z212, z213, z214, z215, z216, z217, z218, z219, z220⟩ := cs18 H201.out 5 rfl
       refine lsC ?_
       refine (is_any _ _ _ [4] B _ _ (H201.out.lit 0 [4] rfl (by simp)) (by decide) (hid (H201.out.cell 5 rfl 0 rfl))).mono ?_
       rintro e w221 ⟨rfl, hb⟩
       have H222 := hid (H201.out.call hb)
       clear hb
       rw [show isIn 2 [4] = false from by decide]
       refine ⟨_, rfl, ?_⟩
       try simp only [Act.put, p1, p2, p3, p4, p5, p6]
       clear z203 z204 z205 z206 z207 z208 z209 z210 z211 z212 z213 z214 z215 z216 z217 z218 z219 z220
       obtain ⟨z223, z224, z225, z226, z227, z228, z229, z230, z231, z232, z233, z234, z235, z236, z237, z238, z239, z240⟩ := cs18 H222.out 5 rfl
       iterate 3 (refine lsA ?_; try simp only [Act.put, p1, p2, p3, p4, p5, p6])
       by_cases c241 : (bins : Int) = 0
       ·
        obtain ⟨c241c, c241d⟩ : (bins : Int) ≤ 0 ∧ (0 : Int) ≤ bins := by omega
        have c241a : ((bins : Int) == (0)) = true := by simpa using c241
        have c241b : ((bins : Int) != (0)) = false := by simpa using c241
        have c241h := hid c241
        clear c241
        iterate 9 (refine lsA ?_; try simp only [Act.put, p1, p2, p3, p4, p5, p6])
        by_cases c242 : (on : Int) = 0
        ·
         obtain ⟨c242c, c242d⟩ : (on : Int) ≤ 0 ∧ (0 : Int) ≤ on := by omega
         have c242a : ((on : Int) == (0)) = true := by simpa using c242
         have c242b : ((on : Int) != (0)) = false := by simpa using c242
         have c242e : (on == 0) = true := by simp; omega
         have c242f : (on != 0) = false := by simp; omega
         have c242h := hid c242
         clear c242
         iterate 6 (refine lsA ?_; try simp only [Act.put, p1, p2, p3, p4, p5, p6])
         refine lsU ?_
         try simp only [Act.put, p1, p2, p3, p4, p5, p6]
         iterate 2 (refine lsA ?_; try simp only [Act.put, p1, p2, p3, p4, p5, p6])
         iterate 3 (refine lsU ?_; try simp only [Act.put, p1, p2, p3, p4, p5, p6])
         iterate 3 (refine lsA ?_; try simp only [Act.put, p1, p2, p3, p4, p5, p6])
         refine wL_nil ?_
         clear z223 z224 z225 z226 z227 z228 z229 z230 z231 z232 z233 z234 z235 z236 z237 z238 z239 z240
         go_wp2_with fail
         have he0 := HEB.out
         try simp only [decide_eq_true_eq, decide_eq_false_iff_not] at he0
         go_ret
         exact ⟨ret_b (by unfold sfOk; have := c137h.out; have := c195h.out; have := c196h.out; have := c197h.out; have := c198h.out; have := c199h.out; have := c241h.out; have := c242h.out; exact (decide_eq_true (by omega)).symm), by first | exact H222.out.below | exact H222.out.below'⟩
        ·
         have c242a : ((on : Int) == (0)) = false := by simpa using c242
         have c242b : ((on : Int) != (0)) = true := by simpa using c242
         have c242e : (on == 0) = false := by simp; omega
         have c242f : (on != 0) = true := by simp; omega
         have c242h := hid c242
         clear c242
         iterate 4 (refine lsA ?_; try simp only [Act.put, p1, p2, p3, p4, p5, p6])
         iterate 9 (refine lsU ?_; try simp only [Act.put, p1, p2, p3, p4, p5, p6])
         iterate 2 (refine lsA ?_; try simp only [Act.put, p1, p2, p3, p4, p5, p6])
         refine wL_nil ?_
         clear z223 z224 z225 z226 z227 z228 z229 z230 z231 z232 z233 z234 z235 z236 z237 z238 z239 z240
         go_wp2_with fail
         have he0 := HEB.out
         try simp only [decide_eq_true_eq, decide_eq_false_iff_not] at he0
         go_ret
         exact ⟨ret_b (by unfold sfOk; have := c137h.out; have := c195h.out; have := c196h.out; have := c197h.out; have := c198h.out; have := c199h.out; have := c241h.out; have := c242h.out; exact (decide_eq_false (by omega)).symm), by first | exact H222.out.below | exact H222.out.below'⟩
       ·
        have c241a : ((bins : Int) == (0)) = false := by simpa using c241
        have c241b : ((bins : Int) != (0)) = true := by simpa using c241
        have c241h := hid c241
        clear c241
        iterate 4 (refine lsA ?_; try simp only [Act.put, p1, p2, p3, p4, p5, p6])
        iterate 7 (refine lsU ?_; try simp only [Act.put, p1, p2, p3, p4, p5, p6])
        iterate 2 (refine lsA ?_; try simp only [Act.put, p1, p2, p3, p4, p5, p6])
        iterate 9 (refine lsU ?_; try simp only [Act.put, p1, p2, p3, p4, p5, p6])
        iterate 2 (refine lsA ?_; try simp only [Act.put, p1, p2, p3, p4, p5, p6])
        refine wL_nil ?_
        clear z223 z224 z225 z226 z227 z228 z229 z230 z231 z232 z233 z234 z235 z236 z237 z238 z239 z240
        go_wp2_with fail
        have he0 := HEB.out
        try simp only [decide_eq_true_eq, decide_eq_false_iff_not] at he0
        go_ret
        exact ⟨ret_b (by unfold sfOk; have := c137h.out; have := c195h.out; have := c196h.out; have := c197h.out; have := c198h.out; have := c199h.out; have := c241h.out; exact (decide_eq_false (by omega)).symm), by first | exact H222.out.below | exact H222.out.below'⟩
      ·
       have c199a : ((yn : Int) == (0)) = false := by simpa using c199
       have c199b : ((yn : Int) != (0)) = true := by simpa using c199
       have c199e : (yn == 0) = false := by simp; omega
       have c199f : (yn != 0) = true := by simp; omega
       have c199h := hid c199
       clear c199
       iterate 5 (refine lsA ?_; try simp only [Act.put, p1, p2, p3, p4, p5, p6])
       iterate 8 (refine lsU ?_; try simp only [Act.put, p1, p2, p3, p4, p5, p6])
       iterate 2 (refine lsA ?_; try simp only [Act.put, p1, p2, p3, p4, p5, p6])
       iterate 7 (refine lsU ?_; try simp only [Act.put, p1, p2, p3, p4, p5, p6])
       iterate 2 (refine lsA ?_; try simp only [Act.put, p1, p2, p3, p4, p5, p6])
       iterate 9 (refine lsU ?_; try simp only [Act.put, p1, p2, p3, p4, p5, p6])
       iterate 2 (refine lsA ?_; try simp only [Act.put, p1, p2, p3, p4, p5, p6])
       refine wL_nil ?_
       clear z177 z178 z179 z180 z181 z182 z183 z184 z185 z186 z187 z188 z189 z190 z191 z192 z193 z194
       go_wp2_with fail
       have he0 := HEB.out
       try simp only [decide_eq_true_eq, decide_eq_false_iff_not] at he0
       go_ret
       exact ⟨ret_b (by unfold sfOk; have := c137h.out; have := c195h.out; have := c196h.out; have := c197h.out; have := c198h.out; have := c199h.out; exact (decide_eq_false (by omega)).symm), by first | exact H176.out.below | exact H176.out.below'⟩
     ·
      have c198a : ((xn : Int) == (0)) = false := by simpa using c198
      have c198b : ((xn : Int) != (0)) = true := by simpa using c198
      have c198e : (xn == 0) = false := by simp; omega
      have c198f : (xn != 0) = true := by simp; omega
      have c198h := hid c198
      clear c198
      iterate 2 (refine lsA ?_; try simp only [Act.put, p1, p2, p3, p4, p5, p6])
      iterate 4 (refine lsU ?_; try simp only [Act.put, p1, p2, p3, p4, p5, p6])
      iterate 4 (refine lsA ?_; try simp only [Act.put, p1, p2, p3, p4, p5, p6])
      iterate 8 (refine lsU ?_; try simp only [Act.put, p1, p2, p3, p4, p5, p6])
      iterate 2 (refine lsA ?_; try simp only [Act.put, p1, p2, p3, p4, p5, p6])
      iterate 7 (refine lsU ?_; try simp only [Act.put, p1, p2, p3, p4, p5, p6])
      iterate 2 (refine lsA ?_; try simp only [Act.put, p1, p2, p3, p4, p5, p6])
      iterate 9 (refine lsU ?_; try simp only [Act.put, p1, p2, p3, p4, p5, p6])
      iterate 2 (refine lsA ?_; try simp only [Act.put, p1, p2, p3, p4, p5, p6])
      refine wL_nil ?_
      clear z177 z178 z179 z180 z181 z182 z183 z184 z185 z186 z187 z188 z189 z190 z191 z192 z193 z194
      go_wp2_with fail
      have he0 := HEB.out
      try simp only [decide_eq_true_eq, decide_eq_false_iff_not] at he0
      go_ret
      exact ⟨ret_b (by unfold sfOk; have := c137h.out; have := c195h.out; have := c196h.out; have := c197h.out; have := c198h.out; exact (decide_eq_false (by omega)).symm), by first | exact H176.out.below | exact H176.out.below'⟩
    ·
     have c197a : ((wn : Int) == (0)) = false := by simpa using c197
     have c197b : ((wn : Int) != (0)) = true := by simpa using c197
     have c197e : (wn == 0) = false := by simp; omega
     have c197f : (wn != 0) = true := by simp; omega
     have c197h := hid c197
     clear c197
     iterate 5 (refine lsA ?_; try simp only [Act.put, p1, p2, p3, p4, p5, p6])
     iterate 13 (refine lsU ?_; try simp only [Act.put, p1, p2, p3, p4, p5, p6])
     iterate 2 (refine lsA ?_; try simp only [Act.put, p1, p2, p3, p4, p5, p6])
     iterate 6 (refine lsU ?_; try simp only [Act.put, p1, p2, p3, p4, p5, p6])
     iterate 2 (refine lsA ?_; try simp only [Act.put, p1, p2, p3, p4, p5, p6])
     iterate 9 (refine lsU ?_; try simp only [Act.put, p1, p2, p3, p4, p5, p6])
     iterate 2 (refine lsA ?_; try simp only [Act.put, p1, p2, p3, p4, p5, p6])
     iterate 13 (refine lsU ?_; try simp only [Act.put, p1, p2, p3, p4, p5, p6])
     iterate 2 (refine lsA ?_; try simp only [Act.put, p1, p2, p3, p4, p5, p6])
     iterate 8 (refine lsU ?_; try simp only [Act.put, p1, p2, p3, p4, p5, p6])
     iterate 2 (refine lsA ?_; try simp only [Act.put, p1, p2, p3, p4, p5, p6])
     iterate 7 (refine lsU ?_; try simp only [Act.put, p1, p2, p3, p4, p5, p6])
     iterate 2 (refine lsA ?_; try simp only [Act.put, p1, p2, p3, p4, p5, p6])
     iterate 9 (refine lsU ?_; try simp only [Act.put, p1, p2, p3, p4, p5, p6])
     iterate 2 (refine lsA ?_; try simp only [Act.put, p1, p2, p3, p4, p5, p6])
     refine wL_nil ?_
     clear z177 z178 z179 z180 z181 z182 z183 z184 z185 z186 z187 z188 z189 z190 z191 z192 z193 z194
     go_wp2_with fail
     have he0 := HEB.out
     try simp only [decide_eq_true_eq, decide_eq_false_iff_not] at he0
     go_ret
     exact ⟨ret_b (by unfold sfOk; have := c137h.out; have := c195h.out; have := c196h.out; have := c197h.out; exact (decide_eq_false (by omega)).symm), by first | exact H176.out.below | exact H176.out.below'⟩
   ·
    have c196a : ((kh : Int) == (0)) = false := by simpa using c196
    have c196b : ((kh : Int) != (0)) = true := by simpa using c196
    have c196h := hid c196
    clear c196
    iterate 3 (refine lsA ?_; try simp only [Act.put, p1, p2, p3, p4, p5, p6])
    iterate 4 (refine lsU ?_; try simp only [Act.put, p1, p2, p3, p4, p5, p6])
    iterate 4 (refine lsA ?_; try simp only [Act.put, p1, p2, p3, p4, p5, p6])
    iterate 13 (refine lsU ?_; try simp only [Act.put, p1, p2, p3, p4, p5, p6])
    iterate 2 (refine lsA ?_; try simp only [Act.put, p1, p2, p3, p4, p5, p6])
    iterate 6 (refine lsU ?_; try simp only [Act.put, p1, p2, p3, p4, p5, p6])
    iterate 2 (refine lsA ?_; try simp only [Act.put, p1, p2, p3, p4, p5, p6])
    iterate 9 (refine lsU ?_; try simp only [Act.put, p1, p2, p3, p4, p5, p6])
    iterate 2 (refine lsA ?_; try simp only [Act.put, p1, p2, p3, p4, p5, p6])
    iterate 13 (refine lsU ?_; try simp only [Act.put, p1, p2, p3, p4, p5, p6])
    iterate 2 (refine lsA ?_; try simp only [Act.put, p1, p2, p3, p4, p5, p6])
    iterate 8 (refine lsU ?_; try simp only [Act.put, p1, p2, p3, p4, p5, p6])
    iterate 2 (refine lsA ?_; try simp only [Act.put, p1, p2, p3, p4, p5, p6])
    iterate 7 (refine lsU ?_; try simp only [Act.put, p1, p2, p3, p4, p5, p6])
    iterate 2 (refine lsA ?_; try simp only [Act.put, p1, p2, p3, p4, p5, p6])
    iterate 9 (refine lsU ?_; try simp only [Act.put, p1, p2, p3, p4, p5, p6])
    iterate 2 (refine lsA ?_; try simp only [Act.put, p1, p2, p3, p4, p5, p6])
    refine wL_nil ?_
    clear z177 z178 z179 z180 z181 z182 z183 z184 z185 z186 z187 z188 z189 z190 z191 z192 z193 z194
    go_wp2_with fail
    have he0 := HEB.out
    try simp only [decide_eq_true_eq, decide_eq_false_iff_not] at he0
    go_ret
    exact ⟨ret_b (by unfold sfOk; have := c137h.out; have := c195h.out; have := c196h.out; exact (decide_eq_false (by omega)).symm), by first | exact H176.out.below | exact H176.out.below'⟩
  ·
   have c195a : ((kw : Int) == (0)) = false := by simpa using c195
   have c195b : ((kw : Int) != (0)) = true := by simpa using c195
   have c195h := hid c195
   clear c195
   iterate 2 (refine lsA ?_; try simp only [Act.put, p1, p2, p3, p4, p5, p6])
   iterate 3 (refine lsU ?_; try simp only [Act.put, p1, p2, p3, p4, p5, p6])
   iterate 2 (refine lsA ?_; try simp only [Act.put, p1, p2, p3, p4, p5, p6])
   iterate 4 (refine lsU ?_; try simp only [Act.put, p1, p2, p3, p4, p5, p6])
   iterate 4 (refine lsA ?_; try simp only [Act.put, p1, p2, p3, p4, p5, p6])
   iterate 13 (refine lsU ?_; try simp only [Act.put, p1, p2, p3, p4, p5, p6])
   iterate 2 (refine lsA ?_; try simp only [Act.put, p1, p2, p3, p4, p5, p6])
   iterate 6 (refine lsU ?_; try simp only [Act.put, p1, p2, p3, p4, p5, p6])
   iterate 2 (refine lsA ?_; try simp only [Act.put, p1, p2, p3, p4, p5, p6])
   iterate 9 (refine lsU ?_; try simp only [Act.put, p1, p2, p3, p4, p5, p6])
   iterate 2 (refine lsA ?_; try simp only [Act.put, p1, p2, p3, p4, p5, p6])
   iterate 13 (refine lsU ?_; try simp only [Act.put, p1, p2, p3, p4, p5, p6])
   iterate 2 (refine lsA ?_; try simp only [Act.put, p1, p2, p3, p4, p5, p6])
   iterate 8 (refine lsU ?_; try simp only [Act.put, p1, p2, p3, p4, p5, p6])
   iterate 2 (refine lsA ?_; try simp only [Act.put, p1, p2, p3, p4, p5, p6])
   iterate 7 (refine lsU ?_; try simp only [Act.put, p1, p2, p3, p4, p5, p6])
   iterate 2 (refine lsA ?_; try simp only [Act.put, p1, p2, p3, p4, p5, p6])
   iterate 9 (refine lsU ?_; try simp only [Act.put, p1, p2, p3, p4, p5, p6])
   iterate 2 (refine lsA ?_; try simp only [Act.put, p1, p2, p3, p4, p5, p6])
   refine wL_nil ?_
   clear z177 z178 z179 z180 z181 z182 z183 z184 z185 z186 z187 z188 z189 z190 z191 z192 z193 z194
   go_wp2_with fail
   have he0 := HEB.out
   try simp only [decide_eq_true_eq, decide_eq_false_iff_not] at he0
   go_ret
   exact ⟨ret_b (by unfold sfOk; have := c137h.out; have := c195h.out; exact (decide_eq_false (by omega)).symm), by first | exact H176.out.below | exact H176.out.below'⟩
 ·
  have c137a : ((sb : Int) == ((-1))) = false := by simpa using c137
  have c137b : ((sb : Int) != ((-1))) = true := by simpa using c137
  have c137h := hid c137
  clear c137
  obtain ⟨z243, z244, z245, z246, z247, z248, z249, z250, z251, z252, z253, z254, z255, z256, z257, z258, z259, z260⟩ := cs18 H135.out 0 rfl
  go_wp2_with fail
  clear z243 z244 z245 z246 z247 z248 z249 z250 z251 z252 z253 z254 z255 z256 z257 z258 z259 z260
  have he0 := HEB.out
  try simp only [decide_eq_true_eq, decide_eq_false_iff_not] at he0
  go_ret
  exact ⟨ret_b (by unfold sfOk; have := c137h.out; exact (decide_eq_false (by omega)).symm), by first | exact H135.out.below | exact H135.out.below'⟩
end Go.Proofs.Yteejjnhlfgjlaaa
