/-
 The stages of the examples, and the examples of the chapter.
-/
import Derived.Test.YtlidacfokgdlgaaStTi
import Derived.Test.YtlidacfokgdlgaaKH
namespace Go.Proofs.Ytlidacfokgdlgaa
open Go.RowKit
attribute [local go_sem ↓] Go.wp_at_zero Go.wp_at_succ
set_option linter.unusedVariables false
set_option linter.unusedSimpArgs false


set_option maxRecDepth 100000 in
set_option maxHeartbeats 1600000 in
theorem wide_any (p : Int) (W : World) : Calls Try.prog 24 #[.int .i64 p] W fun e w' => ∃ (A : Array Value) (a : Option Addr), e = .returned (.agg A) ∧ A = #[.int .i64 1, .int .i64 0, .int .i64 (-1), .bool false, .int .i64 p, .int .i64 0, .int .i64 3, .int .i64 1, .slice a 3 3, .slice none 0 0, .slice none 0 0, .int .i64 0, .int .i64 0, .slice none 0 0, .slice none 0 0, .int .i64 0, .slice none 0 0, .int .i64 9] ∧ Below W.heap.size W w' := by
 obtain ⟨B, hB⟩ : ∃ B, W.heap.size = B := ⟨_, rfl⟩
 have HI0 := hid (St.init hB)
 go_enter Try.func24, Try.ntmps24
 go_upto_region 1 with fail
 have H1 := hid (show St B W [.cells B #[.int .i64 0, .int .i64 0, .int .i64 0, .bool false, .int .i64 0, .int .i64 0, .int .i64 0, .int .i64 0, .slice none 0 0, .slice none 0 0, .slice none 0 0, .int .i64 0, .int .i64 0, .slice none 0 0, .slice none 0 0, .int .i64 0, .slice none 0 0, .int .i64 0] 33] [] (W.alloc (.cells #[.int .i64 0, .int .i64 0, .int .i64 0, .bool false, .int .i64 0, .int .i64 0, .int .i64 0, .int .i64 0, .slice none 0 0, .slice none 0 0, .slice none 0 0, .int .i64 0, .int .i64 0, .slice none 0 0, .slice none 0 0, .int .i64 0, .slice none 0 0, .int .i64 0] 33)) from (HI0.out.alloc #[.int .i64 0, .int .i64 0, .int .i64 0, .bool false, .int .i64 0, .int .i64 0, .int .i64 0, .int .i64 0, .slice none 0 0, .slice none 0 0, .slice none 0 0, .int .i64 0, .int .i64 0, .slice none 0 0, .slice none 0 0, .int .i64 0, .slice none 0 0, .int .i64 0] 33 hB))
 first | refine gen_code H1.out ?_ | refine gen_list H1.out ?_ | refine gen_calls H1.out ?_
 intro w2 hG
 clear H1
 have H1 := hid hG
 clear hG
 obtain ⟨D3, hD3⟩ : ∃ D, w2.heap.size = D := ⟨_, rfl⟩
 obtain ⟨z4, z5, z6, z7, z8, z9, z10, z11, z12, z13, z14, z15, z16, z17, z18, z19, z20, z21⟩ := cs18 H1.out 0 rfl
 have H22 := hid (show St B W [.cells D3 #[.int .i64 1, .int .i64 2, .int .i64 1] 3, .cells B #[.int .i64 0, .int .i64 0, .int .i64 0, .bool false, .int .i64 0, .int .i64 0, .int .i64 0, .int .i64 0, .slice none 0 0, .slice none 0 0, .slice none 0 0, .int .i64 0, .int .i64 0, .slice none 0 0, .slice none 0 0, .int .i64 0, .slice none 0 0, .int .i64 0] 33] [] (w2.alloc (.cells #[.int .i64 1, .int .i64 2, .int .i64 1] 3)) from (H1.out.alloc #[.int .i64 1, .int .i64 2, .int .i64 1] 3 hD3))
 go_wp2_with (refine storeArm (H22.out.rowAt 1 rfl) (cs' := #[.int .i64 1, .int .i64 0, .int .i64 (-1), .bool false, .int .i64 p, .int .i64 0, .int .i64 3, .int .i64 1, .slice (some ⟨D3, 0, none⟩) 3 3, .slice none 0 0, .slice none 0 0, .int .i64 0, .int .i64 0, .slice none 0 0, .slice none 0 0, .int .i64 0, .slice none 0 0, .int .i64 9]) (by first | rfl | kernel_rfl) (by first | rfl | kernel_rfl) (by first | rfl | kernel_rfl) (by rfl) (by rfl) (by rfl) ?_)
 clear z4 z5 z6 z7 z8 z9 z10 z11 z12 z13 z14 z15 z16 z17 z18 z19 z20 z21 H22
 have H23 := hid (show St B W [.cells D3 #[.int .i64 1, .int .i64 2, .int .i64 1] 3, .cells B #[.int .i64 1, .int .i64 0, .int .i64 (-1), .bool false, .int .i64 p, .int .i64 0, .int .i64 3, .int .i64 1, .slice (some ⟨D3, 0, none⟩) 3 3, .slice none 0 0, .slice none 0 0, .int .i64 0, .int .i64 0, .slice none 0 0, .slice none 0 0, .int .i64 0, .slice none 0 0, .int .i64 9] 33] [] ((w2.alloc (.cells #[.int .i64 1, .int .i64 2, .int .i64 1] 3)).setRow B #[.int .i64 1, .int .i64 0, .int .i64 (-1), .bool false, .int .i64 p, .int .i64 0, .int .i64 3, .int .i64 1, .slice (some ⟨D3, 0, none⟩) 3 3, .slice none 0 0, .slice none 0 0, .int .i64 0, .int .i64 0, .slice none 0 0, .slice none 0 0, .int .i64 0, .slice none 0 0, .int .i64 9]) from ((H1.out.alloc #[.int .i64 1, .int .i64 2, .int .i64 1] 3 hD3).setRow 1 rfl #[.int .i64 1, .int .i64 0, .int .i64 (-1), .bool false, .int .i64 p, .int .i64 0, .int .i64 3, .int .i64 1, .slice (some ⟨D3, 0, none⟩) 3 3, .slice none 0 0, .slice none 0 0, .int .i64 0, .int .i64 0, .slice none 0 0, .slice none 0 0, .int .i64 0, .slice none 0 0, .int .i64 9]))
 clear hD3
 refine bodyPost_ret (v := .agg #[.int .i64 1, .int .i64 0, .int .i64 (-1), .bool false, .int .i64 p, .int .i64 0, .int .i64 3, .int .i64 1, .slice (some ⟨D3, 0, none⟩) 3 3, .slice none 0 0, .slice none 0 0, .int .i64 0, .int .i64 0, .slice none 0 0, .slice none 0 0, .int .i64 0, .slice none 0 0, .int .i64 9]) ?_ rfl ⟨_, _, rfl, rfl, by first | exact H23.out.below | exact H23.out.below'⟩
 exact results_cell_row rfl _ _ B 33 _ (0, 0) _ (by rfl) (H23.out.rowAt 1 rfl) Try.underlying33 rfl (by have hz : (Try.prog.info? 33).map (·.size) = some 18 := (by kernel_rfl); exact hz)

set_option maxRecDepth 100000 in
set_option maxHeartbeats 1600000 in
theorem sane16 (W : World) : Calls Try.prog 18 #[] W fun e w' => e = .returned (.bool true) ∧ Below W.heap.size W w' := by
 obtain ⟨B, hB⟩ : ∃ B, W.heap.size = B := ⟨_, rfl⟩
 have HI0 := hid (St.init hB)
 go_enter Try.func18, Try.ntmps18
 go_wp2_with fail
 refine (wide_any _ _).mono ?_
 rintro e w26 ⟨A25, wa24, rfl, hA9, hb⟩
 have H27 := hid (HI0.out.call hb)
 clear hb
 have HA25 := hid hA9
 clear hA9
 go_wp2_with fail
 refine (columns_A HA25.out [] [] _ _ _ _ (Tps.nil _) (Tps.nil _)).mono ?_
 rintro e w28 ⟨v29, rfl, ho, hb⟩
 rw [show stCol 1 (-1) 2 0 3 1 3 0 0 0 0 0 0 0 0 9 [] [] 8 0 1 = [0, 1, 7] from by decide +kernel] at ho
 have H30 := hid (H27.out.grow hb ho)
 obtain ⟨g31, c32, hva⟩ := ho.pos (by decide)
 have hvb : v29 = .slice (some ⟨g31, 0, none⟩) 3 c32 := hva
 subst hvb
 clear ho hb hva
 go_wp2_with fail
 refine (wide_any _ _).mono ?_
 rintro e w35 ⟨A34, wa33, rfl, hA9, hb⟩
 have H36 := hid (H30.out.call hb)
 clear hb
 have HA34 := hid hA9
 clear hA9
 go_wp2_with fail
 refine (columns_A HA34.out [] [] _ _ _ _ (Tps.nil _) (Tps.nil _)).mono ?_
 rintro e w37 ⟨v38, rfl, ho, hb⟩
 rw [show stCol 1 (-1) 3 0 3 1 3 0 0 0 0 0 0 0 0 9 [] [] 8 0 1 = [0, 1] from by decide +kernel] at ho
 have H39 := hid (H36.out.grow hb ho)
 obtain ⟨g40, c41, hva⟩ := ho.pos (by decide)
 have hvb : v38 = .slice (some ⟨g40, 0, none⟩) 2 c41 := hva
 subst hvb
 clear ho hb hva
 go_upto_region 2 with fail
 have cz00 := (H39.out.get 0 rfl (j := 0) (by decide)).1
 simp only [List.getD_cons_zero, List.getD_cons_succ] at cz00
 have cz01 := (H39.out.get 0 rfl (j := 1) (by decide)).1
 simp only [List.getD_cons_zero, List.getD_cons_succ] at cz01
 have cz10 := (H39.out.get 1 rfl (j := 0) (by decide)).1
 simp only [List.getD_cons_zero, List.getD_cons_succ] at cz10
 have cz11 := (H39.out.get 1 rfl (j := 1) (by decide)).1
 simp only [List.getD_cons_zero, List.getD_cons_succ] at cz11
 have cz12 := (H39.out.get 1 rfl (j := 2) (by decide)).1
 simp only [List.getD_cons_zero, List.getD_cons_succ] at cz12
 go_wp2_with fail
 refine (wide_any _ _).mono ?_
 rintro e w44 ⟨A43, wa42, rfl, hA9, hb⟩
 have H45 := hid (H39.out.call hb)
 clear hb
 have HA43 := hid hA9
 clear hA9
 go_wp2_with fail
 refine (rows_A HA43.out [] [] _ _ _ _ (Tps.nil _) (Tps.nil _)).mono ?_
 rintro e w46 ⟨v47, rfl, ho, hb⟩
 rw [show stRow 1 (-1) 0 0 3 1 3 0 0 0 0 0 0 0 0 9 [] [] 4 1 3 = [1, 2] from by decide +kernel] at ho
 have H48 := hid (H45.out.grow hb ho)
 obtain ⟨g49, c50, hva⟩ := ho.pos (by decide)
 have hvb : v47 = .slice (some ⟨g49, 0, none⟩) 2 c50 := hva
 subst hvb
 clear ho hb hva
 go_wp2_with fail
 refine (wide_any _ _).mono ?_
 rintro e w53 ⟨A52, wa51, rfl, hA9, hb⟩
 have H54 := hid (H48.out.call hb)
 clear hb
 have HA52 := hid hA9
 clear hA9
 go_wp2_with fail
 refine (ftiles_any HA52.out [] [] _ _ _ _ _ _ _ _ _ (Tps.nil _) (Tps.nil _)).mono ?_
 rintro e w55 ⟨v56, rfl, ho, hb⟩
 rw [show tlL (stCol 1 (-1) 0 0 3 1 3 0 0 0 0 0 0 0 0 9 [] [] 8 0 4) (stRow 1 (-1) 0 0 3 1 3 0 0 0 0 0 0 0 0 9 [] [] 4 0 4) 8 4 4 4 = [0, 1] from by decide +kernel] at ho
 have H57 := hid (H54.out.grow hb ho)
 obtain ⟨g58, c59, hva⟩ := ho.pos (by decide)
 have hvb : v56 = .slice (some ⟨g58, 0, none⟩) 2 c59 := hva
 subst hvb
 clear ho hb hva
 go_wp2_with fail
 go_ret
 exact ⟨rfl, by first | exact H57.out.below | exact H57.out.below'⟩
end Go.Proofs.Ytlidacfokgdlgaa
