/-
 The law's stages and shapes: bins and small. The example of the chapter on shapes.
-/
import Derived.Test.YteejjnhlfgjlaaaGreatSg
import Derived.Test.YteejjnhlfgjlaaaGreatKE
import Derived.Test.YteejjnhlfgjlaaaGreatKH
import Derived.Test.YteejjnhlfgjlaaaGreatShp3
import Derived.Test.YteejjnhlfgjlaaaGreatEA
namespace Go.Proofs.YteejjnhlfgjlaaaGreat
section
open Go.RowKit
attribute [local go_sem ↓] Go.wp_at_zero Go.wp_at_succ
set_option linter.unusedVariables false
set_option linter.unusedSimpArgs false

set_option maxRecDepth 100000 in
set_option maxHeartbeats 1600000 in
theorem bins_any15 (n : Int) (W : World) : Calls Tryz.prog 32 #[.int .i64 n] W fun e w' => ∃ A : Array Value, e = .returned (.agg A) ∧ A = #[.int .i64 4, .int .i64 0, .int .i64 (-1), .bool false, .int .i64 0, .int .i64 0, .int .i64 0, .int .i64 0, .slice none 0 0, .slice none 0 0, .slice none 0 0, .int .i64 0, .int .i64 0, .slice none 0 0, .slice none 0 0, .int .i64 n, .slice none 0 0, .int .i64 0] ∧ Below W.heap.size W w' := by
 obtain ⟨B, hB⟩ : ∃ B, W.heap.size = B := ⟨_, rfl⟩; have HI0 := kq (St.init hB)
 go_enter Tryz.func32, Tryz.ntmps32
 go_upto_region 1 with fail
 have H1 := kq (HI0.o.alloc #[.int .i64 0, .int .i64 0, .int .i64 0, .bool false, .int .i64 0, .int .i64 0, .int .i64 0, .int .i64 0, .slice none 0 0, .slice none 0 0, .slice none 0 0, .int .i64 0, .int .i64 0, .slice none 0 0, .slice none 0 0, .int .i64 0, .slice none 0 0, .int .i64 0] 34 hB); first | refine gK H1 ?_ | refine gL H1 ?_ | refine gC H1 ?_
 clear H1; intro w2 H1; have z3 := cs18 H1.o 0 rfl
 go_wp2_with (refine storeArm (H1.o.rowAt 0 rfl) (cs' := #[.int .i64 4, .int .i64 0, .int .i64 (-1), .bool false, .int .i64 0, .int .i64 0, .int .i64 0, .int .i64 0, .slice none 0 0, .slice none 0 0, .slice none 0 0, .int .i64 0, .int .i64 0, .slice none 0 0, .slice none 0 0, .int .i64 n, .slice none 0 0, .int .i64 0]) (by first | rfl | kernel_rfl) (by first | rfl | kernel_rfl) (by first | rfl | kernel_rfl) (by rfl) (by rfl) (by rfl) ?_)
 clear z3; have H2 := kq (show St _ _ (.cells B #[.int .i64 4, .int .i64 0, .int .i64 (-1), .bool false, .int .i64 0, .int .i64 0, .int .i64 0, .int .i64 0, .slice none 0 0, .slice none 0 0, .slice none 0 0, .int .i64 0, .int .i64 0, .slice none 0 0, .slice none 0 0, .int .i64 n, .slice none 0 0, .int .i64 0] 34 :: _) _ _ from (H1.o.setRow 0 rfl #[.int .i64 4, .int .i64 0, .int .i64 (-1), .bool false, .int .i64 0, .int .i64 0, .int .i64 0, .int .i64 0, .slice none 0 0, .slice none 0 0, .slice none 0 0, .int .i64 0, .int .i64 0, .slice none 0 0, .slice none 0 0, .int .i64 n, .slice none 0 0, .int .i64 0])); refine bodyPost_ret (v := .agg #[.int .i64 4, .int .i64 0, .int .i64 (-1), .bool false, .int .i64 0, .int .i64 0, .int .i64 0, .int .i64 0, .slice none 0 0, .slice none 0 0, .slice none 0 0, .int .i64 0, .int .i64 0, .slice none 0 0, .slice none 0 0, .int .i64 n, .slice none 0 0, .int .i64 0]) ?_ rfl ⟨_, rfl, rfl, H2.o.bl⟩; exact results_cell_row rfl _ _ B 34 _ (0, 0) _ (by rfl) (H2.o.rowAt 0 rfl) Tryz.underlying34 rfl (by have hz : (Tryz.prog.info? 34).map (·.size) = some 18 := (by kernel_rfl); exact hz)
end

section
open Go.RowKit
attribute [local go_sem ↓] Go.wp_at_zero Go.wp_at_succ shape_eq shape_ne
set_option linter.unusedVariables false
set_option linter.unusedSimpArgs false

set_option maxRecDepth 100000 in
set_option maxHeartbeats 1600000 in
theorem sane15 (W : World) : Calls Tryz.prog 13 #[] W fun e w' => e = .returned (.bool true) ∧ Below W.heap.size W w' := by
 obtain ⟨B, hB⟩ : ∃ B, W.heap.size = B := ⟨_, rfl⟩; have HI0 := kq (St.init hB)
 go_enter Tryz.func13, Tryz.ntmps13
 go_wp2_with fail
 refine (bins_any15 _ _).mono ?_; rintro e w2 ⟨A1, rfl, hA9, hb⟩; have H3 := kq (HI0.o.call hb); clear hb; have HA1 := kq hA9; clear hA9; go_wp2_with fail
 refine (of_any HA1.o [] [] [] [] [] [] 3 2 255 0 0 0 _ (Slc.nil _) (Slc.nil _) (Slc.nil _) (Tps.nil _) (Tps.nil _) (Prs.nil _)).mono ?_; rintro e w4 ⟨rfl, hb⟩; have H5 := kq (H3.o.call hb); clear hb; simp only [show shCode (sfOk 4 (-1) 0 0 0 0 0 0 0 0 0 0 0 4 0 0) 4 (-1) 0 0 0 0 [] [] [] 0 0 [] [] 4 [] 0 3 2 255 0 0 0 = 0 from by decide +kernel, show shIf 0 (shW 4 0 4 3) = 4 from by decide, show shIf 0 (shH 4 0 2) = 1 from by decide, show shIf 0 (shM 4 0 3 2 255) = 6 from by decide]; obtain ⟨D6, hD6⟩ := nK w4.heap.size; go_upto_region 2 with fail
 have H7 := kq (H5.o.alloc #[.int .i64 4, .int .i64 1, .int .i64 6] 37 hD6); first | refine gK H7 ?_ | refine gL H7 ?_ | refine gC H7 ?_
 clear H7; intro w8 H7; clear hD6; go_wp2_with fail
 refine (sources_any rfl _).mono ?_; rintro e w9 ⟨v1, rfl, ho, hb⟩; rw [show shSrc 6 2 5 = [2, 5] from by decide] at ho; have H1 := kq (H7.o.grow hb ho); obtain ⟨g1, c1, hva⟩ := ho.pos (by decide); have hvb : v1 = .slice (some ⟨g1, 0, none⟩) 2 c1 := hva; subst hvb; clear ho hb hva; have z1 := H1.o.c3 1 rfl; go_wp2_with fail
 clear z1; refine (bins_any15 _ _).mono ?_; rintro e w1 ⟨A2, rfl, hA9, hb⟩; have H2 := kq (H1.o.call hb); clear hb; have HA2 := kq hA9; clear hA9; go_wp2_with fail
 refine (sfields_A HA2.o _).mono ?_; rintro e w1 ⟨rfl, hb⟩; have H1 := kq (H2.o.call hb); clear hb; rw [show sfOk 4 (-1) 0 0 0 0 0 0 0 0 0 0 0 4 0 0 = true from by decide]; have z1 := H1.o.c3 1 rfl; go_wp2_with fail
 clear z1; refine (shvalid_any 4 1 6 _).mono ?_; rintro e w1 ⟨rfl, hb⟩; have H2 := kq (H1.o.call hb); clear hb; rw [show pOk 4 1 6 = true from by decide]; have cz := (H2.o.get 0 rfl (j := 1) (by decide)).1; simp only [List.getD_cons_succ, List.getD_cons_zero] at cz; go_wp2_with fail
 go_ret
 exact ⟨rfl, H2.o.bl⟩
end
end Go.Proofs.YteejjnhlfgjlaaaGreat
