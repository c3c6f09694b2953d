/-
 The example of the chapter on shapes.
-/
import Derived.Test.YteejjnhlfgjlaaaSh15
import Derived.Test.YteejjnhlfgjlaaaShp3
import Derived.Test.YteejjnhlfgjlaaaShEq
namespace Go.Proofs.Yteejjnhlfgjlaaa
open Go.RowKit
attribute [local go_sem ↓] Go.wp_at_zero Go.wp_at_succ shape_eq shape_ne
set_option linter.unusedVariables false
set_option linter.unusedSimpArgs false

set_option maxRecDepth 100000 in
set_option maxHeartbeats 1600000 in
theorem sane15 (W : World) : Calls Try.prog 18 #[] W fun e w' => e = .returned (.bool true) ∧ Below W.heap.size W w' := by
 obtain ⟨B, hB⟩ : ∃ B, W.heap.size = B := ⟨_, rfl⟩; have HI0 := hid (St.init hB)
 go_enter Try.func18, Try.ntmps18
 go_wp2_with fail
 refine (bins_any15 _ _).mono ?_; rintro e w2 ⟨A1, rfl, hA9, hb⟩; have H3 := hid (HI0.out.call hb); clear hb; have HA1 := hid hA9; clear hA9; go_wp2_with fail
 refine (of_any HA1.out [] [] [] [] [] [] 3 2 255 0 0 0 _ (Slc.nil _) (Slc.nil _) (Slc.nil _) (Tps.nil _) (Tps.nil _) (Prs.nil _)).mono ?_; rintro e w4 ⟨rfl, hb⟩; have H5 := hid (H3.out.call hb); clear hb; simp only [show shCode (sfOk 4 (-1) 0 0 0 0 0 0 0 0 0 0 0 4 0 0) 4 (-1) 0 0 0 0 [] [] [] 0 0 [] [] 4 [] 0 3 2 255 0 0 0 = 0 from by decide +kernel, show shIf 0 (shW 4 0 4 3) = 4 from by decide, show shIf 0 (shH 4 0 2) = 1 from by decide, show shIf 0 (shM 4 0 3 2 255) = 6 from by decide]; obtain ⟨D6, hD6⟩ : ∃ D, w4.heap.size = D := ⟨_, rfl⟩; go_upto_region 2 with fail
 have H7 := hid (H5.out.alloc #[.int .i64 4, .int .i64 1, .int .i64 6] 24 hD6); first | refine gK H7 ?_ | refine gL H7 ?_ | refine gC H7 ?_
 clear H7; intro w8 H7; clear hD6; go_wp2_with fail
 refine (sources_any rfl _).mono ?_; rintro e w9 ⟨v1, rfl, ho, hb⟩; rw [show shSrc 6 2 5 = [2, 5] from by decide] at ho; have H1 := hid (H7.out.grow hb ho); obtain ⟨g1, c1, hva⟩ := ho.pos (by decide); have hvb : v1 = .slice (some ⟨g1, 0, none⟩) 2 c1 := hva; subst hvb; clear ho hb hva; obtain ⟨z1, z2, z16⟩ := H1.out.c3 1 rfl; go_wp2_with fail
 clear z1 z2 z16; refine (bins_any15 _ _).mono ?_; rintro e w1 ⟨A2, rfl, hA9, hb⟩; have H2 := hid (H1.out.call hb); clear hb; have HA2 := hid hA9; clear hA9; go_wp2_with fail
 refine (sfields_A HA2.out _).mono ?_; rintro e w1 ⟨rfl, hb⟩; have H1 := hid (H2.out.call hb); clear hb; rw [show sfOk 4 (-1) 0 0 0 0 0 0 0 0 0 0 0 4 0 0 = true from by decide]; obtain ⟨z1, z2, z3⟩ := H1.out.c3 1 rfl; go_wp2_with fail
 clear z1 z2 z3; refine (shvalid_any 4 1 6 _).mono ?_; rintro e w1 ⟨rfl, hb⟩; have H2 := hid (H1.out.call hb); clear hb; rw [show pOk 4 1 6 = true from by decide]; have cz := (H2.out.get 0 rfl (j := 1) (by decide)).1; simp only [List.getD_cons_succ, List.getD_cons_zero] at cz; go_wp2_with fail
 go_ret
 exact ⟨rfl, H2.out.bl⟩
end Go.Proofs.Yteejjnhlfgjlaaa
