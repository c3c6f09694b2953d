/-
  Contract: the examples of the chapter on tables.
-/
import Derived.Test.YtgpblcddebhphaaDoorTab4
import Derived.Test.YtgpblcddebhphaaDoorTab5
import Derived.Test.YtgpblcddebhphaaDoorTab6
import Derived.Test.YtgpblcddebhphaaDoorTaps2
namespace Go.Proofs.YtgpblcddebhphaaDoor
open Go.RowKit
attribute [local go_sem ↓] Go.wp_at_zero Go.wp_at_succ
set_option linter.unusedVariables false
set_option linter.unusedSimpArgs false

theorem one_u : U64s [4607182418800017408] := fun j => by
  rcases j with _ | j
  · decide
  · simp
theorem ones_u (i : Nat) : U64s (([[4607182418800017408]] : List (List Int)).getD i []) := by
  rcases i with _ | i
  · exact one_u
  · simp; exact u64s_nil
set_option maxRecDepth 100000 in
set_option maxHeartbeats 6400000 in
theorem sane8 (W : World) (hT : Tab W) : Calls Tryd.prog 15 #[] W fun e w' => e = .returned (.bool true) ∧ Below W.heap.size W w' := by
  obtain ⟨B, hB⟩ : ∃ B, W.heap.size = B := ⟨_, rfl⟩
  have HI0 := hid (St.init hB)
  have HT := hid hT
  have HB0 := hid (show 0 < B from by rw [← hB]; exact hT.pos)
  clear hT
  go_enter Tryd.func15, Tryd.ntmps15
  go_wp2_with fail
  refine (box_any 5 2 8 _).mono ?_
  rintro e w1 ⟨v3, rfl, ho, hb⟩
  rw [show bxCode 5 2 8 = 0 from by decide +kernel]
  rw [show bxT 5 2 8 = [(0, [103, 102, 51]), (2, [51, 103, 102])] from by decide +kernel] at ho
  obtain ⟨tp4, R5, ta8, tc9, rfl, htd, htq, hmo, hst⟩ := HI0.out.addT' hb ho
  have hln : ([(0, [103, 102, 51]), (2, [51, 103, 102])] : Tbl).length = 2 := rfl
  rw [hln] at hst ⊢
  clear hln
  have HQ6 := hid htq
  have HD7 := hid htd
  have H2 := hid hst
  clear htq htd hmo hst ho hb
  go_wp2_with fail
  refine (linear_any 2 4 8 _).mono ?_
  rintro e w10 ⟨v12, rfl, ho, hb⟩
  rw [show tgCode 2 4 8 = 0 from by decide +kernel]
  rw [show lnT 2 4 8 = [(-1, [64, 192]), (0, [192, 64]), (0, [64, 192]), (1, [192, 64])] from by decide +kernel] at ho
  obtain ⟨tp13, R14, ta17, tc18, rfl, htd, htq, hmo, hst⟩ := H2.out.addT' hb ho
  have hln : ([(-1, [64, 192]), (0, [192, 64]), (0, [64, 192]), (1, [192, 64])] : Tbl).length = 4 := rfl
  rw [hln] at hst ⊢
  clear hln
  have HQ15 := hid htq
  have HD16 := hid htd
  have HQ19 := hid (hmo _ HQ6.out)
  have H11 := hid hst
  clear htq htd hmo hst ho hb
  obtain ⟨D20, hD20⟩ : ∃ D, w10.heap.size = D := ⟨_, rfl⟩
  go_wp2_with fail
  have H21 := hid (show St B W [.cells (D20 + 1 + 1) #[.slice (some ⟨D20 + 1, 0, none⟩) 1 1] 42, .cells (D20 + 1) #[.int .u64 4607182418800017408] 52, .cells D20 #[.int .i64 3] 3, .arr (31) 2 (.slice ta17 4 tc18) 4 (tapV tp13), .arr (31) 2 (.slice ta8 2 tc9) 2 (tapV tp4)] R14 (((w10.alloc (.cells #[.int .i64 3] 3)).alloc (.cells #[.int .u64 4607182418800017408] 52)).alloc (.cells #[.slice (some ⟨D20 + 1, 0, none⟩) 1 1] 42)) from (((H11.out.alloc #[.int .i64 3] 3 hD20).alloc #[.int .u64 4607182418800017408] 52 (by first | exact hD20 | simp [hD20])).alloc #[.slice (some ⟨D20 + 1, 0, none⟩) 1 1] 42 (by first | exact hD20 | simp [hD20])))
  first | refine gen_code H21.out ?_ | refine gen_list H21.out ?_ | refine gen_calls H21.out ?_
  intro w22 hG
  clear H21
  have H21 := hid hG
  clear hG
  clear hD20
  have hmr : ∀ i, i < 1 → ∃ ai ni ci, w22.cell? ⟨D20 + 1 + 1, 0 + i, none⟩ = some (.slice ai ni ci) ∧ Slu w22 ai ni ci (([[4607182418800017408]] : List (List Int)).getD i []) := by
    intro i hi
    obtain rfl : i = 0 := by omega
    exact ⟨_, _, _, H21.out.cell 0 rfl 0 rfl, H21.out.litU 1 [4607182418800017408] rfl (by decide)⟩
  have hmu : MatU w22 (some ⟨D20 + 1 + 1, 0, none⟩) 1 1 [[4607182418800017408]] := ⟨rfl, Nat.le_refl _, by omega, ones_u, .inr ⟨_, 0, rfl, hmr⟩⟩
  refine (tquant_any _ _ _ [3] _ _ _ [[4607182418800017408]] 4 _ (H21.out.lit 2 [3] rfl (by decide)) hmu (HT.out.below (by first | exact H21.out.below' | exact H21.out.below) HB0.out)).mono ?_
  rintro e w23 ⟨v25, rfl, ho, hb⟩
  rw [show qtCode [3] [[4607182418800017408]] 4 = 0 from by decide +kernel]
  rw [show qtT [3] [[4607182418800017408]] 4 = [(3, [16])] from by decide +kernel] at ho
  obtain ⟨tp26, R27, ta30, tc31, rfl, htd, htq, hmo, hst⟩ := H21.out.addT' hb ho
  have hln : ([(3, [16])] : Tbl).length = 1 := rfl
  rw [hln] at hst ⊢
  clear hln
  have HQ28 := hid htq
  have HD29 := hid htd
  have HQ32 := hid (hmo _ HQ19.out)
  have HQ33 := hid (hmo _ HQ15.out)
  have H24 := hid hst
  clear htq htd hmo hst ho hb
  go_upto_region 4 with fail
  obtain ⟨g34, gc35, hga⟩ := arr_posT (H24.out.arrOfT 5 rfl) (by first | decide | omega)
  injection hga with hg1 hg2 hg3
  subst hg1
  clear hg2 hg3
  obtain ⟨g36, gc37, hga⟩ := arr_posT (H24.out.arrOfT 4 rfl) (by first | decide | omega)
  injection hga with hg1 hg2 hg3
  subst hg1
  clear hg2 hg3
  obtain ⟨g38, gc39, hga⟩ := arr_posT (H24.out.arrOfT 0 rfl) (by first | decide | omega)
  injection hga with hg1 hg2 hg3
  subst hg1
  clear hg2 hg3
  obtain ⟨ara, arn, arc, a1, a2, a3⟩ := H24.out.tapAt 5 rfl HQ32.out HD7.out (j := 0) (by decide)
  replace a1 : w23.cell? ⟨g34, 0, none⟩ = some (Value.int .i64 0) := a1
  replace a2 : w23.cell? ⟨g34, 1, none⟩ = some (.slice ara arn arc) := a2
  replace a3 : Slc _ ara arn arc [103, 102, 51] := a3
  obtain rfl : 3 = arn := a3.len
  obtain ⟨ab, ao, ah⟩ := row_at a3.row (by decide)
  subst ah
  have ac0 := row_cell a3.row (j := 0) (by decide)
  replace ac0 : w23.cell? ⟨ab, ao, none⟩ = some (Value.int .i64 103) := ac0
  have ac2 := row_cell a3.row (j := 2) (by decide)
  replace ac2 : w23.cell? ⟨ab, ao + 2, none⟩ = some (Value.int .i64 51) := ac2
  have aH := hid a3
  clear a3
  obtain ⟨bra, brn, brc, b1, b2, b3⟩ := H24.out.tapAt 4 rfl HQ33.out HD16.out (j := 1) (by decide)
  replace b1 : w23.cell? ⟨g36, 2, none⟩ = some (Value.int .i64 0) := b1
  replace b2 : w23.cell? ⟨g36, 3, none⟩ = some (.slice bra brn brc) := b2
  replace b3 : Slc _ bra brn brc [192, 64] := b3
  obtain rfl : 2 = brn := b3.len
  obtain ⟨bb, bo, bh⟩ := row_at b3.row (by decide)
  subst bh
  have bc0 := row_cell b3.row (j := 0) (by decide)
  replace bc0 : w23.cell? ⟨bb, bo, none⟩ = some (Value.int .i64 192) := bc0
  have bH := hid b3
  clear b3
  obtain ⟨dra, drn, drc, d1, d2, d3⟩ := H24.out.tapAt 0 rfl HQ28.out HD29.out (j := 0) (by decide)
  replace d1 : w23.cell? ⟨g38, 0, none⟩ = some (Value.int .i64 3) := d1
  replace d2 : w23.cell? ⟨g38, 1, none⟩ = some (.slice dra drn drc) := d2
  replace d3 : Slc _ dra drn drc [16] := d3
  obtain rfl : 1 = drn := d3.len
  obtain ⟨db, dq, dh⟩ := row_at d3.row (by decide)
  subst dh
  have dc0 := row_cell d3.row (j := 0) (by decide)
  replace dc0 : w23.cell? ⟨db, dq, none⟩ = some (Value.int .i64 16) := dc0
  have dH := hid d3
  clear d3
  go_wp2_with fail
  refine (tvalid_any _ _ _ [(0, [103, 102, 51]), (2, [51, 103, 102])] 5 _ ((by have ht := H24.out.taps 5 rfl HQ32.out; rw [HD7.out] at ht; exact ht))).mono ?_
  rintro e w40 ⟨rfl, hb⟩
  have H41 := hid (H24.out.call hb)
  clear hb
  rw [show tvCode [(0, [103, 102, 51]), (2, [51, 103, 102])] 5 = 0 from by decide +kernel]
  go_wp2_with fail
  go_ret
  exact ⟨rfl, by first | exact H41.out.below | exact H41.out.below'⟩
end Go.Proofs.YtgpblcddebhphaaDoor
