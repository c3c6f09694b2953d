/-
  Contracts: the interval of an operation, in the reference.
-/
import Derived.Test.YtnnpnljdefmmcaaPw4
namespace Go.Proofs.Ytnnpnljdefmmcaa
open Go.RowKit
attribute [local go_sem ↓] Go.wp_at_zero Go.wp_at_succ
set_option linter.unusedVariables false
set_option linter.unusedSimpArgs false


set_option maxRecDepth 100000 in
set_option maxHeartbeats 3200000 in
theorem rnext_any_0 (g xl xh yl yh a b : Int) (W : World) (hxl : accOk xl = true) (hxh : accOk xh = true) (hyl : accOk yl = true) (hyh : accOk yh = true) : Calls Try.prog 73 #[.agg #[.int .i64 0, .int .i64 g], .agg #[.int .i64 xl, .int .i64 xh], .agg #[.int .i64 yl, .int .i64 yh], .int .i64 a, .int .i64 b] W fun e w' => (∃ lo hi, e = .returned (.tuple #[.agg #[.int .i64 lo, .int .i64 hi], .bool (pwIok 0 g (xl, xh) (yl, yh) a b)]) ∧ (pwIok 0 g (xl, xh) (yl, yh) a b = true → lo = (pwInt 0 g (xl, xh) (yl, yh) a b).1 ∧ hi = (pwInt 0 g (xl, xh) (yl, yh) a b).2)) ∧ Below W.heap.size W w' := by
  obtain ⟨xl1, xl2⟩ := accOk_iff.1 hxl
  obtain ⟨xh1, xh2⟩ := accOk_iff.1 hxh
  obtain ⟨yl1, yl2⟩ := accOk_iff.1 hyl
  obtain ⟨yh1, yh2⟩ := accOk_iff.1 hyh
  obtain ⟨B, hB⟩ : ∃ B, W.heap.size = B := ⟨_, rfl⟩
  have HI0 := hid (St.init hB)
  go_enter Try.func73, Try.ntmps73
  go_upto_region 1 with fail
  have H790 := hid (show St B W [.cells (B + 1 + 1 + 1) #[.int .i64 0, .int .i64 0] 99, .cells (B + 1 + 1) #[.int .i64 yl, .int .i64 yh] 99, .cells (B + 1) #[.int .i64 xl, .int .i64 xh] 99, .cells B #[.int .i64 0, .int .i64 g] 60] [] ((((W.alloc (.cells #[.int .i64 0, .int .i64 g] 60)).alloc (.cells #[.int .i64 xl, .int .i64 xh] 99)).alloc (.cells #[.int .i64 yl, .int .i64 yh] 99)).alloc (.cells #[.int .i64 0, .int .i64 0] 99)) from ((((HI0.out.alloc #[.int .i64 0, .int .i64 g] 60 hB).alloc #[.int .i64 xl, .int .i64 xh] 99 (by first | exact hB | simp [hB])).alloc #[.int .i64 yl, .int .i64 yh] 99 (by first | exact hB | simp [hB])).alloc #[.int .i64 0, .int .i64 0] 99 (by first | exact hB | simp [hB])))
  first | refine gen_code H790.out ?_ | refine gen_list H790.out ?_ | refine gen_calls H790.out ?_
  intro w791 hG
  clear H790
  have H790 := hid hG
  clear hG
  obtain ⟨mg, hmg⟩ : ∃ zz : Int, (if absI xl < absI xh then absI xh else absI xl) = zz := ⟨_, rfl⟩
  have H792 := hid H790.out.drew
  refine wp_region_held_drew (S := (fun w' => w'.cell? ⟨B + 1, 0, none⟩ = some (.int .i64 xl) ∧ w'.cell? ⟨B + 1, 1, none⟩ = some (.int .i64 xh))) (by kernel_rfl) ⟨H792.out.cell 2 rfl 0 rfl, H792.out.cell 2 rfl 1 rfl⟩ (fun hHeld => ?_)
  generalize w791.drew = k793 at *
  refine tkA 0 ?_
  try simp only [Act.put, p1, p2, p3, p4, p5, p6]
  refine tkA 1 ?_
  try simp only [Act.put, p1, p2, p3, p4, p5, p6]
  refine tkA 3 ?_
  try simp only [Act.put, p1, p2, p3, p4, p5, p6]
  refine tkA 4 ?_
  try simp only [Act.put, p1, p2, p3, p4, p5, p6]
  refine wpAnyH_ready (rs := [2]) (by kernel_rfl) (by simp) (AllReadyH.cons (o := _) rfl (fun K hK => ?_) AllReadyH.nil)
  go_simp
  go_at_call 118
  refine (rabs_any _ (by omega) _).mono ?_
  rintro e w794 ⟨rfl, hsw⟩
  have hsw2 : k793 = w794 := by first | exact hsw | exact hsw.symm
  clear hsw
  subst hsw2
  refine hK.out _ _ ?_ (fun hHeld2 => ?_)
  focus ((try dsimp only); (exact ⟨H792.out.cell 2 rfl 0 rfl, H792.out.cell 2 rfl 1 rfl⟩))
  clear hK K
  try simp only [Act.put, p1, p2, p3, p4, p5, p6]
  clear hHeld
  have hHeld := hHeld2
  clear hHeld2
  refine wpAnyH_ready (rs := [5]) (by kernel_rfl) (by simp) (AllReadyH.cons (o := _) rfl (fun K hK => ?_) AllReadyH.nil)
  go_simp
  go_at_call 118
  refine (rabs_any _ (by omega) _).mono ?_
  rintro e w795 ⟨rfl, hsw⟩
  have hsw2 : k793 = w795 := by first | exact hsw | exact hsw.symm
  clear hsw
  subst hsw2
  refine hK.out _ _ ?_ (fun hHeld2 => ?_)
  focus ((try dsimp only); (exact ⟨H792.out.cell 2 rfl 0 rfl, H792.out.cell 2 rfl 1 rfl⟩))
  clear hK K
  try simp only [Act.put, p1, p2, p3, p4, p5, p6]
  clear hHeld
  have hHeld := hHeld2
  clear hHeld2
  refine tkA 6 ?_
  try simp only [Act.put, p1, p2, p3, p4, p5, p6]
  refine tkA 7 ?_
  try simp only [Act.put, p1, p2, p3, p4, p5, p6]
  refine wpAnyH_done (by kernel_rfl) ?_ _
  try clear hHeld
  have HMG := hid (show mxI (absI xl) (absI xh) = mg from hmg)
  clear hmg
  obtain ⟨mga, mgb⟩ : 0 ≤ mg ∧ mg ≤ 17592186044416 := by rw [← HMG.out]; exact mag_bd hxl hxh
  have mgw : IntKind.i64.wrap (-mg) = -mg := IntWalk.i64_in _ (by omega)
  obtain ⟨D796, hD796⟩ : ∃ D, k793.heap.size = D := ⟨_, rfl⟩
  go_upto_region 3 with fail
  have H797 := hid (show St B W [.cells D796 #[.int .i64 0, .int .i64 0] 99, .cells (B + 1 + 1 + 1) #[.int .i64 0, .int .i64 0] 99, .cells (B + 1 + 1) #[.int .i64 yl, .int .i64 yh] 99, .cells (B + 1) #[.int .i64 xl, .int .i64 xh] 99, .cells B #[.int .i64 0, .int .i64 g] 60] [] (k793.alloc (.cells #[.int .i64 0, .int .i64 0] 99)) from (H792.out.alloc #[.int .i64 0, .int .i64 0] 99 hD796))
  first | refine gen_code H797.out ?_ | refine gen_list H797.out ?_ | refine gen_calls H797.out ?_
  intro w798 hG
  clear H797
  have H797 := hid hG
  clear hG
  clear hD796
  have z799 := H797.out.cell 4 rfl 0 rfl
  have z800 := H797.out.cell 4 rfl 1 rfl
  have z801 := H797.out.cell 0 rfl 0 rfl
  have z802 := H797.out.free 0 rfl 0
  have z803 := H797.out.cell 0 rfl 1 rfl
  have z804 := H797.out.free 0 rfl 1
  go_upto_region 27 with fail
  clear z799 z800 z801 z802 z803 z804
  have H805 := hid (show St B W [.cells D796 #[.int .i64 0, .int .i64 a] 99, .cells (B + 1 + 1 + 1) #[.int .i64 0, .int .i64 0] 99, .cells (B + 1 + 1) #[.int .i64 yl, .int .i64 yh] 99, .cells (B + 1) #[.int .i64 xl, .int .i64 xh] 99, .cells B #[.int .i64 0, .int .i64 g] 60] [] ((w798.setCell ⟨D796, 0, none⟩ (.int .i64 0)).setCell ⟨D796, 1, none⟩ (.int .i64 a)) from ((H797.out.set 0 rfl 0 (.int .i64 0)).set 0 rfl 1 (.int .i64 a)))
  first | refine gen_code H805.out ?_ | refine gen_list H805.out ?_ | refine gen_calls H805.out ?_
  intro w806 hG
  clear H805
  have H805 := hid hG
  clear hG
  have H807 := hid H805.out.drew
  refine wp_region_held_drew (S := (fun w' => w'.cell? ⟨D796, 0, none⟩ = some (.int .i64 0) ∧ w'.cell? ⟨D796, 1, none⟩ = some (.int .i64 a))) (by kernel_rfl) ⟨H807.out.cell 0 rfl 0 rfl, H807.out.cell 0 rfl 1 rfl⟩ (fun hHeld => ?_)
  generalize w806.drew = k808 at *
  refine tkA 0 ?_
  try simp only [Act.put, p1, p2, p3, p4, p5, p6]
  refine tkA 1 ?_
  try simp only [Act.put, p1, p2, p3, p4, p5, p6]
  refine tkA 2 ?_
  try simp only [Act.put, p1, p2, p3, p4, p5, p6]
  refine tkA 3 ?_
  try simp only [Act.put, p1, p2, p3, p4, p5, p6]
  refine tkA 4 ?_
  try simp only [Act.put, p1, p2, p3, p4, p5, p6]
  refine wpAnyH_ready (rs := [5]) (by kernel_rfl) (by simp) (AllReadyH.cons (o := _) rfl (fun K hK => ?_) AllReadyH.nil)
  go_simp
  go_at_call 121
  refine (racc_any _ _).mono ?_
  rintro e w809 ⟨rfl, hsw⟩
  have hsw2 : k808 = w809 := by first | exact hsw | exact hsw.symm
  clear hsw
  subst hsw2
  obtain ⟨b810, hb810⟩ : ∃ xx', accOk 0 = xx' := ⟨_, rfl⟩
  rw [hb810]
  have HNb810 := hid hb810
  clear hb810
  refine hK.out _ _ ?_ (fun hHeld2 => ?_)
  focus ((try dsimp only); (exact ⟨H807.out.cell 0 rfl 0 rfl, H807.out.cell 0 rfl 1 rfl⟩))
  clear hK K
  try simp only [Act.put, p1, p2, p3, p4, p5, p6]
  clear hHeld
  have hHeld := hHeld2
  clear hHeld2
  cases b810
  · skip
    refine tkA 6 ?_
    try simp only [Act.put, p1, p2, p3, p4, p5, p6]
    refine tkA 7 ?_
    try simp only [Act.put, p1, p2, p3, p4, p5, p6]
    refine tkU 8 ?_
    try simp only [Act.put, p1, p2, p3, p4, p5, p6]
    refine tkU 9 ?_
    try simp only [Act.put, p1, p2, p3, p4, p5, p6]
    refine tkU 10 ?_
    try simp only [Act.put, p1, p2, p3, p4, p5, p6]
    refine tkA 11 ?_
    try simp only [Act.put, p1, p2, p3, p4, p5, p6]
    refine wpAnyH_ready (rs := [12]) (by kernel_rfl) (by simp) (AllReadyH.cons (o := _) rfl (fun K hK => ?_) AllReadyH.nil)
    have z811 := H807.out.cell 1 rfl 0 rfl
    have z812 := H807.out.free 1 rfl 0
    have z813 := H807.out.cell 1 rfl 1 rfl
    have z814 := H807.out.free 1 rfl 1
    have H815 := hid (show St B W [.cells D796 #[.int .i64 0, .int .i64 a] 99, .cells (B + 1 + 1 + 1) #[.int .i64 0, .int .i64 a] 99, .cells (B + 1 + 1) #[.int .i64 yl, .int .i64 yh] 99, .cells (B + 1) #[.int .i64 xl, .int .i64 xh] 99, .cells B #[.int .i64 0, .int .i64 g] 60] [] ((k808.setCell ⟨B + 1 + 1 + 1, 0, none⟩ (.int .i64 0)).setCell ⟨B + 1 + 1 + 1, 1, none⟩ (.int .i64 a)) from ((H807.out.set 1 rfl 0 (.int .i64 0)).set 1 rfl 1 (.int .i64 a)))
    go_simp
    refine hK.out _ _ ?_ (fun hHeld2 => ?_)
    focus ((try dsimp only); (exact ⟨H815.out.cell 0 rfl 0 rfl, H815.out.cell 0 rfl 1 rfl⟩))
    clear hK K hHeld
    try simp only [Act.put, p1, p2, p3, p4, p5, p6]
    clear z811 z812 z813 z814
    generalize ((k808.setCell ⟨B + 1 + 1 + 1, 0, none⟩ (.int .i64 0)).setCell ⟨B + 1 + 1 + 1, 1, none⟩ (.int .i64 a)) = k816 at *
    have hHeld := hHeld2
    clear hHeld2
    refine tkA 13 ?_
    try simp only [Act.put, p1, p2, p3, p4, p5, p6]
    refine wpAnyH_done (by kernel_rfl) ?_ _
    try clear hHeld
    have z817 := H815.out.cell 1 rfl 0 rfl
    have z818 := H815.out.cell 1 rfl 1 rfl
    go_wp2_with fail
    clear z817 z818
    have hpk := hid (show pwIok 0 g (xl, xh) (yl, yh) a b = false from by unfold pwIok; rw [(show (pwInt 0 g (xl, xh) (yl, yh) a b).1 = 0 from rfl), (show (pwInt 0 g (xl, xh) (yl, yh) a b).2 = a from rfl), HNb810.out]; rfl)
    have q819 := H815.out.cell 1 rfl 0 rfl
    have q820 := H815.out.cell 1 rfl 1 rfl
    refine bodyPost_ret (v := .tuple #[.agg #[.int .i64 0, .int .i64 a], .bool false]) ?_ rfl ⟨⟨_, _, by rw [hpk.out], fun _ => ⟨(show (pwInt 0 g (xl, xh) (yl, yh) a b).1 = 0 from rfl).symm, (show (pwInt 0 g (xl, xh) (yl, yh) a b).2 = a from rfl).symm⟩⟩, by first | exact H815.out.below | exact H815.out.below'⟩
    simp [results, Try.results73, go_sem, q819, q820]
  · skip
    refine tkA 6 ?_
    try simp only [Act.put, p1, p2, p3, p4, p5, p6]
    refine tkA 7 ?_
    try simp only [Act.put, p1, p2, p3, p4, p5, p6]
    refine tkA 8 ?_
    try simp only [Act.put, p1, p2, p3, p4, p5, p6]
    refine tkA 9 ?_
    try simp only [Act.put, p1, p2, p3, p4, p5, p6]
    refine wpAnyH_ready (rs := [10]) (by kernel_rfl) (by simp) (AllReadyH.cons (o := _) rfl (fun K hK => ?_) AllReadyH.nil)
    go_simp
    go_at_call 121
    refine (racc_any _ _).mono ?_
    rintro e w821 ⟨rfl, hsw⟩
    have hsw2 : k808 = w821 := by first | exact hsw | exact hsw.symm
    clear hsw
    subst hsw2
    obtain ⟨b822, hb822⟩ : ∃ xx', accOk a = xx' := ⟨_, rfl⟩
    rw [hb822]
    have HNb822 := hid hb822
    clear hb822
    refine hK.out _ _ ?_ (fun hHeld2 => ?_)
    focus ((try dsimp only); (exact ⟨H807.out.cell 0 rfl 0 rfl, H807.out.cell 0 rfl 1 rfl⟩))
    clear hK K
    try simp only [Act.put, p1, p2, p3, p4, p5, p6]
    clear hHeld
    have hHeld := hHeld2
    clear hHeld2
    refine tkA 11 ?_
    try simp only [Act.put, p1, p2, p3, p4, p5, p6]
    refine wpAnyH_ready (rs := [12]) (by kernel_rfl) (by simp) (AllReadyH.cons (o := _) rfl (fun K hK => ?_) AllReadyH.nil)
    have z823 := H807.out.cell 1 rfl 0 rfl
    have z824 := H807.out.free 1 rfl 0
    have z825 := H807.out.cell 1 rfl 1 rfl
    have z826 := H807.out.free 1 rfl 1
    have H827 := hid (show St B W [.cells D796 #[.int .i64 0, .int .i64 a] 99, .cells (B + 1 + 1 + 1) #[.int .i64 0, .int .i64 a] 99, .cells (B + 1 + 1) #[.int .i64 yl, .int .i64 yh] 99, .cells (B + 1) #[.int .i64 xl, .int .i64 xh] 99, .cells B #[.int .i64 0, .int .i64 g] 60] [] ((k808.setCell ⟨B + 1 + 1 + 1, 0, none⟩ (.int .i64 0)).setCell ⟨B + 1 + 1 + 1, 1, none⟩ (.int .i64 a)) from ((H807.out.set 1 rfl 0 (.int .i64 0)).set 1 rfl 1 (.int .i64 a)))
    go_simp
    refine hK.out _ _ ?_ (fun hHeld2 => ?_)
    focus ((try dsimp only); (exact ⟨H827.out.cell 0 rfl 0 rfl, H827.out.cell 0 rfl 1 rfl⟩))
    clear hK K hHeld
    try simp only [Act.put, p1, p2, p3, p4, p5, p6]
    clear z823 z824 z825 z826
    generalize ((k808.setCell ⟨B + 1 + 1 + 1, 0, none⟩ (.int .i64 0)).setCell ⟨B + 1 + 1 + 1, 1, none⟩ (.int .i64 a)) = k828 at *
    have hHeld := hHeld2
    clear hHeld2
    refine tkA 13 ?_
    try simp only [Act.put, p1, p2, p3, p4, p5, p6]
    refine wpAnyH_done (by kernel_rfl) ?_ _
    try clear hHeld
    have z829 := H827.out.cell 1 rfl 0 rfl
    have z830 := H827.out.cell 1 rfl 1 rfl
    go_wp2_with fail
    clear z829 z830
    have hpk := hid (show pwIok 0 g (xl, xh) (yl, yh) a b = b822 from by unfold pwIok; rw [(show (pwInt 0 g (xl, xh) (yl, yh) a b).1 = 0 from rfl), (show (pwInt 0 g (xl, xh) (yl, yh) a b).2 = a from rfl), HNb810.out, HNb822.out]; rfl)
    have q831 := H827.out.cell 1 rfl 0 rfl
    have q832 := H827.out.cell 1 rfl 1 rfl
    refine bodyPost_ret (v := .tuple #[.agg #[.int .i64 0, .int .i64 a], .bool b822]) ?_ rfl ⟨⟨_, _, by rw [hpk.out], fun _ => ⟨(show (pwInt 0 g (xl, xh) (yl, yh) a b).1 = 0 from rfl).symm, (show (pwInt 0 g (xl, xh) (yl, yh) a b).2 = a from rfl).symm⟩⟩, by first | exact H827.out.below | exact H827.out.below'⟩
    simp [results, Try.results73, go_sem, q831, q832]

set_option maxRecDepth 100000 in
set_option maxHeartbeats 3200000 in
theorem rnext_any_1 (g xl xh yl yh a b : Int) (W : World) (hxl : accOk xl = true) (hxh : accOk xh = true) (hyl : accOk yl = true) (hyh : accOk yh = true) : Calls Try.prog 73 #[.agg #[.int .i64 1, .int .i64 g], .agg #[.int .i64 xl, .int .i64 xh], .agg #[.int .i64 yl, .int .i64 yh], .int .i64 a, .int .i64 b] W fun e w' => (∃ lo hi, e = .returned (.tuple #[.agg #[.int .i64 lo, .int .i64 hi], .bool (pwIok 1 g (xl, xh) (yl, yh) a b)]) ∧ (pwIok 1 g (xl, xh) (yl, yh) a b = true → lo = (pwInt 1 g (xl, xh) (yl, yh) a b).1 ∧ hi = (pwInt 1 g (xl, xh) (yl, yh) a b).2)) ∧ Below W.heap.size W w' := by
  obtain ⟨xl1, xl2⟩ := accOk_iff.1 hxl
  obtain ⟨xh1, xh2⟩ := accOk_iff.1 hxh
  obtain ⟨yl1, yl2⟩ := accOk_iff.1 hyl
  obtain ⟨yh1, yh2⟩ := accOk_iff.1 hyh
  obtain ⟨B, hB⟩ : ∃ B, W.heap.size = B := ⟨_, rfl⟩
  have HI0 := hid (St.init hB)
  go_enter Try.func73, Try.ntmps73
  go_upto_region 1 with fail
  have H833 := hid (show St B W [.cells (B + 1 + 1 + 1) #[.int .i64 0, .int .i64 0] 99, .cells (B + 1 + 1) #[.int .i64 yl, .int .i64 yh] 99, .cells (B + 1) #[.int .i64 xl, .int .i64 xh] 99, .cells B #[.int .i64 1, .int .i64 g] 60] [] ((((W.alloc (.cells #[.int .i64 1, .int .i64 g] 60)).alloc (.cells #[.int .i64 xl, .int .i64 xh] 99)).alloc (.cells #[.int .i64 yl, .int .i64 yh] 99)).alloc (.cells #[.int .i64 0, .int .i64 0] 99)) from ((((HI0.out.alloc #[.int .i64 1, .int .i64 g] 60 hB).alloc #[.int .i64 xl, .int .i64 xh] 99 (by first | exact hB | simp [hB])).alloc #[.int .i64 yl, .int .i64 yh] 99 (by first | exact hB | simp [hB])).alloc #[.int .i64 0, .int .i64 0] 99 (by first | exact hB | simp [hB])))
  first | refine gen_code H833.out ?_ | refine gen_list H833.out ?_ | refine gen_calls H833.out ?_
  intro w834 hG
  clear H833
  have H833 := hid hG
  clear hG
  obtain ⟨mg, hmg⟩ : ∃ zz : Int, (if absI xl < absI xh then absI xh else absI xl) = zz := ⟨_, rfl⟩
  have H835 := hid H833.out.drew
  refine wp_region_held_drew (S := (fun w' => w'.cell? ⟨B + 1, 0, none⟩ = some (.int .i64 xl) ∧ w'.cell? ⟨B + 1, 1, none⟩ = some (.int .i64 xh))) (by kernel_rfl) ⟨H835.out.cell 2 rfl 0 rfl, H835.out.cell 2 rfl 1 rfl⟩ (fun hHeld => ?_)
  generalize w834.drew = k836 at *
  refine tkA 0 ?_
  try simp only [Act.put, p1, p2, p3, p4, p5, p6]
  refine tkA 1 ?_
  try simp only [Act.put, p1, p2, p3, p4, p5, p6]
  refine tkA 3 ?_
  try simp only [Act.put, p1, p2, p3, p4, p5, p6]
  refine tkA 4 ?_
  try simp only [Act.put, p1, p2, p3, p4, p5, p6]
  refine wpAnyH_ready (rs := [2]) (by kernel_rfl) (by simp) (AllReadyH.cons (o := _) rfl (fun K hK => ?_) AllReadyH.nil)
  go_simp
  go_at_call 118
  refine (rabs_any _ (by omega) _).mono ?_
  rintro e w837 ⟨rfl, hsw⟩
  have hsw2 : k836 = w837 := by first | exact hsw | exact hsw.symm
  clear hsw
  subst hsw2
  refine hK.out _ _ ?_ (fun hHeld2 => ?_)
  focus ((try dsimp only); (exact ⟨H835.out.cell 2 rfl 0 rfl, H835.out.cell 2 rfl 1 rfl⟩))
  clear hK K
  try simp only [Act.put, p1, p2, p3, p4, p5, p6]
  clear hHeld
  have hHeld := hHeld2
  clear hHeld2
  refine wpAnyH_ready (rs := [5]) (by kernel_rfl) (by simp) (AllReadyH.cons (o := _) rfl (fun K hK => ?_) AllReadyH.nil)
  go_simp
  go_at_call 118
  refine (rabs_any _ (by omega) _).mono ?_
  rintro e w838 ⟨rfl, hsw⟩
  have hsw2 : k836 = w838 := by first | exact hsw | exact hsw.symm
  clear hsw
  subst hsw2
  refine hK.out _ _ ?_ (fun hHeld2 => ?_)
  focus ((try dsimp only); (exact ⟨H835.out.cell 2 rfl 0 rfl, H835.out.cell 2 rfl 1 rfl⟩))
  clear hK K
  try simp only [Act.put, p1, p2, p3, p4, p5, p6]
  clear hHeld
  have hHeld := hHeld2
  clear hHeld2
  refine tkA 6 ?_
  try simp only [Act.put, p1, p2, p3, p4, p5, p6]
  refine tkA 7 ?_
  try simp only [Act.put, p1, p2, p3, p4, p5, p6]
  refine wpAnyH_done (by kernel_rfl) ?_ _
  try clear hHeld
  have HMG := hid (show mxI (absI xl) (absI xh) = mg from hmg)
  clear hmg
  obtain ⟨mga, mgb⟩ : 0 ≤ mg ∧ mg ≤ 17592186044416 := by rw [← HMG.out]; exact mag_bd hxl hxh
  have mgw : IntKind.i64.wrap (-mg) = -mg := IntWalk.i64_in _ (by omega)
  obtain ⟨D839, hD839⟩ : ∃ D, k836.heap.size = D := ⟨_, rfl⟩
  go_upto_region 3 with fail
  have H840 := hid (show St B W [.cells D839 #[.int .i64 0, .int .i64 0] 99, .cells (B + 1 + 1 + 1) #[.int .i64 0, .int .i64 0] 99, .cells (B + 1 + 1) #[.int .i64 yl, .int .i64 yh] 99, .cells (B + 1) #[.int .i64 xl, .int .i64 xh] 99, .cells B #[.int .i64 1, .int .i64 g] 60] [] (k836.alloc (.cells #[.int .i64 0, .int .i64 0] 99)) from (H835.out.alloc #[.int .i64 0, .int .i64 0] 99 hD839))
  first | refine gen_code H840.out ?_ | refine gen_list H840.out ?_ | refine gen_calls H840.out ?_
  intro w841 hG
  clear H840
  have H840 := hid hG
  clear hG
  clear hD839
  have z842 := H840.out.cell 4 rfl 0 rfl
  have z843 := H840.out.cell 4 rfl 1 rfl
  have z844 := H840.out.cell 0 rfl 0 rfl
  have z845 := H840.out.free 0 rfl 0
  have z846 := H840.out.cell 0 rfl 1 rfl
  have z847 := H840.out.free 0 rfl 1
  go_upto_region 27 with fail
  clear z842 z843 z844 z845 z846 z847
  have H848 := hid (show St B W [.cells D839 #[.int .i64 0, .int .i64 b] 99, .cells (B + 1 + 1 + 1) #[.int .i64 0, .int .i64 0] 99, .cells (B + 1 + 1) #[.int .i64 yl, .int .i64 yh] 99, .cells (B + 1) #[.int .i64 xl, .int .i64 xh] 99, .cells B #[.int .i64 1, .int .i64 g] 60] [] ((w841.setCell ⟨D839, 0, none⟩ (.int .i64 0)).setCell ⟨D839, 1, none⟩ (.int .i64 b)) from ((H840.out.set 0 rfl 0 (.int .i64 0)).set 0 rfl 1 (.int .i64 b)))
  first | refine gen_code H848.out ?_ | refine gen_list H848.out ?_ | refine gen_calls H848.out ?_
  intro w849 hG
  clear H848
  have H848 := hid hG
  clear hG
  have H850 := hid H848.out.drew
  refine wp_region_held_drew (S := (fun w' => w'.cell? ⟨D839, 0, none⟩ = some (.int .i64 0) ∧ w'.cell? ⟨D839, 1, none⟩ = some (.int .i64 b))) (by kernel_rfl) ⟨H850.out.cell 0 rfl 0 rfl, H850.out.cell 0 rfl 1 rfl⟩ (fun hHeld => ?_)
  generalize w849.drew = k851 at *
  refine tkA 0 ?_
  try simp only [Act.put, p1, p2, p3, p4, p5, p6]
  refine tkA 1 ?_
  try simp only [Act.put, p1, p2, p3, p4, p5, p6]
  refine tkA 2 ?_
  try simp only [Act.put, p1, p2, p3, p4, p5, p6]
  refine tkA 3 ?_
  try simp only [Act.put, p1, p2, p3, p4, p5, p6]
  refine tkA 4 ?_
  try simp only [Act.put, p1, p2, p3, p4, p5, p6]
  refine wpAnyH_ready (rs := [5]) (by kernel_rfl) (by simp) (AllReadyH.cons (o := _) rfl (fun K hK => ?_) AllReadyH.nil)
  go_simp
  go_at_call 121
  refine (racc_any _ _).mono ?_
  rintro e w852 ⟨rfl, hsw⟩
  have hsw2 : k851 = w852 := by first | exact hsw | exact hsw.symm
  clear hsw
  subst hsw2
  obtain ⟨b853, hb853⟩ : ∃ xx', accOk 0 = xx' := ⟨_, rfl⟩
  rw [hb853]
  have HNb853 := hid hb853
  clear hb853
  refine hK.out _ _ ?_ (fun hHeld2 => ?_)
  focus ((try dsimp only); (exact ⟨H850.out.cell 0 rfl 0 rfl, H850.out.cell 0 rfl 1 rfl⟩))
  clear hK K
  try simp only [Act.put, p1, p2, p3, p4, p5, p6]
  clear hHeld
  have hHeld := hHeld2
  clear hHeld2
  cases b853
  · skip
    refine tkA 6 ?_
    try simp only [Act.put, p1, p2, p3, p4, p5, p6]
    refine tkA 7 ?_
    try simp only [Act.put, p1, p2, p3, p4, p5, p6]
    refine tkU 8 ?_
    try simp only [Act.put, p1, p2, p3, p4, p5, p6]
    refine tkU 9 ?_
    try simp only [Act.put, p1, p2, p3, p4, p5, p6]
    refine tkU 10 ?_
    try simp only [Act.put, p1, p2, p3, p4, p5, p6]
    refine tkA 11 ?_
    try simp only [Act.put, p1, p2, p3, p4, p5, p6]
    refine wpAnyH_ready (rs := [12]) (by kernel_rfl) (by simp) (AllReadyH.cons (o := _) rfl (fun K hK => ?_) AllReadyH.nil)
    have z854 := H850.out.cell 1 rfl 0 rfl
    have z855 := H850.out.free 1 rfl 0
    have z856 := H850.out.cell 1 rfl 1 rfl
    have z857 := H850.out.free 1 rfl 1
    have H858 := hid (show St B W [.cells D839 #[.int .i64 0, .int .i64 b] 99, .cells (B + 1 + 1 + 1) #[.int .i64 0, .int .i64 b] 99, .cells (B + 1 + 1) #[.int .i64 yl, .int .i64 yh] 99, .cells (B + 1) #[.int .i64 xl, .int .i64 xh] 99, .cells B #[.int .i64 1, .int .i64 g] 60] [] ((k851.setCell ⟨B + 1 + 1 + 1, 0, none⟩ (.int .i64 0)).setCell ⟨B + 1 + 1 + 1, 1, none⟩ (.int .i64 b)) from ((H850.out.set 1 rfl 0 (.int .i64 0)).set 1 rfl 1 (.int .i64 b)))
    go_simp
    refine hK.out _ _ ?_ (fun hHeld2 => ?_)
    focus ((try dsimp only); (exact ⟨H858.out.cell 0 rfl 0 rfl, H858.out.cell 0 rfl 1 rfl⟩))
    clear hK K hHeld
    try simp only [Act.put, p1, p2, p3, p4, p5, p6]
    clear z854 z855 z856 z857
    generalize ((k851.setCell ⟨B + 1 + 1 + 1, 0, none⟩ (.int .i64 0)).setCell ⟨B + 1 + 1 + 1, 1, none⟩ (.int .i64 b)) = k859 at *
    have hHeld := hHeld2
    clear hHeld2
    refine tkA 13 ?_
    try simp only [Act.put, p1, p2, p3, p4, p5, p6]
    refine wpAnyH_done (by kernel_rfl) ?_ _
    try clear hHeld
    have z860 := H858.out.cell 1 rfl 0 rfl
    have z861 := H858.out.cell 1 rfl 1 rfl
    go_wp2_with fail
    clear z860 z861
    have hpk := hid (show pwIok 1 g (xl, xh) (yl, yh) a b = false from by unfold pwIok; rw [(show (pwInt 1 g (xl, xh) (yl, yh) a b).1 = 0 from rfl), (show (pwInt 1 g (xl, xh) (yl, yh) a b).2 = b from rfl), HNb853.out]; rfl)
    have q862 := H858.out.cell 1 rfl 0 rfl
    have q863 := H858.out.cell 1 rfl 1 rfl
    refine bodyPost_ret (v := .tuple #[.agg #[.int .i64 0, .int .i64 b], .bool false]) ?_ rfl ⟨⟨_, _, by rw [hpk.out], fun _ => ⟨(show (pwInt 1 g (xl, xh) (yl, yh) a b).1 = 0 from rfl).symm, (show (pwInt 1 g (xl, xh) (yl, yh) a b).2 = b from rfl).symm⟩⟩, by first | exact H858.out.below | exact H858.out.below'⟩
    simp [results, Try.results73, go_sem, q862, q863]
  · skip
    refine tkA 6 ?_
    try simp only [Act.put, p1, p2, p3, p4, p5, p6]
    refine tkA 7 ?_
    try simp only [Act.put, p1, p2, p3, p4, p5, p6]
    refine tkA 8 ?_
    try simp only [Act.put, p1, p2, p3, p4, p5, p6]
    refine tkA 9 ?_
    try simp only [Act.put, p1, p2, p3, p4, p5, p6]
    refine wpAnyH_ready (rs := [10]) (by kernel_rfl) (by simp) (AllReadyH.cons (o := _) rfl (fun K hK => ?_) AllReadyH.nil)
    go_simp
    go_at_call 121
    refine (racc_any _ _).mono ?_
    rintro e w864 ⟨rfl, hsw⟩
    have hsw2 : k851 = w864 := by first | exact hsw | exact hsw.symm
    clear hsw
    subst hsw2
    obtain ⟨b865, hb865⟩ : ∃ xx', accOk b = xx' := ⟨_, rfl⟩
    rw [hb865]
    have HNb865 := hid hb865
    clear hb865
    refine hK.out _ _ ?_ (fun hHeld2 => ?_)
    focus ((try dsimp only); (exact ⟨H850.out.cell 0 rfl 0 rfl, H850.out.cell 0 rfl 1 rfl⟩))
    clear hK K
    try simp only [Act.put, p1, p2, p3, p4, p5, p6]
    clear hHeld
    have hHeld := hHeld2
    clear hHeld2
    refine tkA 11 ?_
    try simp only [Act.put, p1, p2, p3, p4, p5, p6]
    refine wpAnyH_ready (rs := [12]) (by kernel_rfl) (by simp) (AllReadyH.cons (o := _) rfl (fun K hK => ?_) AllReadyH.nil)
    have z866 := H850.out.cell 1 rfl 0 rfl
    have z867 := H850.out.free 1 rfl 0
    have z868 := H850.out.cell 1 rfl 1 rfl
    have z869 := H850.out.free 1 rfl 1
    have H870 := hid (show St B W [.cells D839 #[.int .i64 0, .int .i64 b] 99, .cells (B + 1 + 1 + 1) #[.int .i64 0, .int .i64 b] 99, .cells (B + 1 + 1) #[.int .i64 yl, .int .i64 yh] 99, .cells (B + 1) #[.int .i64 xl, .int .i64 xh] 99, .cells B #[.int .i64 1, .int .i64 g] 60] [] ((k851.setCell ⟨B + 1 + 1 + 1, 0, none⟩ (.int .i64 0)).setCell ⟨B + 1 + 1 + 1, 1, none⟩ (.int .i64 b)) from ((H850.out.set 1 rfl 0 (.int .i64 0)).set 1 rfl 1 (.int .i64 b)))
    go_simp
    refine hK.out _ _ ?_ (fun hHeld2 => ?_)
    focus ((try dsimp only); (exact ⟨H870.out.cell 0 rfl 0 rfl, H870.out.cell 0 rfl 1 rfl⟩))
    clear hK K hHeld
    try simp only [Act.put, p1, p2, p3, p4, p5, p6]
    clear z866 z867 z868 z869
    generalize ((k851.setCell ⟨B + 1 + 1 + 1, 0, none⟩ (.int .i64 0)).setCell ⟨B + 1 + 1 + 1, 1, none⟩ (.int .i64 b)) = k871 at *
    have hHeld := hHeld2
    clear hHeld2
    refine tkA 13 ?_
    try simp only [Act.put, p1, p2, p3, p4, p5, p6]
    refine wpAnyH_done (by kernel_rfl) ?_ _
    try clear hHeld
    have z872 := H870.out.cell 1 rfl 0 rfl
    have z873 := H870.out.cell 1 rfl 1 rfl
    go_wp2_with fail
    clear z872 z873
    have hpk := hid (show pwIok 1 g (xl, xh) (yl, yh) a b = b865 from by unfold pwIok; rw [(show (pwInt 1 g (xl, xh) (yl, yh) a b).1 = 0 from rfl), (show (pwInt 1 g (xl, xh) (yl, yh) a b).2 = b from rfl), HNb853.out, HNb865.out]; rfl)
    have q874 := H870.out.cell 1 rfl 0 rfl
    have q875 := H870.out.cell 1 rfl 1 rfl
    refine bodyPost_ret (v := .tuple #[.agg #[.int .i64 0, .int .i64 b], .bool b865]) ?_ rfl ⟨⟨_, _, by rw [hpk.out], fun _ => ⟨(show (pwInt 1 g (xl, xh) (yl, yh) a b).1 = 0 from rfl).symm, (show (pwInt 1 g (xl, xh) (yl, yh) a b).2 = b from rfl).symm⟩⟩, by first | exact H870.out.below | exact H870.out.below'⟩
    simp [results, Try.results73, go_sem, q874, q875]

set_option maxRecDepth 100000 in
set_option maxHeartbeats 3200000 in
theorem rnext_any_2 (g xl xh yl yh a b : Int) (W : World) (hxl : accOk xl = true) (hxh : accOk xh = true) (hyl : accOk yl = true) (hyh : accOk yh = true) : Calls Try.prog 73 #[.agg #[.int .i64 2, .int .i64 g], .agg #[.int .i64 xl, .int .i64 xh], .agg #[.int .i64 yl, .int .i64 yh], .int .i64 a, .int .i64 b] W fun e w' => (∃ lo hi, e = .returned (.tuple #[.agg #[.int .i64 lo, .int .i64 hi], .bool (pwIok 2 g (xl, xh) (yl, yh) a b)]) ∧ (pwIok 2 g (xl, xh) (yl, yh) a b = true → lo = (pwInt 2 g (xl, xh) (yl, yh) a b).1 ∧ hi = (pwInt 2 g (xl, xh) (yl, yh) a b).2)) ∧ Below W.heap.size W w' := by
  obtain ⟨xl1, xl2⟩ := accOk_iff.1 hxl
  obtain ⟨xh1, xh2⟩ := accOk_iff.1 hxh
  obtain ⟨yl1, yl2⟩ := accOk_iff.1 hyl
  obtain ⟨yh1, yh2⟩ := accOk_iff.1 hyh
  obtain ⟨B, hB⟩ : ∃ B, W.heap.size = B := ⟨_, rfl⟩
  have HI0 := hid (St.init hB)
  go_enter Try.func73, Try.ntmps73
  go_upto_region 1 with fail
  have H876 := hid (show St B W [.cells (B + 1 + 1 + 1) #[.int .i64 0, .int .i64 0] 99, .cells (B + 1 + 1) #[.int .i64 yl, .int .i64 yh] 99, .cells (B + 1) #[.int .i64 xl, .int .i64 xh] 99, .cells B #[.int .i64 2, .int .i64 g] 60] [] ((((W.alloc (.cells #[.int .i64 2, .int .i64 g] 60)).alloc (.cells #[.int .i64 xl, .int .i64 xh] 99)).alloc (.cells #[.int .i64 yl, .int .i64 yh] 99)).alloc (.cells #[.int .i64 0, .int .i64 0] 99)) from ((((HI0.out.alloc #[.int .i64 2, .int .i64 g] 60 hB).alloc #[.int .i64 xl, .int .i64 xh] 99 (by first | exact hB | simp [hB])).alloc #[.int .i64 yl, .int .i64 yh] 99 (by first | exact hB | simp [hB])).alloc #[.int .i64 0, .int .i64 0] 99 (by first | exact hB | simp [hB])))
  first | refine gen_code H876.out ?_ | refine gen_list H876.out ?_ | refine gen_calls H876.out ?_
  intro w877 hG
  clear H876
  have H876 := hid hG
  clear hG
  obtain ⟨mg, hmg⟩ : ∃ zz : Int, (if absI xl < absI xh then absI xh else absI xl) = zz := ⟨_, rfl⟩
  have H878 := hid H876.out.drew
  refine wp_region_held_drew (S := (fun w' => w'.cell? ⟨B + 1, 0, none⟩ = some (.int .i64 xl) ∧ w'.cell? ⟨B + 1, 1, none⟩ = some (.int .i64 xh))) (by kernel_rfl) ⟨H878.out.cell 2 rfl 0 rfl, H878.out.cell 2 rfl 1 rfl⟩ (fun hHeld => ?_)
  generalize w877.drew = k879 at *
  refine tkA 0 ?_
  try simp only [Act.put, p1, p2, p3, p4, p5, p6]
  refine tkA 1 ?_
  try simp only [Act.put, p1, p2, p3, p4, p5, p6]
  refine tkA 3 ?_
  try simp only [Act.put, p1, p2, p3, p4, p5, p6]
  refine tkA 4 ?_
  try simp only [Act.put, p1, p2, p3, p4, p5, p6]
  refine wpAnyH_ready (rs := [2]) (by kernel_rfl) (by simp) (AllReadyH.cons (o := _) rfl (fun K hK => ?_) AllReadyH.nil)
  go_simp
  go_at_call 118
  refine (rabs_any _ (by omega) _).mono ?_
  rintro e w880 ⟨rfl, hsw⟩
  have hsw2 : k879 = w880 := by first | exact hsw | exact hsw.symm
  clear hsw
  subst hsw2
  refine hK.out _ _ ?_ (fun hHeld2 => ?_)
  focus ((try dsimp only); (exact ⟨H878.out.cell 2 rfl 0 rfl, H878.out.cell 2 rfl 1 rfl⟩))
  clear hK K
  try simp only [Act.put, p1, p2, p3, p4, p5, p6]
  clear hHeld
  have hHeld := hHeld2
  clear hHeld2
  refine wpAnyH_ready (rs := [5]) (by kernel_rfl) (by simp) (AllReadyH.cons (o := _) rfl (fun K hK => ?_) AllReadyH.nil)
  go_simp
  go_at_call 118
  refine (rabs_any _ (by omega) _).mono ?_
  rintro e w881 ⟨rfl, hsw⟩
  have hsw2 : k879 = w881 := by first | exact hsw | exact hsw.symm
  clear hsw
  subst hsw2
  refine hK.out _ _ ?_ (fun hHeld2 => ?_)
  focus ((try dsimp only); (exact ⟨H878.out.cell 2 rfl 0 rfl, H878.out.cell 2 rfl 1 rfl⟩))
  clear hK K
  try simp only [Act.put, p1, p2, p3, p4, p5, p6]
  clear hHeld
  have hHeld := hHeld2
  clear hHeld2
  refine tkA 6 ?_
  try simp only [Act.put, p1, p2, p3, p4, p5, p6]
  refine tkA 7 ?_
  try simp only [Act.put, p1, p2, p3, p4, p5, p6]
  refine wpAnyH_done (by kernel_rfl) ?_ _
  try clear hHeld
  have HMG := hid (show mxI (absI xl) (absI xh) = mg from hmg)
  clear hmg
  obtain ⟨mga, mgb⟩ : 0 ≤ mg ∧ mg ≤ 17592186044416 := by rw [← HMG.out]; exact mag_bd hxl hxh
  have mgw : IntKind.i64.wrap (-mg) = -mg := IntWalk.i64_in _ (by omega)
  obtain ⟨D882, hD882⟩ : ∃ D, k879.heap.size = D := ⟨_, rfl⟩
  go_upto_region 3 with fail
  have H883 := hid (show St B W [.cells D882 #[.int .i64 0, .int .i64 0] 99, .cells (B + 1 + 1 + 1) #[.int .i64 0, .int .i64 0] 99, .cells (B + 1 + 1) #[.int .i64 yl, .int .i64 yh] 99, .cells (B + 1) #[.int .i64 xl, .int .i64 xh] 99, .cells B #[.int .i64 2, .int .i64 g] 60] [] (k879.alloc (.cells #[.int .i64 0, .int .i64 0] 99)) from (H878.out.alloc #[.int .i64 0, .int .i64 0] 99 hD882))
  first | refine gen_code H883.out ?_ | refine gen_list H883.out ?_ | refine gen_calls H883.out ?_
  intro w884 hG
  clear H883
  have H883 := hid hG
  clear hG
  clear hD882
  have z885 := H883.out.cell 4 rfl 0 rfl
  have z886 := H883.out.cell 4 rfl 1 rfl
  have z887 := H883.out.cell 0 rfl 0 rfl
  have z888 := H883.out.free 0 rfl 0
  have z889 := H883.out.cell 0 rfl 1 rfl
  have z890 := H883.out.free 0 rfl 1
  go_upto_region 27 with fail
  clear z885 z886 z887 z888 z889 z890
  have H891 := hid (show St B W [.cells D882 #[.int .i64 g, .int .i64 g] 99, .cells (B + 1 + 1 + 1) #[.int .i64 0, .int .i64 0] 99, .cells (B + 1 + 1) #[.int .i64 yl, .int .i64 yh] 99, .cells (B + 1) #[.int .i64 xl, .int .i64 xh] 99, .cells B #[.int .i64 2, .int .i64 g] 60] [] ((w884.setCell ⟨D882, 0, none⟩ (.int .i64 g)).setCell ⟨D882, 1, none⟩ (.int .i64 g)) from ((H883.out.set 0 rfl 0 (.int .i64 g)).set 0 rfl 1 (.int .i64 g)))
  first | refine gen_code H891.out ?_ | refine gen_list H891.out ?_ | refine gen_calls H891.out ?_
  intro w892 hG
  clear H891
  have H891 := hid hG
  clear hG
  have H893 := hid H891.out.drew
  refine wp_region_held_drew (S := (fun w' => w'.cell? ⟨D882, 0, none⟩ = some (.int .i64 g) ∧ w'.cell? ⟨D882, 1, none⟩ = some (.int .i64 g))) (by kernel_rfl) ⟨H893.out.cell 0 rfl 0 rfl, H893.out.cell 0 rfl 1 rfl⟩ (fun hHeld => ?_)
  generalize w892.drew = k894 at *
  refine tkA 0 ?_
  try simp only [Act.put, p1, p2, p3, p4, p5, p6]
  refine tkA 1 ?_
  try simp only [Act.put, p1, p2, p3, p4, p5, p6]
  refine tkA 2 ?_
  try simp only [Act.put, p1, p2, p3, p4, p5, p6]
  refine tkA 3 ?_
  try simp only [Act.put, p1, p2, p3, p4, p5, p6]
  refine tkA 4 ?_
  try simp only [Act.put, p1, p2, p3, p4, p5, p6]
  refine wpAnyH_ready (rs := [5]) (by kernel_rfl) (by simp) (AllReadyH.cons (o := _) rfl (fun K hK => ?_) AllReadyH.nil)
  go_simp
  go_at_call 121
  refine (racc_any _ _).mono ?_
  rintro e w895 ⟨rfl, hsw⟩
  have hsw2 : k894 = w895 := by first | exact hsw | exact hsw.symm
  clear hsw
  subst hsw2
  obtain ⟨b896, hb896⟩ : ∃ xx', accOk g = xx' := ⟨_, rfl⟩
  rw [hb896]
  have HNb896 := hid hb896
  clear hb896
  refine hK.out _ _ ?_ (fun hHeld2 => ?_)
  focus ((try dsimp only); (exact ⟨H893.out.cell 0 rfl 0 rfl, H893.out.cell 0 rfl 1 rfl⟩))
  clear hK K
  try simp only [Act.put, p1, p2, p3, p4, p5, p6]
  clear hHeld
  have hHeld := hHeld2
  clear hHeld2
  cases b896
  · skip
    refine tkA 6 ?_
    try simp only [Act.put, p1, p2, p3, p4, p5, p6]
    refine tkA 7 ?_
    try simp only [Act.put, p1, p2, p3, p4, p5, p6]
    refine tkU 8 ?_
    try simp only [Act.put, p1, p2, p3, p4, p5, p6]
    refine tkU 9 ?_
    try simp only [Act.put, p1, p2, p3, p4, p5, p6]
    refine tkU 10 ?_
    try simp only [Act.put, p1, p2, p3, p4, p5, p6]
    refine tkA 11 ?_
    try simp only [Act.put, p1, p2, p3, p4, p5, p6]
    refine wpAnyH_ready (rs := [12]) (by kernel_rfl) (by simp) (AllReadyH.cons (o := _) rfl (fun K hK => ?_) AllReadyH.nil)
    have z897 := H893.out.cell 1 rfl 0 rfl
    have z898 := H893.out.free 1 rfl 0
    have z899 := H893.out.cell 1 rfl 1 rfl
    have z900 := H893.out.free 1 rfl 1
    have H901 := hid (show St B W [.cells D882 #[.int .i64 g, .int .i64 g] 99, .cells (B + 1 + 1 + 1) #[.int .i64 g, .int .i64 g] 99, .cells (B + 1 + 1) #[.int .i64 yl, .int .i64 yh] 99, .cells (B + 1) #[.int .i64 xl, .int .i64 xh] 99, .cells B #[.int .i64 2, .int .i64 g] 60] [] ((k894.setCell ⟨B + 1 + 1 + 1, 0, none⟩ (.int .i64 g)).setCell ⟨B + 1 + 1 + 1, 1, none⟩ (.int .i64 g)) from ((H893.out.set 1 rfl 0 (.int .i64 g)).set 1 rfl 1 (.int .i64 g)))
    go_simp
    refine hK.out _ _ ?_ (fun hHeld2 => ?_)
    focus ((try dsimp only); (exact ⟨H901.out.cell 0 rfl 0 rfl, H901.out.cell 0 rfl 1 rfl⟩))
    clear hK K hHeld
    try simp only [Act.put, p1, p2, p3, p4, p5, p6]
    clear z897 z898 z899 z900
    generalize ((k894.setCell ⟨B + 1 + 1 + 1, 0, none⟩ (.int .i64 g)).setCell ⟨B + 1 + 1 + 1, 1, none⟩ (.int .i64 g)) = k902 at *
    have hHeld := hHeld2
    clear hHeld2
    refine tkA 13 ?_
    try simp only [Act.put, p1, p2, p3, p4, p5, p6]
    refine wpAnyH_done (by kernel_rfl) ?_ _
    try clear hHeld
    have z903 := H901.out.cell 1 rfl 0 rfl
    have z904 := H901.out.cell 1 rfl 1 rfl
    go_wp2_with fail
    clear z903 z904
    have hpk := hid (show pwIok 2 g (xl, xh) (yl, yh) a b = false from by unfold pwIok; rw [(show (pwInt 2 g (xl, xh) (yl, yh) a b).1 = g from rfl), (show (pwInt 2 g (xl, xh) (yl, yh) a b).2 = g from rfl), HNb896.out]; rfl)
    have q905 := H901.out.cell 1 rfl 0 rfl
    have q906 := H901.out.cell 1 rfl 1 rfl
    refine bodyPost_ret (v := .tuple #[.agg #[.int .i64 g, .int .i64 g], .bool false]) ?_ rfl ⟨⟨_, _, by rw [hpk.out], fun _ => ⟨(show (pwInt 2 g (xl, xh) (yl, yh) a b).1 = g from rfl).symm, (show (pwInt 2 g (xl, xh) (yl, yh) a b).2 = g from rfl).symm⟩⟩, by first | exact H901.out.below | exact H901.out.below'⟩
    simp [results, Try.results73, go_sem, q905, q906]
  · skip
    refine tkA 6 ?_
    try simp only [Act.put, p1, p2, p3, p4, p5, p6]
    refine tkA 7 ?_
    try simp only [Act.put, p1, p2, p3, p4, p5, p6]
    refine tkA 8 ?_
    try simp only [Act.put, p1, p2, p3, p4, p5, p6]
    refine tkA 9 ?_
    try simp only [Act.put, p1, p2, p3, p4, p5, p6]
    refine wpAnyH_ready (rs := [10]) (by kernel_rfl) (by simp) (AllReadyH.cons (o := _) rfl (fun K hK => ?_) AllReadyH.nil)
    go_simp
    go_at_call 121
    refine (racc_any _ _).mono ?_
    rintro e w907 ⟨rfl, hsw⟩
    have hsw2 : k894 = w907 := by first | exact hsw | exact hsw.symm
    clear hsw
    subst hsw2
    rw [HNb896.out]
    refine hK.out _ _ ?_ (fun hHeld2 => ?_)
    focus ((try dsimp only); (exact ⟨H893.out.cell 0 rfl 0 rfl, H893.out.cell 0 rfl 1 rfl⟩))
    clear hK K
    try simp only [Act.put, p1, p2, p3, p4, p5, p6]
    clear hHeld
    have hHeld := hHeld2
    clear hHeld2
    refine tkA 11 ?_
    try simp only [Act.put, p1, p2, p3, p4, p5, p6]
    refine wpAnyH_ready (rs := [12]) (by kernel_rfl) (by simp) (AllReadyH.cons (o := _) rfl (fun K hK => ?_) AllReadyH.nil)
    have z908 := H893.out.cell 1 rfl 0 rfl
    have z909 := H893.out.free 1 rfl 0
    have z910 := H893.out.cell 1 rfl 1 rfl
    have z911 := H893.out.free 1 rfl 1
    have H912 := hid (show St B W [.cells D882 #[.int .i64 g, .int .i64 g] 99, .cells (B + 1 + 1 + 1) #[.int .i64 g, .int .i64 g] 99, .cells (B + 1 + 1) #[.int .i64 yl, .int .i64 yh] 99, .cells (B + 1) #[.int .i64 xl, .int .i64 xh] 99, .cells B #[.int .i64 2, .int .i64 g] 60] [] ((k894.setCell ⟨B + 1 + 1 + 1, 0, none⟩ (.int .i64 g)).setCell ⟨B + 1 + 1 + 1, 1, none⟩ (.int .i64 g)) from ((H893.out.set 1 rfl 0 (.int .i64 g)).set 1 rfl 1 (.int .i64 g)))
    go_simp
    refine hK.out _ _ ?_ (fun hHeld2 => ?_)
    focus ((try dsimp only); (exact ⟨H912.out.cell 0 rfl 0 rfl, H912.out.cell 0 rfl 1 rfl⟩))
    clear hK K hHeld
    try simp only [Act.put, p1, p2, p3, p4, p5, p6]
    clear z908 z909 z910 z911
    generalize ((k894.setCell ⟨B + 1 + 1 + 1, 0, none⟩ (.int .i64 g)).setCell ⟨B + 1 + 1 + 1, 1, none⟩ (.int .i64 g)) = k913 at *
    have hHeld := hHeld2
    clear hHeld2
    refine tkA 13 ?_
    try simp only [Act.put, p1, p2, p3, p4, p5, p6]
    refine wpAnyH_done (by kernel_rfl) ?_ _
    try clear hHeld
    have z914 := H912.out.cell 1 rfl 0 rfl
    have z915 := H912.out.cell 1 rfl 1 rfl
    go_wp2_with fail
    clear z914 z915
    have hpk := hid (show pwIok 2 g (xl, xh) (yl, yh) a b = true from by unfold pwIok; rw [(show (pwInt 2 g (xl, xh) (yl, yh) a b).1 = g from rfl), (show (pwInt 2 g (xl, xh) (yl, yh) a b).2 = g from rfl), HNb896.out]; rfl)
    have q916 := H912.out.cell 1 rfl 0 rfl
    have q917 := H912.out.cell 1 rfl 1 rfl
    refine bodyPost_ret (v := .tuple #[.agg #[.int .i64 g, .int .i64 g], .bool true]) ?_ rfl ⟨⟨_, _, by rw [hpk.out], fun _ => ⟨(show (pwInt 2 g (xl, xh) (yl, yh) a b).1 = g from rfl).symm, (show (pwInt 2 g (xl, xh) (yl, yh) a b).2 = g from rfl).symm⟩⟩, by first | exact H912.out.below | exact H912.out.below'⟩
    simp [results, Try.results73, go_sem, q916, q917]

set_option maxRecDepth 100000 in
set_option maxHeartbeats 3200000 in
theorem rnext_any_3 (g xl xh yl yh a b : Int) (W : World) (hxl : accOk xl = true) (hxh : accOk xh = true) (hyl : accOk yl = true) (hyh : accOk yh = true) : Calls Try.prog 73 #[.agg #[.int .i64 3, .int .i64 g], .agg #[.int .i64 xl, .int .i64 xh], .agg #[.int .i64 yl, .int .i64 yh], .int .i64 a, .int .i64 b] W fun e w' => (∃ lo hi, e = .returned (.tuple #[.agg #[.int .i64 lo, .int .i64 hi], .bool (pwIok 3 g (xl, xh) (yl, yh) a b)]) ∧ (pwIok 3 g (xl, xh) (yl, yh) a b = true → lo = (pwInt 3 g (xl, xh) (yl, yh) a b).1 ∧ hi = (pwInt 3 g (xl, xh) (yl, yh) a b).2)) ∧ Below W.heap.size W w' := by
  obtain ⟨xl1, xl2⟩ := accOk_iff.1 hxl
  obtain ⟨xh1, xh2⟩ := accOk_iff.1 hxh
  obtain ⟨yl1, yl2⟩ := accOk_iff.1 hyl
  obtain ⟨yh1, yh2⟩ := accOk_iff.1 hyh
  obtain ⟨B, hB⟩ : ∃ B, W.heap.size = B := ⟨_, rfl⟩
  have HI0 := hid (St.init hB)
  go_enter Try.func73, Try.ntmps73
  go_upto_region 1 with fail
  have H918 := hid (show St B W [.cells (B + 1 + 1 + 1) #[.int .i64 0, .int .i64 0] 99, .cells (B + 1 + 1) #[.int .i64 yl, .int .i64 yh] 99, .cells (B + 1) #[.int .i64 xl, .int .i64 xh] 99, .cells B #[.int .i64 3, .int .i64 g] 60] [] ((((W.alloc (.cells #[.int .i64 3, .int .i64 g] 60)).alloc (.cells #[.int .i64 xl, .int .i64 xh] 99)).alloc (.cells #[.int .i64 yl, .int .i64 yh] 99)).alloc (.cells #[.int .i64 0, .int .i64 0] 99)) from ((((HI0.out.alloc #[.int .i64 3, .int .i64 g] 60 hB).alloc #[.int .i64 xl, .int .i64 xh] 99 (by first | exact hB | simp [hB])).alloc #[.int .i64 yl, .int .i64 yh] 99 (by first | exact hB | simp [hB])).alloc #[.int .i64 0, .int .i64 0] 99 (by first | exact hB | simp [hB])))
  first | refine gen_code H918.out ?_ | refine gen_list H918.out ?_ | refine gen_calls H918.out ?_
  intro w919 hG
  clear H918
  have H918 := hid hG
  clear hG
  obtain ⟨mg, hmg⟩ : ∃ zz : Int, (if absI xl < absI xh then absI xh else absI xl) = zz := ⟨_, rfl⟩
  have H920 := hid H918.out.drew
  refine wp_region_held_drew (S := (fun w' => w'.cell? ⟨B + 1, 0, none⟩ = some (.int .i64 xl) ∧ w'.cell? ⟨B + 1, 1, none⟩ = some (.int .i64 xh))) (by kernel_rfl) ⟨H920.out.cell 2 rfl 0 rfl, H920.out.cell 2 rfl 1 rfl⟩ (fun hHeld => ?_)
  generalize w919.drew = k921 at *
  refine tkA 0 ?_
  try simp only [Act.put, p1, p2, p3, p4, p5, p6]
  refine tkA 1 ?_
  try simp only [Act.put, p1, p2, p3, p4, p5, p6]
  refine tkA 3 ?_
  try simp only [Act.put, p1, p2, p3, p4, p5, p6]
  refine tkA 4 ?_
  try simp only [Act.put, p1, p2, p3, p4, p5, p6]
  refine wpAnyH_ready (rs := [2]) (by kernel_rfl) (by simp) (AllReadyH.cons (o := _) rfl (fun K hK => ?_) AllReadyH.nil)
  go_simp
  go_at_call 118
  refine (rabs_any _ (by omega) _).mono ?_
  rintro e w922 ⟨rfl, hsw⟩
  have hsw2 : k921 = w922 := by first | exact hsw | exact hsw.symm
  clear hsw
  subst hsw2
  refine hK.out _ _ ?_ (fun hHeld2 => ?_)
  focus ((try dsimp only); (exact ⟨H920.out.cell 2 rfl 0 rfl, H920.out.cell 2 rfl 1 rfl⟩))
  clear hK K
  try simp only [Act.put, p1, p2, p3, p4, p5, p6]
  clear hHeld
  have hHeld := hHeld2
  clear hHeld2
  refine wpAnyH_ready (rs := [5]) (by kernel_rfl) (by simp) (AllReadyH.cons (o := _) rfl (fun K hK => ?_) AllReadyH.nil)
  go_simp
  go_at_call 118
  refine (rabs_any _ (by omega) _).mono ?_
  rintro e w923 ⟨rfl, hsw⟩
  have hsw2 : k921 = w923 := by first | exact hsw | exact hsw.symm
  clear hsw
  subst hsw2
  refine hK.out _ _ ?_ (fun hHeld2 => ?_)
  focus ((try dsimp only); (exact ⟨H920.out.cell 2 rfl 0 rfl, H920.out.cell 2 rfl 1 rfl⟩))
  clear hK K
  try simp only [Act.put, p1, p2, p3, p4, p5, p6]
  clear hHeld
  have hHeld := hHeld2
  clear hHeld2
  refine tkA 6 ?_
  try simp only [Act.put, p1, p2, p3, p4, p5, p6]
  refine tkA 7 ?_
  try simp only [Act.put, p1, p2, p3, p4, p5, p6]
  refine wpAnyH_done (by kernel_rfl) ?_ _
  try clear hHeld
  have HMG := hid (show mxI (absI xl) (absI xh) = mg from hmg)
  clear hmg
  obtain ⟨mga, mgb⟩ : 0 ≤ mg ∧ mg ≤ 17592186044416 := by rw [← HMG.out]; exact mag_bd hxl hxh
  have mgw : IntKind.i64.wrap (-mg) = -mg := IntWalk.i64_in _ (by omega)
  obtain ⟨D924, hD924⟩ : ∃ D, k921.heap.size = D := ⟨_, rfl⟩
  go_upto_region 3 with fail
  have H925 := hid (show St B W [.cells D924 #[.int .i64 0, .int .i64 0] 99, .cells (B + 1 + 1 + 1) #[.int .i64 0, .int .i64 0] 99, .cells (B + 1 + 1) #[.int .i64 yl, .int .i64 yh] 99, .cells (B + 1) #[.int .i64 xl, .int .i64 xh] 99, .cells B #[.int .i64 3, .int .i64 g] 60] [] (k921.alloc (.cells #[.int .i64 0, .int .i64 0] 99)) from (H920.out.alloc #[.int .i64 0, .int .i64 0] 99 hD924))
  first | refine gen_code H925.out ?_ | refine gen_list H925.out ?_ | refine gen_calls H925.out ?_
  intro w926 hG
  clear H925
  have H925 := hid hG
  clear hG
  clear hD924
  have z927 := H925.out.cell 4 rfl 0 rfl
  have z928 := H925.out.cell 4 rfl 1 rfl
  have z929 := H925.out.cell 3 rfl 0 rfl
  have z930 := H925.out.cell 3 rfl 1 rfl
  have z931 := H925.out.cell 2 rfl 0 rfl
  have z932 := H925.out.cell 2 rfl 1 rfl
  have z933 := H925.out.cell 0 rfl 0 rfl
  have z934 := H925.out.free 0 rfl 0
  have z935 := H925.out.cell 0 rfl 1 rfl
  have z936 := H925.out.free 0 rfl 1
  go_upto_region 27 with fail
  clear z927 z928 z929 z930 z931 z932 z933 z934 z935 z936
  have H937 := hid (show St B W [.cells D924 #[.int .i64 (xl + yl), .int .i64 (xh + yh)] 99, .cells (B + 1 + 1 + 1) #[.int .i64 0, .int .i64 0] 99, .cells (B + 1 + 1) #[.int .i64 yl, .int .i64 yh] 99, .cells (B + 1) #[.int .i64 xl, .int .i64 xh] 99, .cells B #[.int .i64 3, .int .i64 g] 60] [] ((w926.setCell ⟨D924, 0, none⟩ (.int .i64 (xl + yl))).setCell ⟨D924, 1, none⟩ (.int .i64 (xh + yh))) from ((H925.out.set 0 rfl 0 (.int .i64 (xl + yl))).set 0 rfl 1 (.int .i64 (xh + yh))))
  first | refine gen_code H937.out ?_ | refine gen_list H937.out ?_ | refine gen_calls H937.out ?_
  intro w938 hG
  clear H937
  have H937 := hid hG
  clear hG
  have H939 := hid H937.out.drew
  refine wp_region_held_drew (S := (fun w' => w'.cell? ⟨D924, 0, none⟩ = some (.int .i64 (xl + yl)) ∧ w'.cell? ⟨D924, 1, none⟩ = some (.int .i64 (xh + yh)))) (by kernel_rfl) ⟨H939.out.cell 0 rfl 0 rfl, H939.out.cell 0 rfl 1 rfl⟩ (fun hHeld => ?_)
  generalize w938.drew = k940 at *
  refine tkA 0 ?_
  try simp only [Act.put, p1, p2, p3, p4, p5, p6]
  refine tkA 1 ?_
  try simp only [Act.put, p1, p2, p3, p4, p5, p6]
  refine tkA 2 ?_
  try simp only [Act.put, p1, p2, p3, p4, p5, p6]
  refine tkA 3 ?_
  try simp only [Act.put, p1, p2, p3, p4, p5, p6]
  refine tkA 4 ?_
  try simp only [Act.put, p1, p2, p3, p4, p5, p6]
  refine wpAnyH_ready (rs := [5]) (by kernel_rfl) (by simp) (AllReadyH.cons (o := _) rfl (fun K hK => ?_) AllReadyH.nil)
  go_simp
  go_at_call 121
  refine (racc_any _ _).mono ?_
  rintro e w941 ⟨rfl, hsw⟩
  have hsw2 : k940 = w941 := by first | exact hsw | exact hsw.symm
  clear hsw
  subst hsw2
  obtain ⟨b942, hb942⟩ : ∃ xx', accOk (xl + yl) = xx' := ⟨_, rfl⟩
  rw [hb942]
  have HNb942 := hid hb942
  clear hb942
  refine hK.out _ _ ?_ (fun hHeld2 => ?_)
  focus ((try dsimp only); (exact ⟨H939.out.cell 0 rfl 0 rfl, H939.out.cell 0 rfl 1 rfl⟩))
  clear hK K
  try simp only [Act.put, p1, p2, p3, p4, p5, p6]
  clear hHeld
  have hHeld := hHeld2
  clear hHeld2
  cases b942
  · skip
    refine tkA 6 ?_
    try simp only [Act.put, p1, p2, p3, p4, p5, p6]
    refine tkA 7 ?_
    try simp only [Act.put, p1, p2, p3, p4, p5, p6]
    refine tkU 8 ?_
    try simp only [Act.put, p1, p2, p3, p4, p5, p6]
    refine tkU 9 ?_
    try simp only [Act.put, p1, p2, p3, p4, p5, p6]
    refine tkU 10 ?_
    try simp only [Act.put, p1, p2, p3, p4, p5, p6]
    refine tkA 11 ?_
    try simp only [Act.put, p1, p2, p3, p4, p5, p6]
    refine wpAnyH_ready (rs := [12]) (by kernel_rfl) (by simp) (AllReadyH.cons (o := _) rfl (fun K hK => ?_) AllReadyH.nil)
    have z943 := H939.out.cell 1 rfl 0 rfl
    have z944 := H939.out.free 1 rfl 0
    have z945 := H939.out.cell 1 rfl 1 rfl
    have z946 := H939.out.free 1 rfl 1
    have H947 := hid (show St B W [.cells D924 #[.int .i64 (xl + yl), .int .i64 (xh + yh)] 99, .cells (B + 1 + 1 + 1) #[.int .i64 (xl + yl), .int .i64 (xh + yh)] 99, .cells (B + 1 + 1) #[.int .i64 yl, .int .i64 yh] 99, .cells (B + 1) #[.int .i64 xl, .int .i64 xh] 99, .cells B #[.int .i64 3, .int .i64 g] 60] [] ((k940.setCell ⟨B + 1 + 1 + 1, 0, none⟩ (.int .i64 (xl + yl))).setCell ⟨B + 1 + 1 + 1, 1, none⟩ (.int .i64 (xh + yh))) from ((H939.out.set 1 rfl 0 (.int .i64 (xl + yl))).set 1 rfl 1 (.int .i64 (xh + yh))))
    go_simp
    refine hK.out _ _ ?_ (fun hHeld2 => ?_)
    focus ((try dsimp only); (exact ⟨H947.out.cell 0 rfl 0 rfl, H947.out.cell 0 rfl 1 rfl⟩))
    clear hK K hHeld
    try simp only [Act.put, p1, p2, p3, p4, p5, p6]
    clear z943 z944 z945 z946
    generalize ((k940.setCell ⟨B + 1 + 1 + 1, 0, none⟩ (.int .i64 (xl + yl))).setCell ⟨B + 1 + 1 + 1, 1, none⟩ (.int .i64 (xh + yh))) = k948 at *
    have hHeld := hHeld2
    clear hHeld2
    refine tkA 13 ?_
    try simp only [Act.put, p1, p2, p3, p4, p5, p6]
    refine wpAnyH_done (by kernel_rfl) ?_ _
    try clear hHeld
    have z949 := H947.out.cell 1 rfl 0 rfl
    have z950 := H947.out.cell 1 rfl 1 rfl
    go_wp2_with fail
    clear z949 z950
    have hpk := hid (show pwIok 3 g (xl, xh) (yl, yh) a b = false from by unfold pwIok; rw [(show (pwInt 3 g (xl, xh) (yl, yh) a b).1 = xl + yl from rfl), (show (pwInt 3 g (xl, xh) (yl, yh) a b).2 = xh + yh from rfl), HNb942.out]; rfl)
    have q951 := H947.out.cell 1 rfl 0 rfl
    have q952 := H947.out.cell 1 rfl 1 rfl
    refine bodyPost_ret (v := .tuple #[.agg #[.int .i64 (xl + yl), .int .i64 (xh + yh)], .bool false]) ?_ rfl ⟨⟨_, _, by rw [hpk.out], fun _ => ⟨(show (pwInt 3 g (xl, xh) (yl, yh) a b).1 = xl + yl from rfl).symm, (show (pwInt 3 g (xl, xh) (yl, yh) a b).2 = xh + yh from rfl).symm⟩⟩, by first | exact H947.out.below | exact H947.out.below'⟩
    simp [results, Try.results73, go_sem, q951, q952]
  · skip
    refine tkA 6 ?_
    try simp only [Act.put, p1, p2, p3, p4, p5, p6]
    refine tkA 7 ?_
    try simp only [Act.put, p1, p2, p3, p4, p5, p6]
    refine tkA 8 ?_
    try simp only [Act.put, p1, p2, p3, p4, p5, p6]
    refine tkA 9 ?_
    try simp only [Act.put, p1, p2, p3, p4, p5, p6]
    refine wpAnyH_ready (rs := [10]) (by kernel_rfl) (by simp) (AllReadyH.cons (o := _) rfl (fun K hK => ?_) AllReadyH.nil)
    go_simp
    go_at_call 121
    refine (racc_any _ _).mono ?_
    rintro e w953 ⟨rfl, hsw⟩
    have hsw2 : k940 = w953 := by first | exact hsw | exact hsw.symm
    clear hsw
    subst hsw2
    obtain ⟨b954, hb954⟩ : ∃ xx', accOk (xh + yh) = xx' := ⟨_, rfl⟩
    rw [hb954]
    have HNb954 := hid hb954
    clear hb954
    refine hK.out _ _ ?_ (fun hHeld2 => ?_)
    focus ((try dsimp only); (exact ⟨H939.out.cell 0 rfl 0 rfl, H939.out.cell 0 rfl 1 rfl⟩))
    clear hK K
    try simp only [Act.put, p1, p2, p3, p4, p5, p6]
    clear hHeld
    have hHeld := hHeld2
    clear hHeld2
    refine tkA 11 ?_
    try simp only [Act.put, p1, p2, p3, p4, p5, p6]
    refine wpAnyH_ready (rs := [12]) (by kernel_rfl) (by simp) (AllReadyH.cons (o := _) rfl (fun K hK => ?_) AllReadyH.nil)
    have z955 := H939.out.cell 1 rfl 0 rfl
    have z956 := H939.out.free 1 rfl 0
    have z957 := H939.out.cell 1 rfl 1 rfl
    have z958 := H939.out.free 1 rfl 1
    have H959 := hid (show St B W [.cells D924 #[.int .i64 (xl + yl), .int .i64 (xh + yh)] 99, .cells (B + 1 + 1 + 1) #[.int .i64 (xl + yl), .int .i64 (xh + yh)] 99, .cells (B + 1 + 1) #[.int .i64 yl, .int .i64 yh] 99, .cells (B + 1) #[.int .i64 xl, .int .i64 xh] 99, .cells B #[.int .i64 3, .int .i64 g] 60] [] ((k940.setCell ⟨B + 1 + 1 + 1, 0, none⟩ (.int .i64 (xl + yl))).setCell ⟨B + 1 + 1 + 1, 1, none⟩ (.int .i64 (xh + yh))) from ((H939.out.set 1 rfl 0 (.int .i64 (xl + yl))).set 1 rfl 1 (.int .i64 (xh + yh))))
    go_simp
    refine hK.out _ _ ?_ (fun hHeld2 => ?_)
    focus ((try dsimp only); (exact ⟨H959.out.cell 0 rfl 0 rfl, H959.out.cell 0 rfl 1 rfl⟩))
    clear hK K hHeld
    try simp only [Act.put, p1, p2, p3, p4, p5, p6]
    clear z955 z956 z957 z958
    generalize ((k940.setCell ⟨B + 1 + 1 + 1, 0, none⟩ (.int .i64 (xl + yl))).setCell ⟨B + 1 + 1 + 1, 1, none⟩ (.int .i64 (xh + yh))) = k960 at *
    have hHeld := hHeld2
    clear hHeld2
    refine tkA 13 ?_
    try simp only [Act.put, p1, p2, p3, p4, p5, p6]
    refine wpAnyH_done (by kernel_rfl) ?_ _
    try clear hHeld
    have z961 := H959.out.cell 1 rfl 0 rfl
    have z962 := H959.out.cell 1 rfl 1 rfl
    go_wp2_with fail
    clear z961 z962
    have hpk := hid (show pwIok 3 g (xl, xh) (yl, yh) a b = b954 from by unfold pwIok; rw [(show (pwInt 3 g (xl, xh) (yl, yh) a b).1 = xl + yl from rfl), (show (pwInt 3 g (xl, xh) (yl, yh) a b).2 = xh + yh from rfl), HNb942.out, HNb954.out]; rfl)
    have q963 := H959.out.cell 1 rfl 0 rfl
    have q964 := H959.out.cell 1 rfl 1 rfl
    refine bodyPost_ret (v := .tuple #[.agg #[.int .i64 (xl + yl), .int .i64 (xh + yh)], .bool b954]) ?_ rfl ⟨⟨_, _, by rw [hpk.out], fun _ => ⟨(show (pwInt 3 g (xl, xh) (yl, yh) a b).1 = xl + yl from rfl).symm, (show (pwInt 3 g (xl, xh) (yl, yh) a b).2 = xh + yh from rfl).symm⟩⟩, by first | exact H959.out.below | exact H959.out.below'⟩
    simp [results, Try.results73, go_sem, q963, q964]

set_option maxRecDepth 100000 in
set_option maxHeartbeats 3200000 in
theorem rnext_any_4 (g xl xh yl yh a b : Int) (W : World) (hxl : accOk xl = true) (hxh : accOk xh = true) (hyl : accOk yl = true) (hyh : accOk yh = true) : Calls Try.prog 73 #[.agg #[.int .i64 4, .int .i64 g], .agg #[.int .i64 xl, .int .i64 xh], .agg #[.int .i64 yl, .int .i64 yh], .int .i64 a, .int .i64 b] W fun e w' => (∃ lo hi, e = .returned (.tuple #[.agg #[.int .i64 lo, .int .i64 hi], .bool (pwIok 4 g (xl, xh) (yl, yh) a b)]) ∧ (pwIok 4 g (xl, xh) (yl, yh) a b = true → lo = (pwInt 4 g (xl, xh) (yl, yh) a b).1 ∧ hi = (pwInt 4 g (xl, xh) (yl, yh) a b).2)) ∧ Below W.heap.size W w' := by
  obtain ⟨xl1, xl2⟩ := accOk_iff.1 hxl
  obtain ⟨xh1, xh2⟩ := accOk_iff.1 hxh
  obtain ⟨yl1, yl2⟩ := accOk_iff.1 hyl
  obtain ⟨yh1, yh2⟩ := accOk_iff.1 hyh
  obtain ⟨B, hB⟩ : ∃ B, W.heap.size = B := ⟨_, rfl⟩
  have HI0 := hid (St.init hB)
  go_enter Try.func73, Try.ntmps73
  go_upto_region 1 with fail
  have H965 := hid (show St B W [.cells (B + 1 + 1 + 1) #[.int .i64 0, .int .i64 0] 99, .cells (B + 1 + 1) #[.int .i64 yl, .int .i64 yh] 99, .cells (B + 1) #[.int .i64 xl, .int .i64 xh] 99, .cells B #[.int .i64 4, .int .i64 g] 60] [] ((((W.alloc (.cells #[.int .i64 4, .int .i64 g] 60)).alloc (.cells #[.int .i64 xl, .int .i64 xh] 99)).alloc (.cells #[.int .i64 yl, .int .i64 yh] 99)).alloc (.cells #[.int .i64 0, .int .i64 0] 99)) from ((((HI0.out.alloc #[.int .i64 4, .int .i64 g] 60 hB).alloc #[.int .i64 xl, .int .i64 xh] 99 (by first | exact hB | simp [hB])).alloc #[.int .i64 yl, .int .i64 yh] 99 (by first | exact hB | simp [hB])).alloc #[.int .i64 0, .int .i64 0] 99 (by first | exact hB | simp [hB])))
  first | refine gen_code H965.out ?_ | refine gen_list H965.out ?_ | refine gen_calls H965.out ?_
  intro w966 hG
  clear H965
  have H965 := hid hG
  clear hG
  obtain ⟨mg, hmg⟩ : ∃ zz : Int, (if absI xl < absI xh then absI xh else absI xl) = zz := ⟨_, rfl⟩
  have H967 := hid H965.out.drew
  refine wp_region_held_drew (S := (fun w' => w'.cell? ⟨B + 1, 0, none⟩ = some (.int .i64 xl) ∧ w'.cell? ⟨B + 1, 1, none⟩ = some (.int .i64 xh))) (by kernel_rfl) ⟨H967.out.cell 2 rfl 0 rfl, H967.out.cell 2 rfl 1 rfl⟩ (fun hHeld => ?_)
  generalize w966.drew = k968 at *
  refine tkA 0 ?_
  try simp only [Act.put, p1, p2, p3, p4, p5, p6]
  refine tkA 1 ?_
  try simp only [Act.put, p1, p2, p3, p4, p5, p6]
  refine tkA 3 ?_
  try simp only [Act.put, p1, p2, p3, p4, p5, p6]
  refine tkA 4 ?_
  try simp only [Act.put, p1, p2, p3, p4, p5, p6]
  refine wpAnyH_ready (rs := [2]) (by kernel_rfl) (by simp) (AllReadyH.cons (o := _) rfl (fun K hK => ?_) AllReadyH.nil)
  go_simp
  go_at_call 118
  refine (rabs_any _ (by omega) _).mono ?_
  rintro e w969 ⟨rfl, hsw⟩
  have hsw2 : k968 = w969 := by first | exact hsw | exact hsw.symm
  clear hsw
  subst hsw2
  refine hK.out _ _ ?_ (fun hHeld2 => ?_)
  focus ((try dsimp only); (exact ⟨H967.out.cell 2 rfl 0 rfl, H967.out.cell 2 rfl 1 rfl⟩))
  clear hK K
  try simp only [Act.put, p1, p2, p3, p4, p5, p6]
  clear hHeld
  have hHeld := hHeld2
  clear hHeld2
  refine wpAnyH_ready (rs := [5]) (by kernel_rfl) (by simp) (AllReadyH.cons (o := _) rfl (fun K hK => ?_) AllReadyH.nil)
  go_simp
  go_at_call 118
  refine (rabs_any _ (by omega) _).mono ?_
  rintro e w970 ⟨rfl, hsw⟩
  have hsw2 : k968 = w970 := by first | exact hsw | exact hsw.symm
  clear hsw
  subst hsw2
  refine hK.out _ _ ?_ (fun hHeld2 => ?_)
  focus ((try dsimp only); (exact ⟨H967.out.cell 2 rfl 0 rfl, H967.out.cell 2 rfl 1 rfl⟩))
  clear hK K
  try simp only [Act.put, p1, p2, p3, p4, p5, p6]
  clear hHeld
  have hHeld := hHeld2
  clear hHeld2
  refine tkA 6 ?_
  try simp only [Act.put, p1, p2, p3, p4, p5, p6]
  refine tkA 7 ?_
  try simp only [Act.put, p1, p2, p3, p4, p5, p6]
  refine wpAnyH_done (by kernel_rfl) ?_ _
  try clear hHeld
  have HMG := hid (show mxI (absI xl) (absI xh) = mg from hmg)
  clear hmg
  obtain ⟨mga, mgb⟩ : 0 ≤ mg ∧ mg ≤ 17592186044416 := by rw [← HMG.out]; exact mag_bd hxl hxh
  have mgw : IntKind.i64.wrap (-mg) = -mg := IntWalk.i64_in _ (by omega)
  obtain ⟨D971, hD971⟩ : ∃ D, k968.heap.size = D := ⟨_, rfl⟩
  go_upto_region 3 with fail
  have H972 := hid (show St B W [.cells D971 #[.int .i64 0, .int .i64 0] 99, .cells (B + 1 + 1 + 1) #[.int .i64 0, .int .i64 0] 99, .cells (B + 1 + 1) #[.int .i64 yl, .int .i64 yh] 99, .cells (B + 1) #[.int .i64 xl, .int .i64 xh] 99, .cells B #[.int .i64 4, .int .i64 g] 60] [] (k968.alloc (.cells #[.int .i64 0, .int .i64 0] 99)) from (H967.out.alloc #[.int .i64 0, .int .i64 0] 99 hD971))
  first | refine gen_code H972.out ?_ | refine gen_list H972.out ?_ | refine gen_calls H972.out ?_
  intro w973 hG
  clear H972
  have H972 := hid hG
  clear hG
  clear hD971
  have z974 := H972.out.cell 4 rfl 0 rfl
  have z975 := H972.out.cell 4 rfl 1 rfl
  have z976 := H972.out.cell 3 rfl 0 rfl
  have z977 := H972.out.cell 3 rfl 1 rfl
  have z978 := H972.out.cell 2 rfl 0 rfl
  have z979 := H972.out.cell 2 rfl 1 rfl
  have z980 := H972.out.cell 0 rfl 0 rfl
  have z981 := H972.out.free 0 rfl 0
  have z982 := H972.out.cell 0 rfl 1 rfl
  have z983 := H972.out.free 0 rfl 1
  go_upto_region 27 with fail
  clear z974 z975 z976 z977 z978 z979 z980 z981 z982 z983
  have H984 := hid (show St B W [.cells D971 #[.int .i64 (xl - yh), .int .i64 (xh - yl)] 99, .cells (B + 1 + 1 + 1) #[.int .i64 0, .int .i64 0] 99, .cells (B + 1 + 1) #[.int .i64 yl, .int .i64 yh] 99, .cells (B + 1) #[.int .i64 xl, .int .i64 xh] 99, .cells B #[.int .i64 4, .int .i64 g] 60] [] ((w973.setCell ⟨D971, 0, none⟩ (.int .i64 (xl - yh))).setCell ⟨D971, 1, none⟩ (.int .i64 (xh - yl))) from ((H972.out.set 0 rfl 0 (.int .i64 (xl - yh))).set 0 rfl 1 (.int .i64 (xh - yl))))
  first | refine gen_code H984.out ?_ | refine gen_list H984.out ?_ | refine gen_calls H984.out ?_
  intro w985 hG
  clear H984
  have H984 := hid hG
  clear hG
  have H986 := hid H984.out.drew
  refine wp_region_held_drew (S := (fun w' => w'.cell? ⟨D971, 0, none⟩ = some (.int .i64 (xl - yh)) ∧ w'.cell? ⟨D971, 1, none⟩ = some (.int .i64 (xh - yl)))) (by kernel_rfl) ⟨H986.out.cell 0 rfl 0 rfl, H986.out.cell 0 rfl 1 rfl⟩ (fun hHeld => ?_)
  generalize w985.drew = k987 at *
  refine tkA 0 ?_
  try simp only [Act.put, p1, p2, p3, p4, p5, p6]
  refine tkA 1 ?_
  try simp only [Act.put, p1, p2, p3, p4, p5, p6]
  refine tkA 2 ?_
  try simp only [Act.put, p1, p2, p3, p4, p5, p6]
  refine tkA 3 ?_
  try simp only [Act.put, p1, p2, p3, p4, p5, p6]
  refine tkA 4 ?_
  try simp only [Act.put, p1, p2, p3, p4, p5, p6]
  refine wpAnyH_ready (rs := [5]) (by kernel_rfl) (by simp) (AllReadyH.cons (o := _) rfl (fun K hK => ?_) AllReadyH.nil)
  go_simp
  go_at_call 121
  refine (racc_any _ _).mono ?_
  rintro e w988 ⟨rfl, hsw⟩
  have hsw2 : k987 = w988 := by first | exact hsw | exact hsw.symm
  clear hsw
  subst hsw2
  obtain ⟨b989, hb989⟩ : ∃ xx', accOk (xl - yh) = xx' := ⟨_, rfl⟩
  rw [hb989]
  have HNb989 := hid hb989
  clear hb989
  refine hK.out _ _ ?_ (fun hHeld2 => ?_)
  focus ((try dsimp only); (exact ⟨H986.out.cell 0 rfl 0 rfl, H986.out.cell 0 rfl 1 rfl⟩))
  clear hK K
  try simp only [Act.put, p1, p2, p3, p4, p5, p6]
  clear hHeld
  have hHeld := hHeld2
  clear hHeld2
  cases b989
  · skip
    refine tkA 6 ?_
    try simp only [Act.put, p1, p2, p3, p4, p5, p6]
    refine tkA 7 ?_
    try simp only [Act.put, p1, p2, p3, p4, p5, p6]
    refine tkU 8 ?_
    try simp only [Act.put, p1, p2, p3, p4, p5, p6]
    refine tkU 9 ?_
    try simp only [Act.put, p1, p2, p3, p4, p5, p6]
    refine tkU 10 ?_
    try simp only [Act.put, p1, p2, p3, p4, p5, p6]
    refine tkA 11 ?_
    try simp only [Act.put, p1, p2, p3, p4, p5, p6]
    refine wpAnyH_ready (rs := [12]) (by kernel_rfl) (by simp) (AllReadyH.cons (o := _) rfl (fun K hK => ?_) AllReadyH.nil)
    have z990 := H986.out.cell 1 rfl 0 rfl
    have z991 := H986.out.free 1 rfl 0
    have z992 := H986.out.cell 1 rfl 1 rfl
    have z993 := H986.out.free 1 rfl 1
    have H994 := hid (show St B W [.cells D971 #[.int .i64 (xl - yh), .int .i64 (xh - yl)] 99, .cells (B + 1 + 1 + 1) #[.int .i64 (xl - yh), .int .i64 (xh - yl)] 99, .cells (B + 1 + 1) #[.int .i64 yl, .int .i64 yh] 99, .cells (B + 1) #[.int .i64 xl, .int .i64 xh] 99, .cells B #[.int .i64 4, .int .i64 g] 60] [] ((k987.setCell ⟨B + 1 + 1 + 1, 0, none⟩ (.int .i64 (xl - yh))).setCell ⟨B + 1 + 1 + 1, 1, none⟩ (.int .i64 (xh - yl))) from ((H986.out.set 1 rfl 0 (.int .i64 (xl - yh))).set 1 rfl 1 (.int .i64 (xh - yl))))
    go_simp
    refine hK.out _ _ ?_ (fun hHeld2 => ?_)
    focus ((try dsimp only); (exact ⟨H994.out.cell 0 rfl 0 rfl, H994.out.cell 0 rfl 1 rfl⟩))
    clear hK K hHeld
    try simp only [Act.put, p1, p2, p3, p4, p5, p6]
    clear z990 z991 z992 z993
    generalize ((k987.setCell ⟨B + 1 + 1 + 1, 0, none⟩ (.int .i64 (xl - yh))).setCell ⟨B + 1 + 1 + 1, 1, none⟩ (.int .i64 (xh - yl))) = k995 at *
    have hHeld := hHeld2
    clear hHeld2
    refine tkA 13 ?_
    try simp only [Act.put, p1, p2, p3, p4, p5, p6]
    refine wpAnyH_done (by kernel_rfl) ?_ _
    try clear hHeld
    have z996 := H994.out.cell 1 rfl 0 rfl
    have z997 := H994.out.cell 1 rfl 1 rfl
    go_wp2_with fail
    clear z996 z997
    have hpk := hid (show pwIok 4 g (xl, xh) (yl, yh) a b = false from by unfold pwIok; rw [(show (pwInt 4 g (xl, xh) (yl, yh) a b).1 = xl - yh from rfl), (show (pwInt 4 g (xl, xh) (yl, yh) a b).2 = xh - yl from rfl), HNb989.out]; rfl)
    have q998 := H994.out.cell 1 rfl 0 rfl
    have q999 := H994.out.cell 1 rfl 1 rfl
    refine bodyPost_ret (v := .tuple #[.agg #[.int .i64 (xl - yh), .int .i64 (xh - yl)], .bool false]) ?_ rfl ⟨⟨_, _, by rw [hpk.out], fun _ => ⟨(show (pwInt 4 g (xl, xh) (yl, yh) a b).1 = xl - yh from rfl).symm, (show (pwInt 4 g (xl, xh) (yl, yh) a b).2 = xh - yl from rfl).symm⟩⟩, by first | exact H994.out.below | exact H994.out.below'⟩
    simp [results, Try.results73, go_sem, q998, q999]
  · skip
    refine tkA 6 ?_
    try simp only [Act.put, p1, p2, p3, p4, p5, p6]
    refine tkA 7 ?_
    try simp only [Act.put, p1, p2, p3, p4, p5, p6]
    refine tkA 8 ?_
    try simp only [Act.put, p1, p2, p3, p4, p5, p6]
    refine tkA 9 ?_
    try simp only [Act.put, p1, p2, p3, p4, p5, p6]
    refine wpAnyH_ready (rs := [10]) (by kernel_rfl) (by simp) (AllReadyH.cons (o := _) rfl (fun K hK => ?_) AllReadyH.nil)
    go_simp
    go_at_call 121
    refine (racc_any _ _).mono ?_
    rintro e w1000 ⟨rfl, hsw⟩
    have hsw2 : k987 = w1000 := by first | exact hsw | exact hsw.symm
    clear hsw
    subst hsw2
    obtain ⟨b1001, hb1001⟩ : ∃ xx', accOk (xh - yl) = xx' := ⟨_, rfl⟩
    rw [hb1001]
    have HNb1001 := hid hb1001
    clear hb1001
    refine hK.out _ _ ?_ (fun hHeld2 => ?_)
    focus ((try dsimp only); (exact ⟨H986.out.cell 0 rfl 0 rfl, H986.out.cell 0 rfl 1 rfl⟩))
    clear hK K
    try simp only [Act.put, p1, p2, p3, p4, p5, p6]
    clear hHeld
    have hHeld := hHeld2
    clear hHeld2
    refine tkA 11 ?_
    try simp only [Act.put, p1, p2, p3, p4, p5, p6]
    refine wpAnyH_ready (rs := [12]) (by kernel_rfl) (by simp) (AllReadyH.cons (o := _) rfl (fun K hK => ?_) AllReadyH.nil)
    have z1002 := H986.out.cell 1 rfl 0 rfl
    have z1003 := H986.out.free 1 rfl 0
    have z1004 := H986.out.cell 1 rfl 1 rfl
    have z1005 := H986.out.free 1 rfl 1
    have H1006 := hid (show St B W [.cells D971 #[.int .i64 (xl - yh), .int .i64 (xh - yl)] 99, .cells (B + 1 + 1 + 1) #[.int .i64 (xl - yh), .int .i64 (xh - yl)] 99, .cells (B + 1 + 1) #[.int .i64 yl, .int .i64 yh] 99, .cells (B + 1) #[.int .i64 xl, .int .i64 xh] 99, .cells B #[.int .i64 4, .int .i64 g] 60] [] ((k987.setCell ⟨B + 1 + 1 + 1, 0, none⟩ (.int .i64 (xl - yh))).setCell ⟨B + 1 + 1 + 1, 1, none⟩ (.int .i64 (xh - yl))) from ((H986.out.set 1 rfl 0 (.int .i64 (xl - yh))).set 1 rfl 1 (.int .i64 (xh - yl))))
    go_simp
    refine hK.out _ _ ?_ (fun hHeld2 => ?_)
    focus ((try dsimp only); (exact ⟨H1006.out.cell 0 rfl 0 rfl, H1006.out.cell 0 rfl 1 rfl⟩))
    clear hK K hHeld
    try simp only [Act.put, p1, p2, p3, p4, p5, p6]
    clear z1002 z1003 z1004 z1005
    generalize ((k987.setCell ⟨B + 1 + 1 + 1, 0, none⟩ (.int .i64 (xl - yh))).setCell ⟨B + 1 + 1 + 1, 1, none⟩ (.int .i64 (xh - yl))) = k1007 at *
    have hHeld := hHeld2
    clear hHeld2
    refine tkA 13 ?_
    try simp only [Act.put, p1, p2, p3, p4, p5, p6]
    refine wpAnyH_done (by kernel_rfl) ?_ _
    try clear hHeld
    have z1008 := H1006.out.cell 1 rfl 0 rfl
    have z1009 := H1006.out.cell 1 rfl 1 rfl
    go_wp2_with fail
    clear z1008 z1009
    have hpk := hid (show pwIok 4 g (xl, xh) (yl, yh) a b = b1001 from by unfold pwIok; rw [(show (pwInt 4 g (xl, xh) (yl, yh) a b).1 = xl - yh from rfl), (show (pwInt 4 g (xl, xh) (yl, yh) a b).2 = xh - yl from rfl), HNb989.out, HNb1001.out]; rfl)
    have q1010 := H1006.out.cell 1 rfl 0 rfl
    have q1011 := H1006.out.cell 1 rfl 1 rfl
    refine bodyPost_ret (v := .tuple #[.agg #[.int .i64 (xl - yh), .int .i64 (xh - yl)], .bool b1001]) ?_ rfl ⟨⟨_, _, by rw [hpk.out], fun _ => ⟨(show (pwInt 4 g (xl, xh) (yl, yh) a b).1 = xl - yh from rfl).symm, (show (pwInt 4 g (xl, xh) (yl, yh) a b).2 = xh - yl from rfl).symm⟩⟩, by first | exact H1006.out.below | exact H1006.out.below'⟩
    simp [results, Try.results73, go_sem, q1010, q1011]

set_option maxRecDepth 100000 in
set_option maxHeartbeats 3200000 in
theorem rnext_any_5 (g xl xh yl yh a b : Int) (W : World) (hxl : accOk xl = true) (hxh : accOk xh = true) (hyl : accOk yl = true) (hyh : accOk yh = true) : Calls Try.prog 73 #[.agg #[.int .i64 5, .int .i64 g], .agg #[.int .i64 xl, .int .i64 xh], .agg #[.int .i64 yl, .int .i64 yh], .int .i64 a, .int .i64 b] W fun e w' => (∃ lo hi, e = .returned (.tuple #[.agg #[.int .i64 lo, .int .i64 hi], .bool (pwIok 5 g (xl, xh) (yl, yh) a b)]) ∧ (pwIok 5 g (xl, xh) (yl, yh) a b = true → lo = (pwInt 5 g (xl, xh) (yl, yh) a b).1 ∧ hi = (pwInt 5 g (xl, xh) (yl, yh) a b).2)) ∧ Below W.heap.size W w' := by
  obtain ⟨xl1, xl2⟩ := accOk_iff.1 hxl
  obtain ⟨xh1, xh2⟩ := accOk_iff.1 hxh
  obtain ⟨yl1, yl2⟩ := accOk_iff.1 hyl
  obtain ⟨yh1, yh2⟩ := accOk_iff.1 hyh
  obtain ⟨B, hB⟩ : ∃ B, W.heap.size = B := ⟨_, rfl⟩
  have HI0 := hid (St.init hB)
  go_enter Try.func73, Try.ntmps73
  go_upto_region 1 with fail
  have H1012 := hid (show St B W [.cells (B + 1 + 1 + 1) #[.int .i64 0, .int .i64 0] 99, .cells (B + 1 + 1) #[.int .i64 yl, .int .i64 yh] 99, .cells (B + 1) #[.int .i64 xl, .int .i64 xh] 99, .cells B #[.int .i64 5, .int .i64 g] 60] [] ((((W.alloc (.cells #[.int .i64 5, .int .i64 g] 60)).alloc (.cells #[.int .i64 xl, .int .i64 xh] 99)).alloc (.cells #[.int .i64 yl, .int .i64 yh] 99)).alloc (.cells #[.int .i64 0, .int .i64 0] 99)) from ((((HI0.out.alloc #[.int .i64 5, .int .i64 g] 60 hB).alloc #[.int .i64 xl, .int .i64 xh] 99 (by first | exact hB | simp [hB])).alloc #[.int .i64 yl, .int .i64 yh] 99 (by first | exact hB | simp [hB])).alloc #[.int .i64 0, .int .i64 0] 99 (by first | exact hB | simp [hB])))
  first | refine gen_code H1012.out ?_ | refine gen_list H1012.out ?_ | refine gen_calls H1012.out ?_
  intro w1013 hG
  clear H1012
  have H1012 := hid hG
  clear hG
  obtain ⟨mg, hmg⟩ : ∃ zz : Int, (if absI xl < absI xh then absI xh else absI xl) = zz := ⟨_, rfl⟩
  have H1014 := hid H1012.out.drew
  refine wp_region_held_drew (S := (fun w' => w'.cell? ⟨B + 1, 0, none⟩ = some (.int .i64 xl) ∧ w'.cell? ⟨B + 1, 1, none⟩ = some (.int .i64 xh))) (by kernel_rfl) ⟨H1014.out.cell 2 rfl 0 rfl, H1014.out.cell 2 rfl 1 rfl⟩ (fun hHeld => ?_)
  generalize w1013.drew = k1015 at *
  refine tkA 0 ?_
  try simp only [Act.put, p1, p2, p3, p4, p5, p6]
  refine tkA 1 ?_
  try simp only [Act.put, p1, p2, p3, p4, p5, p6]
  refine tkA 3 ?_
  try simp only [Act.put, p1, p2, p3, p4, p5, p6]
  refine tkA 4 ?_
  try simp only [Act.put, p1, p2, p3, p4, p5, p6]
  refine wpAnyH_ready (rs := [2]) (by kernel_rfl) (by simp) (AllReadyH.cons (o := _) rfl (fun K hK => ?_) AllReadyH.nil)
  go_simp
  go_at_call 118
  refine (rabs_any _ (by omega) _).mono ?_
  rintro e w1016 ⟨rfl, hsw⟩
  have hsw2 : k1015 = w1016 := by first | exact hsw | exact hsw.symm
  clear hsw
  subst hsw2
  refine hK.out _ _ ?_ (fun hHeld2 => ?_)
  focus ((try dsimp only); (exact ⟨H1014.out.cell 2 rfl 0 rfl, H1014.out.cell 2 rfl 1 rfl⟩))
  clear hK K
  try simp only [Act.put, p1, p2, p3, p4, p5, p6]
  clear hHeld
  have hHeld := hHeld2
  clear hHeld2
  refine wpAnyH_ready (rs := [5]) (by kernel_rfl) (by simp) (AllReadyH.cons (o := _) rfl (fun K hK => ?_) AllReadyH.nil)
  go_simp
  go_at_call 118
  refine (rabs_any _ (by omega) _).mono ?_
  rintro e w1017 ⟨rfl, hsw⟩
  have hsw2 : k1015 = w1017 := by first | exact hsw | exact hsw.symm
  clear hsw
  subst hsw2
  refine hK.out _ _ ?_ (fun hHeld2 => ?_)
  focus ((try dsimp only); (exact ⟨H1014.out.cell 2 rfl 0 rfl, H1014.out.cell 2 rfl 1 rfl⟩))
  clear hK K
  try simp only [Act.put, p1, p2, p3, p4, p5, p6]
  clear hHeld
  have hHeld := hHeld2
  clear hHeld2
  refine tkA 6 ?_
  try simp only [Act.put, p1, p2, p3, p4, p5, p6]
  refine tkA 7 ?_
  try simp only [Act.put, p1, p2, p3, p4, p5, p6]
  refine wpAnyH_done (by kernel_rfl) ?_ _
  try clear hHeld
  have HMG := hid (show mxI (absI xl) (absI xh) = mg from hmg)
  clear hmg
  obtain ⟨mga, mgb⟩ : 0 ≤ mg ∧ mg ≤ 17592186044416 := by rw [← HMG.out]; exact mag_bd hxl hxh
  have mgw : IntKind.i64.wrap (-mg) = -mg := IntWalk.i64_in _ (by omega)
  obtain ⟨D1018, hD1018⟩ : ∃ D, k1015.heap.size = D := ⟨_, rfl⟩
  go_upto_region 3 with fail
  have H1019 := hid (show St B W [.cells D1018 #[.int .i64 0, .int .i64 0] 99, .cells (B + 1 + 1 + 1) #[.int .i64 0, .int .i64 0] 99, .cells (B + 1 + 1) #[.int .i64 yl, .int .i64 yh] 99, .cells (B + 1) #[.int .i64 xl, .int .i64 xh] 99, .cells B #[.int .i64 5, .int .i64 g] 60] [] (k1015.alloc (.cells #[.int .i64 0, .int .i64 0] 99)) from (H1014.out.alloc #[.int .i64 0, .int .i64 0] 99 hD1018))
  first | refine gen_code H1019.out ?_ | refine gen_list H1019.out ?_ | refine gen_calls H1019.out ?_
  intro w1020 hG
  clear H1019
  have H1019 := hid hG
  clear hG
  clear hD1018
  have z1021 := H1019.out.cell 4 rfl 0 rfl
  have z1022 := H1019.out.cell 4 rfl 1 rfl
  have z1023 := H1019.out.cell 3 rfl 0 rfl
  have z1024 := H1019.out.cell 3 rfl 1 rfl
  have z1025 := H1019.out.cell 2 rfl 0 rfl
  have z1026 := H1019.out.cell 2 rfl 1 rfl
  go_wp2_with fail
  clear z1021 z1022 z1023 z1024 z1025 z1026
  refine (rproduct_any _ _ _ _ _ hxl hxh hyl hyh).mono ?_
  rintro e w1029 ⟨⟨lo1027, hi1028, rfl, hlh⟩, hb⟩
  have H1030 := hid (H1019.out.call hb)
  clear hb
  obtain ⟨b1031, hb1031⟩ : ∃ xx', pwMul (xl, xh) (yl, yh) = xx' := ⟨_, rfl⟩
  rw [hb1031] at hlh ⊢
  have HNb1031 := hid hb1031
  clear hb1031
  have HLH := hid hlh
  clear hlh
  cases b1031 with
  | true =>
    have z1032 := H1030.out.cell 0 rfl 0 rfl
    have z1033 := H1030.out.free 0 rfl 0
    have z1034 := H1030.out.cell 0 rfl 1 rfl
    have z1035 := H1030.out.free 0 rfl 1
    go_upto_region 27 with fail
    clear z1032 z1033 z1034 z1035
    have H1036 := hid (show St B W [.cells D1018 #[.int .i64 lo1027, .int .i64 hi1028] 99, .cells (B + 1 + 1 + 1) #[.int .i64 0, .int .i64 0] 99, .cells (B + 1 + 1) #[.int .i64 yl, .int .i64 yh] 99, .cells (B + 1) #[.int .i64 xl, .int .i64 xh] 99, .cells B #[.int .i64 5, .int .i64 g] 60] [] ((w1029.setCell ⟨D1018, 0, none⟩ (.int .i64 lo1027)).setCell ⟨D1018, 1, none⟩ (.int .i64 hi1028)) from ((H1030.out.set 0 rfl 0 (.int .i64 lo1027)).set 0 rfl 1 (.int .i64 hi1028)))
    first | refine gen_code H1036.out ?_ | refine gen_list H1036.out ?_ | refine gen_calls H1036.out ?_
    intro w1037 hG
    clear H1036
    have H1036 := hid hG
    clear hG
    have H1038 := hid H1036.out.drew
    refine wp_region_held_drew (S := (fun w' => w'.cell? ⟨D1018, 0, none⟩ = some (.int .i64 lo1027) ∧ w'.cell? ⟨D1018, 1, none⟩ = some (.int .i64 hi1028))) (by kernel_rfl) ⟨H1038.out.cell 0 rfl 0 rfl, H1038.out.cell 0 rfl 1 rfl⟩ (fun hHeld => ?_)
    generalize w1037.drew = k1039 at *
    refine tkA 0 ?_
    try simp only [Act.put, p1, p2, p3, p4, p5, p6]
    refine tkA 1 ?_
    try simp only [Act.put, p1, p2, p3, p4, p5, p6]
    refine tkA 2 ?_
    try simp only [Act.put, p1, p2, p3, p4, p5, p6]
    refine tkA 3 ?_
    try simp only [Act.put, p1, p2, p3, p4, p5, p6]
    refine tkA 4 ?_
    try simp only [Act.put, p1, p2, p3, p4, p5, p6]
    refine wpAnyH_ready (rs := [5]) (by kernel_rfl) (by simp) (AllReadyH.cons (o := _) rfl (fun K hK => ?_) AllReadyH.nil)
    go_simp
    go_at_call 121
    refine (racc_any _ _).mono ?_
    rintro e w1040 ⟨rfl, hsw⟩
    have hsw2 : k1039 = w1040 := by first | exact hsw | exact hsw.symm
    clear hsw
    subst hsw2
    obtain ⟨b1041, hb1041⟩ : ∃ xx', accOk lo1027 = xx' := ⟨_, rfl⟩
    rw [hb1041]
    have HNb1041 := hid hb1041
    clear hb1041
    refine hK.out _ _ ?_ (fun hHeld2 => ?_)
    focus ((try dsimp only); (exact ⟨H1038.out.cell 0 rfl 0 rfl, H1038.out.cell 0 rfl 1 rfl⟩))
    clear hK K
    try simp only [Act.put, p1, p2, p3, p4, p5, p6]
    clear hHeld
    have hHeld := hHeld2
    clear hHeld2
    cases b1041
    · skip
      refine tkA 6 ?_
      try simp only [Act.put, p1, p2, p3, p4, p5, p6]
      refine tkA 7 ?_
      try simp only [Act.put, p1, p2, p3, p4, p5, p6]
      refine tkU 8 ?_
      try simp only [Act.put, p1, p2, p3, p4, p5, p6]
      refine tkU 9 ?_
      try simp only [Act.put, p1, p2, p3, p4, p5, p6]
      refine tkU 10 ?_
      try simp only [Act.put, p1, p2, p3, p4, p5, p6]
      refine tkA 11 ?_
      try simp only [Act.put, p1, p2, p3, p4, p5, p6]
      refine wpAnyH_ready (rs := [12]) (by kernel_rfl) (by simp) (AllReadyH.cons (o := _) rfl (fun K hK => ?_) AllReadyH.nil)
      have z1042 := H1038.out.cell 1 rfl 0 rfl
      have z1043 := H1038.out.free 1 rfl 0
      have z1044 := H1038.out.cell 1 rfl 1 rfl
      have z1045 := H1038.out.free 1 rfl 1
      have H1046 := hid (show St B W [.cells D1018 #[.int .i64 lo1027, .int .i64 hi1028] 99, .cells (B + 1 + 1 + 1) #[.int .i64 lo1027, .int .i64 hi1028] 99, .cells (B + 1 + 1) #[.int .i64 yl, .int .i64 yh] 99, .cells (B + 1) #[.int .i64 xl, .int .i64 xh] 99, .cells B #[.int .i64 5, .int .i64 g] 60] [] ((k1039.setCell ⟨B + 1 + 1 + 1, 0, none⟩ (.int .i64 lo1027)).setCell ⟨B + 1 + 1 + 1, 1, none⟩ (.int .i64 hi1028)) from ((H1038.out.set 1 rfl 0 (.int .i64 lo1027)).set 1 rfl 1 (.int .i64 hi1028)))
      go_simp
      refine hK.out _ _ ?_ (fun hHeld2 => ?_)
      focus ((try dsimp only); (exact ⟨H1046.out.cell 0 rfl 0 rfl, H1046.out.cell 0 rfl 1 rfl⟩))
      clear hK K hHeld
      try simp only [Act.put, p1, p2, p3, p4, p5, p6]
      clear z1042 z1043 z1044 z1045
      generalize ((k1039.setCell ⟨B + 1 + 1 + 1, 0, none⟩ (.int .i64 lo1027)).setCell ⟨B + 1 + 1 + 1, 1, none⟩ (.int .i64 hi1028)) = k1047 at *
      have hHeld := hHeld2
      clear hHeld2
      refine tkA 13 ?_
      try simp only [Act.put, p1, p2, p3, p4, p5, p6]
      refine wpAnyH_done (by kernel_rfl) ?_ _
      try clear hHeld
      have z1048 := H1046.out.cell 1 rfl 0 rfl
      have z1049 := H1046.out.cell 1 rfl 1 rfl
      go_wp2_with fail
      clear z1048 z1049
      have hpk := hid (show pwIok 5 g (xl, xh) (yl, yh) a b = false from by unfold pwIok; rw [(show (pwInt 5 g (xl, xh) (yl, yh) a b).1 = lo1027 from (by first | exact (HLH.out rfl).1.symm | exact (HLH.out trivial).1.symm | exact HLH.out.1.symm)), (show (pwInt 5 g (xl, xh) (yl, yh) a b).2 = hi1028 from (by first | exact (HLH.out rfl).2.symm | exact (HLH.out trivial).2.symm | exact HLH.out.2.symm)), HNb1041.out, HNb1031.out]; rfl)
      have q1050 := H1046.out.cell 1 rfl 0 rfl
      have q1051 := H1046.out.cell 1 rfl 1 rfl
      refine bodyPost_ret (v := .tuple #[.agg #[.int .i64 lo1027, .int .i64 hi1028], .bool false]) ?_ rfl ⟨⟨_, _, by rw [hpk.out], fun _ => ⟨(show (pwInt 5 g (xl, xh) (yl, yh) a b).1 = lo1027 from (by first | exact (HLH.out rfl).1.symm | exact (HLH.out trivial).1.symm | exact HLH.out.1.symm)).symm, (show (pwInt 5 g (xl, xh) (yl, yh) a b).2 = hi1028 from (by first | exact (HLH.out rfl).2.symm | exact (HLH.out trivial).2.symm | exact HLH.out.2.symm)).symm⟩⟩, by first | exact H1046.out.below | exact H1046.out.below'⟩
      simp [results, Try.results73, go_sem, q1050, q1051]
    · skip
      refine tkA 6 ?_
      try simp only [Act.put, p1, p2, p3, p4, p5, p6]
      refine tkA 7 ?_
      try simp only [Act.put, p1, p2, p3, p4, p5, p6]
      refine tkA 8 ?_
      try simp only [Act.put, p1, p2, p3, p4, p5, p6]
      refine tkA 9 ?_
      try simp only [Act.put, p1, p2, p3, p4, p5, p6]
      refine wpAnyH_ready (rs := [10]) (by kernel_rfl) (by simp) (AllReadyH.cons (o := _) rfl (fun K hK => ?_) AllReadyH.nil)
      go_simp
      go_at_call 121
      refine (racc_any _ _).mono ?_
      rintro e w1052 ⟨rfl, hsw⟩
      have hsw2 : k1039 = w1052 := by first | exact hsw | exact hsw.symm
      clear hsw
      subst hsw2
      obtain ⟨b1053, hb1053⟩ : ∃ xx', accOk hi1028 = xx' := ⟨_, rfl⟩
      rw [hb1053]
      have HNb1053 := hid hb1053
      clear hb1053
      refine hK.out _ _ ?_ (fun hHeld2 => ?_)
      focus ((try dsimp only); (exact ⟨H1038.out.cell 0 rfl 0 rfl, H1038.out.cell 0 rfl 1 rfl⟩))
      clear hK K
      try simp only [Act.put, p1, p2, p3, p4, p5, p6]
      clear hHeld
      have hHeld := hHeld2
      clear hHeld2
      refine tkA 11 ?_
      try simp only [Act.put, p1, p2, p3, p4, p5, p6]
      refine wpAnyH_ready (rs := [12]) (by kernel_rfl) (by simp) (AllReadyH.cons (o := _) rfl (fun K hK => ?_) AllReadyH.nil)
      have z1054 := H1038.out.cell 1 rfl 0 rfl
      have z1055 := H1038.out.free 1 rfl 0
      have z1056 := H1038.out.cell 1 rfl 1 rfl
      have z1057 := H1038.out.free 1 rfl 1
      have H1058 := hid (show St B W [.cells D1018 #[.int .i64 lo1027, .int .i64 hi1028] 99, .cells (B + 1 + 1 + 1) #[.int .i64 lo1027, .int .i64 hi1028] 99, .cells (B + 1 + 1) #[.int .i64 yl, .int .i64 yh] 99, .cells (B + 1) #[.int .i64 xl, .int .i64 xh] 99, .cells B #[.int .i64 5, .int .i64 g] 60] [] ((k1039.setCell ⟨B + 1 + 1 + 1, 0, none⟩ (.int .i64 lo1027)).setCell ⟨B + 1 + 1 + 1, 1, none⟩ (.int .i64 hi1028)) from ((H1038.out.set 1 rfl 0 (.int .i64 lo1027)).set 1 rfl 1 (.int .i64 hi1028)))
      go_simp
      refine hK.out _ _ ?_ (fun hHeld2 => ?_)
      focus ((try dsimp only); (exact ⟨H1058.out.cell 0 rfl 0 rfl, H1058.out.cell 0 rfl 1 rfl⟩))
      clear hK K hHeld
      try simp only [Act.put, p1, p2, p3, p4, p5, p6]
      clear z1054 z1055 z1056 z1057
      generalize ((k1039.setCell ⟨B + 1 + 1 + 1, 0, none⟩ (.int .i64 lo1027)).setCell ⟨B + 1 + 1 + 1, 1, none⟩ (.int .i64 hi1028)) = k1059 at *
      have hHeld := hHeld2
      clear hHeld2
      refine tkA 13 ?_
      try simp only [Act.put, p1, p2, p3, p4, p5, p6]
      refine wpAnyH_done (by kernel_rfl) ?_ _
      try clear hHeld
      have z1060 := H1058.out.cell 1 rfl 0 rfl
      have z1061 := H1058.out.cell 1 rfl 1 rfl
      go_wp2_with fail
      clear z1060 z1061
      have hpk := hid (show pwIok 5 g (xl, xh) (yl, yh) a b = b1053 from by unfold pwIok; rw [(show (pwInt 5 g (xl, xh) (yl, yh) a b).1 = lo1027 from (by first | exact (HLH.out rfl).1.symm | exact (HLH.out trivial).1.symm | exact HLH.out.1.symm)), (show (pwInt 5 g (xl, xh) (yl, yh) a b).2 = hi1028 from (by first | exact (HLH.out rfl).2.symm | exact (HLH.out trivial).2.symm | exact HLH.out.2.symm)), HNb1041.out, HNb1053.out, HNb1031.out]; rfl)
      have q1062 := H1058.out.cell 1 rfl 0 rfl
      have q1063 := H1058.out.cell 1 rfl 1 rfl
      refine bodyPost_ret (v := .tuple #[.agg #[.int .i64 lo1027, .int .i64 hi1028], .bool b1053]) ?_ rfl ⟨⟨_, _, by rw [hpk.out], fun _ => ⟨(show (pwInt 5 g (xl, xh) (yl, yh) a b).1 = lo1027 from (by first | exact (HLH.out rfl).1.symm | exact (HLH.out trivial).1.symm | exact HLH.out.1.symm)).symm, (show (pwInt 5 g (xl, xh) (yl, yh) a b).2 = hi1028 from (by first | exact (HLH.out rfl).2.symm | exact (HLH.out trivial).2.symm | exact HLH.out.2.symm)).symm⟩⟩, by first | exact H1058.out.below | exact H1058.out.below'⟩
      simp [results, Try.results73, go_sem, q1062, q1063]
  | false =>
    have z1064 := H1030.out.cell 0 rfl 0 rfl
    have z1065 := H1030.out.free 0 rfl 0
    have z1066 := H1030.out.cell 0 rfl 1 rfl
    have z1067 := H1030.out.free 0 rfl 1
    go_upto_region 27 with fail
    clear z1064 z1065 z1066 z1067
    have H1068 := hid (show St B W [.cells D1018 #[.int .i64 lo1027, .int .i64 hi1028] 99, .cells (B + 1 + 1 + 1) #[.int .i64 0, .int .i64 0] 99, .cells (B + 1 + 1) #[.int .i64 yl, .int .i64 yh] 99, .cells (B + 1) #[.int .i64 xl, .int .i64 xh] 99, .cells B #[.int .i64 5, .int .i64 g] 60] [] ((w1029.setCell ⟨D1018, 0, none⟩ (.int .i64 lo1027)).setCell ⟨D1018, 1, none⟩ (.int .i64 hi1028)) from ((H1030.out.set 0 rfl 0 (.int .i64 lo1027)).set 0 rfl 1 (.int .i64 hi1028)))
    first | refine gen_code H1068.out ?_ | refine gen_list H1068.out ?_ | refine gen_calls H1068.out ?_
    intro w1069 hG
    clear H1068
    have H1068 := hid hG
    clear hG
    have H1070 := hid H1068.out.drew
    refine wp_region_held_drew (S := (fun w' => w'.cell? ⟨D1018, 0, none⟩ = some (.int .i64 lo1027) ∧ w'.cell? ⟨D1018, 1, none⟩ = some (.int .i64 hi1028))) (by kernel_rfl) ⟨H1070.out.cell 0 rfl 0 rfl, H1070.out.cell 0 rfl 1 rfl⟩ (fun hHeld => ?_)
    generalize w1069.drew = k1071 at *
    refine tkA 0 ?_
    try simp only [Act.put, p1, p2, p3, p4, p5, p6]
    refine tkA 1 ?_
    try simp only [Act.put, p1, p2, p3, p4, p5, p6]
    refine tkA 2 ?_
    try simp only [Act.put, p1, p2, p3, p4, p5, p6]
    refine tkU 3 ?_
    try simp only [Act.put, p1, p2, p3, p4, p5, p6]
    refine tkU 4 ?_
    try simp only [Act.put, p1, p2, p3, p4, p5, p6]
    refine tkU 5 ?_
    try simp only [Act.put, p1, p2, p3, p4, p5, p6]
    refine tkA 6 ?_
    try simp only [Act.put, p1, p2, p3, p4, p5, p6]
    refine tkA 7 ?_
    try simp only [Act.put, p1, p2, p3, p4, p5, p6]
    refine tkU 8 ?_
    try simp only [Act.put, p1, p2, p3, p4, p5, p6]
    refine tkU 9 ?_
    try simp only [Act.put, p1, p2, p3, p4, p5, p6]
    refine tkU 10 ?_
    try simp only [Act.put, p1, p2, p3, p4, p5, p6]
    refine tkA 11 ?_
    try simp only [Act.put, p1, p2, p3, p4, p5, p6]
    refine wpAnyH_ready (rs := [12]) (by kernel_rfl) (by simp) (AllReadyH.cons (o := _) rfl (fun K hK => ?_) AllReadyH.nil)
    have z1072 := H1070.out.cell 1 rfl 0 rfl
    have z1073 := H1070.out.free 1 rfl 0
    have z1074 := H1070.out.cell 1 rfl 1 rfl
    have z1075 := H1070.out.free 1 rfl 1
    have H1076 := hid (show St B W [.cells D1018 #[.int .i64 lo1027, .int .i64 hi1028] 99, .cells (B + 1 + 1 + 1) #[.int .i64 lo1027, .int .i64 hi1028] 99, .cells (B + 1 + 1) #[.int .i64 yl, .int .i64 yh] 99, .cells (B + 1) #[.int .i64 xl, .int .i64 xh] 99, .cells B #[.int .i64 5, .int .i64 g] 60] [] ((k1071.setCell ⟨B + 1 + 1 + 1, 0, none⟩ (.int .i64 lo1027)).setCell ⟨B + 1 + 1 + 1, 1, none⟩ (.int .i64 hi1028)) from ((H1070.out.set 1 rfl 0 (.int .i64 lo1027)).set 1 rfl 1 (.int .i64 hi1028)))
    go_simp
    refine hK.out _ _ ?_ (fun hHeld2 => ?_)
    focus ((try dsimp only); (exact ⟨H1076.out.cell 0 rfl 0 rfl, H1076.out.cell 0 rfl 1 rfl⟩))
    clear hK K hHeld
    try simp only [Act.put, p1, p2, p3, p4, p5, p6]
    clear z1072 z1073 z1074 z1075
    generalize ((k1071.setCell ⟨B + 1 + 1 + 1, 0, none⟩ (.int .i64 lo1027)).setCell ⟨B + 1 + 1 + 1, 1, none⟩ (.int .i64 hi1028)) = k1077 at *
    have hHeld := hHeld2
    clear hHeld2
    refine tkA 13 ?_
    try simp only [Act.put, p1, p2, p3, p4, p5, p6]
    refine wpAnyH_done (by kernel_rfl) ?_ _
    try clear hHeld
    have z1078 := H1076.out.cell 1 rfl 0 rfl
    have z1079 := H1076.out.cell 1 rfl 1 rfl
    go_wp2_with fail
    clear z1078 z1079
    have q1080 := H1076.out.cell 1 rfl 0 rfl
    have q1081 := H1076.out.cell 1 rfl 1 rfl
    refine bodyPost_ret (v := .tuple #[.agg #[.int .i64 lo1027, .int .i64 hi1028], .bool false]) ?_ rfl ⟨⟨_, _, by rw [show pwIok 5 g (xl, xh) (yl, yh) a b = false from by unfold pwIok; rw [if_pos rfl, HNb1031.out]; rfl], fun h => by rw [show pwIok 5 g (xl, xh) (yl, yh) a b = false from by unfold pwIok; rw [if_pos rfl, HNb1031.out]; rfl] at h; cases h⟩, by first | exact H1076.out.below | exact H1076.out.below'⟩
    simp [results, Try.results73, go_sem, q1080, q1081]

set_option maxRecDepth 100000 in
set_option maxHeartbeats 3200000 in
theorem rnext_any_6 (g xl xh yl yh a b : Int) (W : World) (hxl : accOk xl = true) (hxh : accOk xh = true) (hyl : accOk yl = true) (hyh : accOk yh = true) : Calls Try.prog 73 #[.agg #[.int .i64 6, .int .i64 g], .agg #[.int .i64 xl, .int .i64 xh], .agg #[.int .i64 yl, .int .i64 yh], .int .i64 a, .int .i64 b] W fun e w' => (∃ lo hi, e = .returned (.tuple #[.agg #[.int .i64 lo, .int .i64 hi], .bool (pwIok 6 g (xl, xh) (yl, yh) a b)]) ∧ (pwIok 6 g (xl, xh) (yl, yh) a b = true → lo = (pwInt 6 g (xl, xh) (yl, yh) a b).1 ∧ hi = (pwInt 6 g (xl, xh) (yl, yh) a b).2)) ∧ Below W.heap.size W w' := by
  obtain ⟨xl1, xl2⟩ := accOk_iff.1 hxl
  obtain ⟨xh1, xh2⟩ := accOk_iff.1 hxh
  obtain ⟨yl1, yl2⟩ := accOk_iff.1 hyl
  obtain ⟨yh1, yh2⟩ := accOk_iff.1 hyh
  obtain ⟨B, hB⟩ : ∃ B, W.heap.size = B := ⟨_, rfl⟩
  have HI0 := hid (St.init hB)
  go_enter Try.func73, Try.ntmps73
  go_upto_region 1 with fail
  have H1082 := hid (show St B W [.cells (B + 1 + 1 + 1) #[.int .i64 0, .int .i64 0] 99, .cells (B + 1 + 1) #[.int .i64 yl, .int .i64 yh] 99, .cells (B + 1) #[.int .i64 xl, .int .i64 xh] 99, .cells B #[.int .i64 6, .int .i64 g] 60] [] ((((W.alloc (.cells #[.int .i64 6, .int .i64 g] 60)).alloc (.cells #[.int .i64 xl, .int .i64 xh] 99)).alloc (.cells #[.int .i64 yl, .int .i64 yh] 99)).alloc (.cells #[.int .i64 0, .int .i64 0] 99)) from ((((HI0.out.alloc #[.int .i64 6, .int .i64 g] 60 hB).alloc #[.int .i64 xl, .int .i64 xh] 99 (by first | exact hB | simp [hB])).alloc #[.int .i64 yl, .int .i64 yh] 99 (by first | exact hB | simp [hB])).alloc #[.int .i64 0, .int .i64 0] 99 (by first | exact hB | simp [hB])))
  first | refine gen_code H1082.out ?_ | refine gen_list H1082.out ?_ | refine gen_calls H1082.out ?_
  intro w1083 hG
  clear H1082
  have H1082 := hid hG
  clear hG
  obtain ⟨mg, hmg⟩ : ∃ zz : Int, (if absI xl < absI xh then absI xh else absI xl) = zz := ⟨_, rfl⟩
  have H1084 := hid H1082.out.drew
  refine wp_region_held_drew (S := (fun w' => w'.cell? ⟨B + 1, 0, none⟩ = some (.int .i64 xl) ∧ w'.cell? ⟨B + 1, 1, none⟩ = some (.int .i64 xh))) (by kernel_rfl) ⟨H1084.out.cell 2 rfl 0 rfl, H1084.out.cell 2 rfl 1 rfl⟩ (fun hHeld => ?_)
  generalize w1083.drew = k1085 at *
  refine tkA 0 ?_
  try simp only [Act.put, p1, p2, p3, p4, p5, p6]
  refine tkA 1 ?_
  try simp only [Act.put, p1, p2, p3, p4, p5, p6]
  refine tkA 3 ?_
  try simp only [Act.put, p1, p2, p3, p4, p5, p6]
  refine tkA 4 ?_
  try simp only [Act.put, p1, p2, p3, p4, p5, p6]
  refine wpAnyH_ready (rs := [2]) (by kernel_rfl) (by simp) (AllReadyH.cons (o := _) rfl (fun K hK => ?_) AllReadyH.nil)
  go_simp
  go_at_call 118
  refine (rabs_any _ (by omega) _).mono ?_
  rintro e w1086 ⟨rfl, hsw⟩
  have hsw2 : k1085 = w1086 := by first | exact hsw | exact hsw.symm
  clear hsw
  subst hsw2
  refine hK.out _ _ ?_ (fun hHeld2 => ?_)
  focus ((try dsimp only); (exact ⟨H1084.out.cell 2 rfl 0 rfl, H1084.out.cell 2 rfl 1 rfl⟩))
  clear hK K
  try simp only [Act.put, p1, p2, p3, p4, p5, p6]
  clear hHeld
  have hHeld := hHeld2
  clear hHeld2
  refine wpAnyH_ready (rs := [5]) (by kernel_rfl) (by simp) (AllReadyH.cons (o := _) rfl (fun K hK => ?_) AllReadyH.nil)
  go_simp
  go_at_call 118
  refine (rabs_any _ (by omega) _).mono ?_
  rintro e w1087 ⟨rfl, hsw⟩
  have hsw2 : k1085 = w1087 := by first | exact hsw | exact hsw.symm
  clear hsw
  subst hsw2
  refine hK.out _ _ ?_ (fun hHeld2 => ?_)
  focus ((try dsimp only); (exact ⟨H1084.out.cell 2 rfl 0 rfl, H1084.out.cell 2 rfl 1 rfl⟩))
  clear hK K
  try simp only [Act.put, p1, p2, p3, p4, p5, p6]
  clear hHeld
  have hHeld := hHeld2
  clear hHeld2
  refine tkA 6 ?_
  try simp only [Act.put, p1, p2, p3, p4, p5, p6]
  refine tkA 7 ?_
  try simp only [Act.put, p1, p2, p3, p4, p5, p6]
  refine wpAnyH_done (by kernel_rfl) ?_ _
  try clear hHeld
  have HMG := hid (show mxI (absI xl) (absI xh) = mg from hmg)
  clear hmg
  obtain ⟨mga, mgb⟩ : 0 ≤ mg ∧ mg ≤ 17592186044416 := by rw [← HMG.out]; exact mag_bd hxl hxh
  have mgw : IntKind.i64.wrap (-mg) = -mg := IntWalk.i64_in _ (by omega)
  obtain ⟨D1088, hD1088⟩ : ∃ D, k1085.heap.size = D := ⟨_, rfl⟩
  go_upto_region 3 with fail
  have H1089 := hid (show St B W [.cells D1088 #[.int .i64 0, .int .i64 0] 99, .cells (B + 1 + 1 + 1) #[.int .i64 0, .int .i64 0] 99, .cells (B + 1 + 1) #[.int .i64 yl, .int .i64 yh] 99, .cells (B + 1) #[.int .i64 xl, .int .i64 xh] 99, .cells B #[.int .i64 6, .int .i64 g] 60] [] (k1085.alloc (.cells #[.int .i64 0, .int .i64 0] 99)) from (H1084.out.alloc #[.int .i64 0, .int .i64 0] 99 hD1088))
  first | refine gen_code H1089.out ?_ | refine gen_list H1089.out ?_ | refine gen_calls H1089.out ?_
  intro w1090 hG
  clear H1089
  have H1089 := hid hG
  clear hG
  clear hD1088
  obtain ⟨m1091, hm1091⟩ : ∃ zz : Int, (if yl < xl then yl else xl) = zz := ⟨_, rfl⟩
  obtain ⟨m1092, hm1092⟩ : ∃ zz : Int, (if yh < xh then yh else xh) = zz := ⟨_, rfl⟩
  have z1093 := H1089.out.cell 4 rfl 0 rfl
  have z1094 := H1089.out.cell 4 rfl 1 rfl
  have z1095 := H1089.out.cell 3 rfl 0 rfl
  have z1096 := H1089.out.cell 3 rfl 1 rfl
  have z1097 := H1089.out.cell 2 rfl 0 rfl
  have z1098 := H1089.out.cell 2 rfl 1 rfl
  have z1099 := H1089.out.cell 0 rfl 0 rfl
  have z1100 := H1089.out.free 0 rfl 0
  have z1101 := H1089.out.cell 0 rfl 1 rfl
  have z1102 := H1089.out.free 0 rfl 1
  go_upto_region 27 with fail
  clear z1093 z1094 z1095 z1096 z1097 z1098 z1099 z1100 z1101 z1102
  have HNm1091 := hid hm1091
  clear hm1091
  have HNm1092 := hid hm1092
  clear hm1092
  have H1103 := hid (show St B W [.cells D1088 #[.int .i64 m1091, .int .i64 m1092] 99, .cells (B + 1 + 1 + 1) #[.int .i64 0, .int .i64 0] 99, .cells (B + 1 + 1) #[.int .i64 yl, .int .i64 yh] 99, .cells (B + 1) #[.int .i64 xl, .int .i64 xh] 99, .cells B #[.int .i64 6, .int .i64 g] 60] [] ((w1090.setCell ⟨D1088, 0, none⟩ (.int .i64 m1091)).setCell ⟨D1088, 1, none⟩ (.int .i64 m1092)) from ((H1089.out.set 0 rfl 0 (.int .i64 m1091)).set 0 rfl 1 (.int .i64 m1092)))
  first | refine gen_code H1103.out ?_ | refine gen_list H1103.out ?_ | refine gen_calls H1103.out ?_
  intro w1104 hG
  clear H1103
  have H1103 := hid hG
  clear hG
  have H1105 := hid H1103.out.drew
  refine wp_region_held_drew (S := (fun w' => w'.cell? ⟨D1088, 0, none⟩ = some (.int .i64 m1091) ∧ w'.cell? ⟨D1088, 1, none⟩ = some (.int .i64 m1092))) (by kernel_rfl) ⟨H1105.out.cell 0 rfl 0 rfl, H1105.out.cell 0 rfl 1 rfl⟩ (fun hHeld => ?_)
  generalize w1104.drew = k1106 at *
  refine tkA 0 ?_
  try simp only [Act.put, p1, p2, p3, p4, p5, p6]
  refine tkA 1 ?_
  try simp only [Act.put, p1, p2, p3, p4, p5, p6]
  refine tkA 2 ?_
  try simp only [Act.put, p1, p2, p3, p4, p5, p6]
  refine tkA 3 ?_
  try simp only [Act.put, p1, p2, p3, p4, p5, p6]
  refine tkA 4 ?_
  try simp only [Act.put, p1, p2, p3, p4, p5, p6]
  refine wpAnyH_ready (rs := [5]) (by kernel_rfl) (by simp) (AllReadyH.cons (o := _) rfl (fun K hK => ?_) AllReadyH.nil)
  go_simp
  go_at_call 121
  refine (racc_any _ _).mono ?_
  rintro e w1107 ⟨rfl, hsw⟩
  have hsw2 : k1106 = w1107 := by first | exact hsw | exact hsw.symm
  clear hsw
  subst hsw2
  obtain ⟨b1108, hb1108⟩ : ∃ xx', accOk m1091 = xx' := ⟨_, rfl⟩
  rw [hb1108]
  have HNb1108 := hid hb1108
  clear hb1108
  refine hK.out _ _ ?_ (fun hHeld2 => ?_)
  focus ((try dsimp only); (exact ⟨H1105.out.cell 0 rfl 0 rfl, H1105.out.cell 0 rfl 1 rfl⟩))
  clear hK K
  try simp only [Act.put, p1, p2, p3, p4, p5, p6]
  clear hHeld
  have hHeld := hHeld2
  clear hHeld2
  cases b1108
  · skip
    refine tkA 6 ?_
    try simp only [Act.put, p1, p2, p3, p4, p5, p6]
    refine tkA 7 ?_
    try simp only [Act.put, p1, p2, p3, p4, p5, p6]
    refine tkU 8 ?_
    try simp only [Act.put, p1, p2, p3, p4, p5, p6]
    refine tkU 9 ?_
    try simp only [Act.put, p1, p2, p3, p4, p5, p6]
    refine tkU 10 ?_
    try simp only [Act.put, p1, p2, p3, p4, p5, p6]
    refine tkA 11 ?_
    try simp only [Act.put, p1, p2, p3, p4, p5, p6]
    refine wpAnyH_ready (rs := [12]) (by kernel_rfl) (by simp) (AllReadyH.cons (o := _) rfl (fun K hK => ?_) AllReadyH.nil)
    have z1109 := H1105.out.cell 1 rfl 0 rfl
    have z1110 := H1105.out.free 1 rfl 0
    have z1111 := H1105.out.cell 1 rfl 1 rfl
    have z1112 := H1105.out.free 1 rfl 1
    have H1113 := hid (show St B W [.cells D1088 #[.int .i64 m1091, .int .i64 m1092] 99, .cells (B + 1 + 1 + 1) #[.int .i64 m1091, .int .i64 m1092] 99, .cells (B + 1 + 1) #[.int .i64 yl, .int .i64 yh] 99, .cells (B + 1) #[.int .i64 xl, .int .i64 xh] 99, .cells B #[.int .i64 6, .int .i64 g] 60] [] ((k1106.setCell ⟨B + 1 + 1 + 1, 0, none⟩ (.int .i64 m1091)).setCell ⟨B + 1 + 1 + 1, 1, none⟩ (.int .i64 m1092)) from ((H1105.out.set 1 rfl 0 (.int .i64 m1091)).set 1 rfl 1 (.int .i64 m1092)))
    go_simp
    refine hK.out _ _ ?_ (fun hHeld2 => ?_)
    focus ((try dsimp only); (exact ⟨H1113.out.cell 0 rfl 0 rfl, H1113.out.cell 0 rfl 1 rfl⟩))
    clear hK K hHeld
    try simp only [Act.put, p1, p2, p3, p4, p5, p6]
    clear z1109 z1110 z1111 z1112
    generalize ((k1106.setCell ⟨B + 1 + 1 + 1, 0, none⟩ (.int .i64 m1091)).setCell ⟨B + 1 + 1 + 1, 1, none⟩ (.int .i64 m1092)) = k1114 at *
    have hHeld := hHeld2
    clear hHeld2
    refine tkA 13 ?_
    try simp only [Act.put, p1, p2, p3, p4, p5, p6]
    refine wpAnyH_done (by kernel_rfl) ?_ _
    try clear hHeld
    have z1115 := H1113.out.cell 1 rfl 0 rfl
    have z1116 := H1113.out.cell 1 rfl 1 rfl
    go_wp2_with fail
    clear z1115 z1116
    have hpk := hid (show pwIok 6 g (xl, xh) (yl, yh) a b = false from by unfold pwIok; rw [(show (pwInt 6 g (xl, xh) (yl, yh) a b).1 = m1091 from by rw [← HNm1091.out]; rfl), (show (pwInt 6 g (xl, xh) (yl, yh) a b).2 = m1092 from by rw [← HNm1092.out]; rfl), HNb1108.out]; rfl)
    have q1117 := H1113.out.cell 1 rfl 0 rfl
    have q1118 := H1113.out.cell 1 rfl 1 rfl
    refine bodyPost_ret (v := .tuple #[.agg #[.int .i64 m1091, .int .i64 m1092], .bool false]) ?_ rfl ⟨⟨_, _, by rw [hpk.out], fun _ => ⟨(show (pwInt 6 g (xl, xh) (yl, yh) a b).1 = m1091 from by rw [← HNm1091.out]; rfl).symm, (show (pwInt 6 g (xl, xh) (yl, yh) a b).2 = m1092 from by rw [← HNm1092.out]; rfl).symm⟩⟩, by first | exact H1113.out.below | exact H1113.out.below'⟩
    simp [results, Try.results73, go_sem, q1117, q1118]
  · skip
    refine tkA 6 ?_
    try simp only [Act.put, p1, p2, p3, p4, p5, p6]
    refine tkA 7 ?_
    try simp only [Act.put, p1, p2, p3, p4, p5, p6]
    refine tkA 8 ?_
    try simp only [Act.put, p1, p2, p3, p4, p5, p6]
    refine tkA 9 ?_
    try simp only [Act.put, p1, p2, p3, p4, p5, p6]
    refine wpAnyH_ready (rs := [10]) (by kernel_rfl) (by simp) (AllReadyH.cons (o := _) rfl (fun K hK => ?_) AllReadyH.nil)
    go_simp
    go_at_call 121
    refine (racc_any _ _).mono ?_
    rintro e w1119 ⟨rfl, hsw⟩
    have hsw2 : k1106 = w1119 := by first | exact hsw | exact hsw.symm
    clear hsw
    subst hsw2
    obtain ⟨b1120, hb1120⟩ : ∃ xx', accOk m1092 = xx' := ⟨_, rfl⟩
    rw [hb1120]
    have HNb1120 := hid hb1120
    clear hb1120
    refine hK.out _ _ ?_ (fun hHeld2 => ?_)
    focus ((try dsimp only); (exact ⟨H1105.out.cell 0 rfl 0 rfl, H1105.out.cell 0 rfl 1 rfl⟩))
    clear hK K
    try simp only [Act.put, p1, p2, p3, p4, p5, p6]
    clear hHeld
    have hHeld := hHeld2
    clear hHeld2
    refine tkA 11 ?_
    try simp only [Act.put, p1, p2, p3, p4, p5, p6]
    refine wpAnyH_ready (rs := [12]) (by kernel_rfl) (by simp) (AllReadyH.cons (o := _) rfl (fun K hK => ?_) AllReadyH.nil)
    have z1121 := H1105.out.cell 1 rfl 0 rfl
    have z1122 := H1105.out.free 1 rfl 0
    have z1123 := H1105.out.cell 1 rfl 1 rfl
    have z1124 := H1105.out.free 1 rfl 1
    have H1125 := hid (show St B W [.cells D1088 #[.int .i64 m1091, .int .i64 m1092] 99, .cells (B + 1 + 1 + 1) #[.int .i64 m1091, .int .i64 m1092] 99, .cells (B + 1 + 1) #[.int .i64 yl, .int .i64 yh] 99, .cells (B + 1) #[.int .i64 xl, .int .i64 xh] 99, .cells B #[.int .i64 6, .int .i64 g] 60] [] ((k1106.setCell ⟨B + 1 + 1 + 1, 0, none⟩ (.int .i64 m1091)).setCell ⟨B + 1 + 1 + 1, 1, none⟩ (.int .i64 m1092)) from ((H1105.out.set 1 rfl 0 (.int .i64 m1091)).set 1 rfl 1 (.int .i64 m1092)))
    go_simp
    refine hK.out _ _ ?_ (fun hHeld2 => ?_)
    focus ((try dsimp only); (exact ⟨H1125.out.cell 0 rfl 0 rfl, H1125.out.cell 0 rfl 1 rfl⟩))
    clear hK K hHeld
    try simp only [Act.put, p1, p2, p3, p4, p5, p6]
    clear z1121 z1122 z1123 z1124
    generalize ((k1106.setCell ⟨B + 1 + 1 + 1, 0, none⟩ (.int .i64 m1091)).setCell ⟨B + 1 + 1 + 1, 1, none⟩ (.int .i64 m1092)) = k1126 at *
    have hHeld := hHeld2
    clear hHeld2
    refine tkA 13 ?_
    try simp only [Act.put, p1, p2, p3, p4, p5, p6]
    refine wpAnyH_done (by kernel_rfl) ?_ _
    try clear hHeld
    have z1127 := H1125.out.cell 1 rfl 0 rfl
    have z1128 := H1125.out.cell 1 rfl 1 rfl
    go_wp2_with fail
    clear z1127 z1128
    have hpk := hid (show pwIok 6 g (xl, xh) (yl, yh) a b = b1120 from by unfold pwIok; rw [(show (pwInt 6 g (xl, xh) (yl, yh) a b).1 = m1091 from by rw [← HNm1091.out]; rfl), (show (pwInt 6 g (xl, xh) (yl, yh) a b).2 = m1092 from by rw [← HNm1092.out]; rfl), HNb1108.out, HNb1120.out]; rfl)
    have q1129 := H1125.out.cell 1 rfl 0 rfl
    have q1130 := H1125.out.cell 1 rfl 1 rfl
    refine bodyPost_ret (v := .tuple #[.agg #[.int .i64 m1091, .int .i64 m1092], .bool b1120]) ?_ rfl ⟨⟨_, _, by rw [hpk.out], fun _ => ⟨(show (pwInt 6 g (xl, xh) (yl, yh) a b).1 = m1091 from by rw [← HNm1091.out]; rfl).symm, (show (pwInt 6 g (xl, xh) (yl, yh) a b).2 = m1092 from by rw [← HNm1092.out]; rfl).symm⟩⟩, by first | exact H1125.out.below | exact H1125.out.below'⟩
    simp [results, Try.results73, go_sem, q1129, q1130]

set_option maxRecDepth 100000 in
set_option maxHeartbeats 3200000 in
theorem rnext_any_7 (g xl xh yl yh a b : Int) (W : World) (hxl : accOk xl = true) (hxh : accOk xh = true) (hyl : accOk yl = true) (hyh : accOk yh = true) : Calls Try.prog 73 #[.agg #[.int .i64 7, .int .i64 g], .agg #[.int .i64 xl, .int .i64 xh], .agg #[.int .i64 yl, .int .i64 yh], .int .i64 a, .int .i64 b] W fun e w' => (∃ lo hi, e = .returned (.tuple #[.agg #[.int .i64 lo, .int .i64 hi], .bool (pwIok 7 g (xl, xh) (yl, yh) a b)]) ∧ (pwIok 7 g (xl, xh) (yl, yh) a b = true → lo = (pwInt 7 g (xl, xh) (yl, yh) a b).1 ∧ hi = (pwInt 7 g (xl, xh) (yl, yh) a b).2)) ∧ Below W.heap.size W w' := by
  obtain ⟨xl1, xl2⟩ := accOk_iff.1 hxl
  obtain ⟨xh1, xh2⟩ := accOk_iff.1 hxh
  obtain ⟨yl1, yl2⟩ := accOk_iff.1 hyl
  obtain ⟨yh1, yh2⟩ := accOk_iff.1 hyh
  obtain ⟨B, hB⟩ : ∃ B, W.heap.size = B := ⟨_, rfl⟩
  have HI0 := hid (St.init hB)
  go_enter Try.func73, Try.ntmps73
  go_upto_region 1 with fail
  have H1131 := hid (show St B W [.cells (B + 1 + 1 + 1) #[.int .i64 0, .int .i64 0] 99, .cells (B + 1 + 1) #[.int .i64 yl, .int .i64 yh] 99, .cells (B + 1) #[.int .i64 xl, .int .i64 xh] 99, .cells B #[.int .i64 7, .int .i64 g] 60] [] ((((W.alloc (.cells #[.int .i64 7, .int .i64 g] 60)).alloc (.cells #[.int .i64 xl, .int .i64 xh] 99)).alloc (.cells #[.int .i64 yl, .int .i64 yh] 99)).alloc (.cells #[.int .i64 0, .int .i64 0] 99)) from ((((HI0.out.alloc #[.int .i64 7, .int .i64 g] 60 hB).alloc #[.int .i64 xl, .int .i64 xh] 99 (by first | exact hB | simp [hB])).alloc #[.int .i64 yl, .int .i64 yh] 99 (by first | exact hB | simp [hB])).alloc #[.int .i64 0, .int .i64 0] 99 (by first | exact hB | simp [hB])))
  first | refine gen_code H1131.out ?_ | refine gen_list H1131.out ?_ | refine gen_calls H1131.out ?_
  intro w1132 hG
  clear H1131
  have H1131 := hid hG
  clear hG
  obtain ⟨mg, hmg⟩ : ∃ zz : Int, (if absI xl < absI xh then absI xh else absI xl) = zz := ⟨_, rfl⟩
  have H1133 := hid H1131.out.drew
  refine wp_region_held_drew (S := (fun w' => w'.cell? ⟨B + 1, 0, none⟩ = some (.int .i64 xl) ∧ w'.cell? ⟨B + 1, 1, none⟩ = some (.int .i64 xh))) (by kernel_rfl) ⟨H1133.out.cell 2 rfl 0 rfl, H1133.out.cell 2 rfl 1 rfl⟩ (fun hHeld => ?_)
  generalize w1132.drew = k1134 at *
  refine tkA 0 ?_
  try simp only [Act.put, p1, p2, p3, p4, p5, p6]
  refine tkA 1 ?_
  try simp only [Act.put, p1, p2, p3, p4, p5, p6]
  refine tkA 3 ?_
  try simp only [Act.put, p1, p2, p3, p4, p5, p6]
  refine tkA 4 ?_
  try simp only [Act.put, p1, p2, p3, p4, p5, p6]
  refine wpAnyH_ready (rs := [2]) (by kernel_rfl) (by simp) (AllReadyH.cons (o := _) rfl (fun K hK => ?_) AllReadyH.nil)
  go_simp
  go_at_call 118
  refine (rabs_any _ (by omega) _).mono ?_
  rintro e w1135 ⟨rfl, hsw⟩
  have hsw2 : k1134 = w1135 := by first | exact hsw | exact hsw.symm
  clear hsw
  subst hsw2
  refine hK.out _ _ ?_ (fun hHeld2 => ?_)
  focus ((try dsimp only); (exact ⟨H1133.out.cell 2 rfl 0 rfl, H1133.out.cell 2 rfl 1 rfl⟩))
  clear hK K
  try simp only [Act.put, p1, p2, p3, p4, p5, p6]
  clear hHeld
  have hHeld := hHeld2
  clear hHeld2
  refine wpAnyH_ready (rs := [5]) (by kernel_rfl) (by simp) (AllReadyH.cons (o := _) rfl (fun K hK => ?_) AllReadyH.nil)
  go_simp
  go_at_call 118
  refine (rabs_any _ (by omega) _).mono ?_
  rintro e w1136 ⟨rfl, hsw⟩
  have hsw2 : k1134 = w1136 := by first | exact hsw | exact hsw.symm
  clear hsw
  subst hsw2
  refine hK.out _ _ ?_ (fun hHeld2 => ?_)
  focus ((try dsimp only); (exact ⟨H1133.out.cell 2 rfl 0 rfl, H1133.out.cell 2 rfl 1 rfl⟩))
  clear hK K
  try simp only [Act.put, p1, p2, p3, p4, p5, p6]
  clear hHeld
  have hHeld := hHeld2
  clear hHeld2
  refine tkA 6 ?_
  try simp only [Act.put, p1, p2, p3, p4, p5, p6]
  refine tkA 7 ?_
  try simp only [Act.put, p1, p2, p3, p4, p5, p6]
  refine wpAnyH_done (by kernel_rfl) ?_ _
  try clear hHeld
  have HMG := hid (show mxI (absI xl) (absI xh) = mg from hmg)
  clear hmg
  obtain ⟨mga, mgb⟩ : 0 ≤ mg ∧ mg ≤ 17592186044416 := by rw [← HMG.out]; exact mag_bd hxl hxh
  have mgw : IntKind.i64.wrap (-mg) = -mg := IntWalk.i64_in _ (by omega)
  obtain ⟨D1137, hD1137⟩ : ∃ D, k1134.heap.size = D := ⟨_, rfl⟩
  go_upto_region 3 with fail
  have H1138 := hid (show St B W [.cells D1137 #[.int .i64 0, .int .i64 0] 99, .cells (B + 1 + 1 + 1) #[.int .i64 0, .int .i64 0] 99, .cells (B + 1 + 1) #[.int .i64 yl, .int .i64 yh] 99, .cells (B + 1) #[.int .i64 xl, .int .i64 xh] 99, .cells B #[.int .i64 7, .int .i64 g] 60] [] (k1134.alloc (.cells #[.int .i64 0, .int .i64 0] 99)) from (H1133.out.alloc #[.int .i64 0, .int .i64 0] 99 hD1137))
  first | refine gen_code H1138.out ?_ | refine gen_list H1138.out ?_ | refine gen_calls H1138.out ?_
  intro w1139 hG
  clear H1138
  have H1138 := hid hG
  clear hG
  clear hD1137
  obtain ⟨m1140, hm1140⟩ : ∃ zz : Int, (if xl < yl then yl else xl) = zz := ⟨_, rfl⟩
  obtain ⟨m1141, hm1141⟩ : ∃ zz : Int, (if xh < yh then yh else xh) = zz := ⟨_, rfl⟩
  have z1142 := H1138.out.cell 4 rfl 0 rfl
  have z1143 := H1138.out.cell 4 rfl 1 rfl
  have z1144 := H1138.out.cell 3 rfl 0 rfl
  have z1145 := H1138.out.cell 3 rfl 1 rfl
  have z1146 := H1138.out.cell 2 rfl 0 rfl
  have z1147 := H1138.out.cell 2 rfl 1 rfl
  have z1148 := H1138.out.cell 0 rfl 0 rfl
  have z1149 := H1138.out.free 0 rfl 0
  have z1150 := H1138.out.cell 0 rfl 1 rfl
  have z1151 := H1138.out.free 0 rfl 1
  go_upto_region 27 with fail
  clear z1142 z1143 z1144 z1145 z1146 z1147 z1148 z1149 z1150 z1151
  have HNm1140 := hid hm1140
  clear hm1140
  have HNm1141 := hid hm1141
  clear hm1141
  have H1152 := hid (show St B W [.cells D1137 #[.int .i64 m1140, .int .i64 m1141] 99, .cells (B + 1 + 1 + 1) #[.int .i64 0, .int .i64 0] 99, .cells (B + 1 + 1) #[.int .i64 yl, .int .i64 yh] 99, .cells (B + 1) #[.int .i64 xl, .int .i64 xh] 99, .cells B #[.int .i64 7, .int .i64 g] 60] [] ((w1139.setCell ⟨D1137, 0, none⟩ (.int .i64 m1140)).setCell ⟨D1137, 1, none⟩ (.int .i64 m1141)) from ((H1138.out.set 0 rfl 0 (.int .i64 m1140)).set 0 rfl 1 (.int .i64 m1141)))
  first | refine gen_code H1152.out ?_ | refine gen_list H1152.out ?_ | refine gen_calls H1152.out ?_
  intro w1153 hG
  clear H1152
  have H1152 := hid hG
  clear hG
  have H1154 := hid H1152.out.drew
  refine wp_region_held_drew (S := (fun w' => w'.cell? ⟨D1137, 0, none⟩ = some (.int .i64 m1140) ∧ w'.cell? ⟨D1137, 1, none⟩ = some (.int .i64 m1141))) (by kernel_rfl) ⟨H1154.out.cell 0 rfl 0 rfl, H1154.out.cell 0 rfl 1 rfl⟩ (fun hHeld => ?_)
  generalize w1153.drew = k1155 at *
  refine tkA 0 ?_
  try simp only [Act.put, p1, p2, p3, p4, p5, p6]
  refine tkA 1 ?_
  try simp only [Act.put, p1, p2, p3, p4, p5, p6]
  refine tkA 2 ?_
  try simp only [Act.put, p1, p2, p3, p4, p5, p6]
  refine tkA 3 ?_
  try simp only [Act.put, p1, p2, p3, p4, p5, p6]
  refine tkA 4 ?_
  try simp only [Act.put, p1, p2, p3, p4, p5, p6]
  refine wpAnyH_ready (rs := [5]) (by kernel_rfl) (by simp) (AllReadyH.cons (o := _) rfl (fun K hK => ?_) AllReadyH.nil)
  go_simp
  go_at_call 121
  refine (racc_any _ _).mono ?_
  rintro e w1156 ⟨rfl, hsw⟩
  have hsw2 : k1155 = w1156 := by first | exact hsw | exact hsw.symm
  clear hsw
  subst hsw2
  obtain ⟨b1157, hb1157⟩ : ∃ xx', accOk m1140 = xx' := ⟨_, rfl⟩
  rw [hb1157]
  have HNb1157 := hid hb1157
  clear hb1157
  refine hK.out _ _ ?_ (fun hHeld2 => ?_)
  focus ((try dsimp only); (exact ⟨H1154.out.cell 0 rfl 0 rfl, H1154.out.cell 0 rfl 1 rfl⟩))
  clear hK K
  try simp only [Act.put, p1, p2, p3, p4, p5, p6]
  clear hHeld
  have hHeld := hHeld2
  clear hHeld2
  cases b1157
  · skip
    refine tkA 6 ?_
    try simp only [Act.put, p1, p2, p3, p4, p5, p6]
    refine tkA 7 ?_
    try simp only [Act.put, p1, p2, p3, p4, p5, p6]
    refine tkU 8 ?_
    try simp only [Act.put, p1, p2, p3, p4, p5, p6]
    refine tkU 9 ?_
    try simp only [Act.put, p1, p2, p3, p4, p5, p6]
    refine tkU 10 ?_
    try simp only [Act.put, p1, p2, p3, p4, p5, p6]
    refine tkA 11 ?_
    try simp only [Act.put, p1, p2, p3, p4, p5, p6]
    refine wpAnyH_ready (rs := [12]) (by kernel_rfl) (by simp) (AllReadyH.cons (o := _) rfl (fun K hK => ?_) AllReadyH.nil)
    have z1158 := H1154.out.cell 1 rfl 0 rfl
    have z1159 := H1154.out.free 1 rfl 0
    have z1160 := H1154.out.cell 1 rfl 1 rfl
    have z1161 := H1154.out.free 1 rfl 1
    have H1162 := hid (show St B W [.cells D1137 #[.int .i64 m1140, .int .i64 m1141] 99, .cells (B + 1 + 1 + 1) #[.int .i64 m1140, .int .i64 m1141] 99, .cells (B + 1 + 1) #[.int .i64 yl, .int .i64 yh] 99, .cells (B + 1) #[.int .i64 xl, .int .i64 xh] 99, .cells B #[.int .i64 7, .int .i64 g] 60] [] ((k1155.setCell ⟨B + 1 + 1 + 1, 0, none⟩ (.int .i64 m1140)).setCell ⟨B + 1 + 1 + 1, 1, none⟩ (.int .i64 m1141)) from ((H1154.out.set 1 rfl 0 (.int .i64 m1140)).set 1 rfl 1 (.int .i64 m1141)))
    go_simp
    refine hK.out _ _ ?_ (fun hHeld2 => ?_)
    focus ((try dsimp only); (exact ⟨H1162.out.cell 0 rfl 0 rfl, H1162.out.cell 0 rfl 1 rfl⟩))
    clear hK K hHeld
    try simp only [Act.put, p1, p2, p3, p4, p5, p6]
    clear z1158 z1159 z1160 z1161
    generalize ((k1155.setCell ⟨B + 1 + 1 + 1, 0, none⟩ (.int .i64 m1140)).setCell ⟨B + 1 + 1 + 1, 1, none⟩ (.int .i64 m1141)) = k1163 at *
    have hHeld := hHeld2
    clear hHeld2
    refine tkA 13 ?_
    try simp only [Act.put, p1, p2, p3, p4, p5, p6]
    refine wpAnyH_done (by kernel_rfl) ?_ _
    try clear hHeld
    have z1164 := H1162.out.cell 1 rfl 0 rfl
    have z1165 := H1162.out.cell 1 rfl 1 rfl
    go_wp2_with fail
    clear z1164 z1165
    have hpk := hid (show pwIok 7 g (xl, xh) (yl, yh) a b = false from by unfold pwIok; rw [(show (pwInt 7 g (xl, xh) (yl, yh) a b).1 = m1140 from by rw [← HNm1140.out]; rfl), (show (pwInt 7 g (xl, xh) (yl, yh) a b).2 = m1141 from by rw [← HNm1141.out]; rfl), HNb1157.out]; rfl)
    have q1166 := H1162.out.cell 1 rfl 0 rfl
    have q1167 := H1162.out.cell 1 rfl 1 rfl
    refine bodyPost_ret (v := .tuple #[.agg #[.int .i64 m1140, .int .i64 m1141], .bool false]) ?_ rfl ⟨⟨_, _, by rw [hpk.out], fun _ => ⟨(show (pwInt 7 g (xl, xh) (yl, yh) a b).1 = m1140 from by rw [← HNm1140.out]; rfl).symm, (show (pwInt 7 g (xl, xh) (yl, yh) a b).2 = m1141 from by rw [← HNm1141.out]; rfl).symm⟩⟩, by first | exact H1162.out.below | exact H1162.out.below'⟩
    simp [results, Try.results73, go_sem, q1166, q1167]
  · skip
    refine tkA 6 ?_
    try simp only [Act.put, p1, p2, p3, p4, p5, p6]
    refine tkA 7 ?_
    try simp only [Act.put, p1, p2, p3, p4, p5, p6]
    refine tkA 8 ?_
    try simp only [Act.put, p1, p2, p3, p4, p5, p6]
    refine tkA 9 ?_
    try simp only [Act.put, p1, p2, p3, p4, p5, p6]
    refine wpAnyH_ready (rs := [10]) (by kernel_rfl) (by simp) (AllReadyH.cons (o := _) rfl (fun K hK => ?_) AllReadyH.nil)
    go_simp
    go_at_call 121
    refine (racc_any _ _).mono ?_
    rintro e w1168 ⟨rfl, hsw⟩
    have hsw2 : k1155 = w1168 := by first | exact hsw | exact hsw.symm
    clear hsw
    subst hsw2
    obtain ⟨b1169, hb1169⟩ : ∃ xx', accOk m1141 = xx' := ⟨_, rfl⟩
    rw [hb1169]
    have HNb1169 := hid hb1169
    clear hb1169
    refine hK.out _ _ ?_ (fun hHeld2 => ?_)
    focus ((try dsimp only); (exact ⟨H1154.out.cell 0 rfl 0 rfl, H1154.out.cell 0 rfl 1 rfl⟩))
    clear hK K
    try simp only [Act.put, p1, p2, p3, p4, p5, p6]
    clear hHeld
    have hHeld := hHeld2
    clear hHeld2
    refine tkA 11 ?_
    try simp only [Act.put, p1, p2, p3, p4, p5, p6]
    refine wpAnyH_ready (rs := [12]) (by kernel_rfl) (by simp) (AllReadyH.cons (o := _) rfl (fun K hK => ?_) AllReadyH.nil)
    have z1170 := H1154.out.cell 1 rfl 0 rfl
    have z1171 := H1154.out.free 1 rfl 0
    have z1172 := H1154.out.cell 1 rfl 1 rfl
    have z1173 := H1154.out.free 1 rfl 1
    have H1174 := hid (show St B W [.cells D1137 #[.int .i64 m1140, .int .i64 m1141] 99, .cells (B + 1 + 1 + 1) #[.int .i64 m1140, .int .i64 m1141] 99, .cells (B + 1 + 1) #[.int .i64 yl, .int .i64 yh] 99, .cells (B + 1) #[.int .i64 xl, .int .i64 xh] 99, .cells B #[.int .i64 7, .int .i64 g] 60] [] ((k1155.setCell ⟨B + 1 + 1 + 1, 0, none⟩ (.int .i64 m1140)).setCell ⟨B + 1 + 1 + 1, 1, none⟩ (.int .i64 m1141)) from ((H1154.out.set 1 rfl 0 (.int .i64 m1140)).set 1 rfl 1 (.int .i64 m1141)))
    go_simp
    refine hK.out _ _ ?_ (fun hHeld2 => ?_)
    focus ((try dsimp only); (exact ⟨H1174.out.cell 0 rfl 0 rfl, H1174.out.cell 0 rfl 1 rfl⟩))
    clear hK K hHeld
    try simp only [Act.put, p1, p2, p3, p4, p5, p6]
    clear z1170 z1171 z1172 z1173
    generalize ((k1155.setCell ⟨B + 1 + 1 + 1, 0, none⟩ (.int .i64 m1140)).setCell ⟨B + 1 + 1 + 1, 1, none⟩ (.int .i64 m1141)) = k1175 at *
    have hHeld := hHeld2
    clear hHeld2
    refine tkA 13 ?_
    try simp only [Act.put, p1, p2, p3, p4, p5, p6]
    refine wpAnyH_done (by kernel_rfl) ?_ _
    try clear hHeld
    have z1176 := H1174.out.cell 1 rfl 0 rfl
    have z1177 := H1174.out.cell 1 rfl 1 rfl
    go_wp2_with fail
    clear z1176 z1177
    have hpk := hid (show pwIok 7 g (xl, xh) (yl, yh) a b = b1169 from by unfold pwIok; rw [(show (pwInt 7 g (xl, xh) (yl, yh) a b).1 = m1140 from by rw [← HNm1140.out]; rfl), (show (pwInt 7 g (xl, xh) (yl, yh) a b).2 = m1141 from by rw [← HNm1141.out]; rfl), HNb1157.out, HNb1169.out]; rfl)
    have q1178 := H1174.out.cell 1 rfl 0 rfl
    have q1179 := H1174.out.cell 1 rfl 1 rfl
    refine bodyPost_ret (v := .tuple #[.agg #[.int .i64 m1140, .int .i64 m1141], .bool b1169]) ?_ rfl ⟨⟨_, _, by rw [hpk.out], fun _ => ⟨(show (pwInt 7 g (xl, xh) (yl, yh) a b).1 = m1140 from by rw [← HNm1140.out]; rfl).symm, (show (pwInt 7 g (xl, xh) (yl, yh) a b).2 = m1141 from by rw [← HNm1141.out]; rfl).symm⟩⟩, by first | exact H1174.out.below | exact H1174.out.below'⟩
    simp [results, Try.results73, go_sem, q1178, q1179]

set_option maxRecDepth 100000 in
set_option maxHeartbeats 3200000 in
theorem rnext_any_8 (g xl xh yl yh a b : Int) (W : World) (hxl : accOk xl = true) (hxh : accOk xh = true) (hyl : accOk yl = true) (hyh : accOk yh = true) : Calls Try.prog 73 #[.agg #[.int .i64 8, .int .i64 g], .agg #[.int .i64 xl, .int .i64 xh], .agg #[.int .i64 yl, .int .i64 yh], .int .i64 a, .int .i64 b] W fun e w' => (∃ lo hi, e = .returned (.tuple #[.agg #[.int .i64 lo, .int .i64 hi], .bool (pwIok 8 g (xl, xh) (yl, yh) a b)]) ∧ (pwIok 8 g (xl, xh) (yl, yh) a b = true → lo = (pwInt 8 g (xl, xh) (yl, yh) a b).1 ∧ hi = (pwInt 8 g (xl, xh) (yl, yh) a b).2)) ∧ Below W.heap.size W w' := by
  obtain ⟨xl1, xl2⟩ := accOk_iff.1 hxl
  obtain ⟨xh1, xh2⟩ := accOk_iff.1 hxh
  obtain ⟨yl1, yl2⟩ := accOk_iff.1 hyl
  obtain ⟨yh1, yh2⟩ := accOk_iff.1 hyh
  obtain ⟨B, hB⟩ : ∃ B, W.heap.size = B := ⟨_, rfl⟩
  have HI0 := hid (St.init hB)
  go_enter Try.func73, Try.ntmps73
  go_upto_region 1 with fail
  have H1180 := hid (show St B W [.cells (B + 1 + 1 + 1) #[.int .i64 0, .int .i64 0] 99, .cells (B + 1 + 1) #[.int .i64 yl, .int .i64 yh] 99, .cells (B + 1) #[.int .i64 xl, .int .i64 xh] 99, .cells B #[.int .i64 8, .int .i64 g] 60] [] ((((W.alloc (.cells #[.int .i64 8, .int .i64 g] 60)).alloc (.cells #[.int .i64 xl, .int .i64 xh] 99)).alloc (.cells #[.int .i64 yl, .int .i64 yh] 99)).alloc (.cells #[.int .i64 0, .int .i64 0] 99)) from ((((HI0.out.alloc #[.int .i64 8, .int .i64 g] 60 hB).alloc #[.int .i64 xl, .int .i64 xh] 99 (by first | exact hB | simp [hB])).alloc #[.int .i64 yl, .int .i64 yh] 99 (by first | exact hB | simp [hB])).alloc #[.int .i64 0, .int .i64 0] 99 (by first | exact hB | simp [hB])))
  first | refine gen_code H1180.out ?_ | refine gen_list H1180.out ?_ | refine gen_calls H1180.out ?_
  intro w1181 hG
  clear H1180
  have H1180 := hid hG
  clear hG
  obtain ⟨mg, hmg⟩ : ∃ zz : Int, (if absI xl < absI xh then absI xh else absI xl) = zz := ⟨_, rfl⟩
  have H1182 := hid H1180.out.drew
  refine wp_region_held_drew (S := (fun w' => w'.cell? ⟨B + 1, 0, none⟩ = some (.int .i64 xl) ∧ w'.cell? ⟨B + 1, 1, none⟩ = some (.int .i64 xh))) (by kernel_rfl) ⟨H1182.out.cell 2 rfl 0 rfl, H1182.out.cell 2 rfl 1 rfl⟩ (fun hHeld => ?_)
  generalize w1181.drew = k1183 at *
  refine tkA 0 ?_
  try simp only [Act.put, p1, p2, p3, p4, p5, p6]
  refine tkA 1 ?_
  try simp only [Act.put, p1, p2, p3, p4, p5, p6]
  refine tkA 3 ?_
  try simp only [Act.put, p1, p2, p3, p4, p5, p6]
  refine tkA 4 ?_
  try simp only [Act.put, p1, p2, p3, p4, p5, p6]
  refine wpAnyH_ready (rs := [2]) (by kernel_rfl) (by simp) (AllReadyH.cons (o := _) rfl (fun K hK => ?_) AllReadyH.nil)
  go_simp
  go_at_call 118
  refine (rabs_any _ (by omega) _).mono ?_
  rintro e w1184 ⟨rfl, hsw⟩
  have hsw2 : k1183 = w1184 := by first | exact hsw | exact hsw.symm
  clear hsw
  subst hsw2
  refine hK.out _ _ ?_ (fun hHeld2 => ?_)
  focus ((try dsimp only); (exact ⟨H1182.out.cell 2 rfl 0 rfl, H1182.out.cell 2 rfl 1 rfl⟩))
  clear hK K
  try simp only [Act.put, p1, p2, p3, p4, p5, p6]
  clear hHeld
  have hHeld := hHeld2
  clear hHeld2
  refine wpAnyH_ready (rs := [5]) (by kernel_rfl) (by simp) (AllReadyH.cons (o := _) rfl (fun K hK => ?_) AllReadyH.nil)
  go_simp
  go_at_call 118
  refine (rabs_any _ (by omega) _).mono ?_
  rintro e w1185 ⟨rfl, hsw⟩
  have hsw2 : k1183 = w1185 := by first | exact hsw | exact hsw.symm
  clear hsw
  subst hsw2
  refine hK.out _ _ ?_ (fun hHeld2 => ?_)
  focus ((try dsimp only); (exact ⟨H1182.out.cell 2 rfl 0 rfl, H1182.out.cell 2 rfl 1 rfl⟩))
  clear hK K
  try simp only [Act.put, p1, p2, p3, p4, p5, p6]
  clear hHeld
  have hHeld := hHeld2
  clear hHeld2
  refine tkA 6 ?_
  try simp only [Act.put, p1, p2, p3, p4, p5, p6]
  refine tkA 7 ?_
  try simp only [Act.put, p1, p2, p3, p4, p5, p6]
  refine wpAnyH_done (by kernel_rfl) ?_ _
  try clear hHeld
  have HMG := hid (show mxI (absI xl) (absI xh) = mg from hmg)
  clear hmg
  obtain ⟨mga, mgb⟩ : 0 ≤ mg ∧ mg ≤ 17592186044416 := by rw [← HMG.out]; exact mag_bd hxl hxh
  have mgw : IntKind.i64.wrap (-mg) = -mg := IntWalk.i64_in _ (by omega)
  obtain ⟨D1186, hD1186⟩ : ∃ D, k1183.heap.size = D := ⟨_, rfl⟩
  go_upto_region 3 with fail
  have H1187 := hid (show St B W [.cells D1186 #[.int .i64 0, .int .i64 0] 99, .cells (B + 1 + 1 + 1) #[.int .i64 0, .int .i64 0] 99, .cells (B + 1 + 1) #[.int .i64 yl, .int .i64 yh] 99, .cells (B + 1) #[.int .i64 xl, .int .i64 xh] 99, .cells B #[.int .i64 8, .int .i64 g] 60] [] (k1183.alloc (.cells #[.int .i64 0, .int .i64 0] 99)) from (H1182.out.alloc #[.int .i64 0, .int .i64 0] 99 hD1186))
  first | refine gen_code H1187.out ?_ | refine gen_list H1187.out ?_ | refine gen_calls H1187.out ?_
  intro w1188 hG
  clear H1187
  have H1187 := hid hG
  clear hG
  clear hD1186
  obtain ⟨m1189, hm1189⟩ : ∃ zz : Int, (if (xh - yl) < (yh - xl) then yh - xl else xh - yl) = zz := ⟨_, rfl⟩
  have z1190 := H1187.out.cell 4 rfl 0 rfl
  have z1191 := H1187.out.cell 4 rfl 1 rfl
  have z1192 := H1187.out.cell 3 rfl 0 rfl
  have z1193 := H1187.out.cell 3 rfl 1 rfl
  have z1194 := H1187.out.cell 2 rfl 0 rfl
  have z1195 := H1187.out.cell 2 rfl 1 rfl
  have z1196 := H1187.out.cell 0 rfl 0 rfl
  have z1197 := H1187.out.free 0 rfl 0
  have z1198 := H1187.out.cell 0 rfl 1 rfl
  have z1199 := H1187.out.free 0 rfl 1
  go_upto_region 27 with fail
  clear z1190 z1191 z1192 z1193 z1194 z1195 z1196 z1197 z1198 z1199
  have HNm1189 := hid hm1189
  clear hm1189
  have H1200 := hid (show St B W [.cells D1186 #[.int .i64 0, .int .i64 m1189] 99, .cells (B + 1 + 1 + 1) #[.int .i64 0, .int .i64 0] 99, .cells (B + 1 + 1) #[.int .i64 yl, .int .i64 yh] 99, .cells (B + 1) #[.int .i64 xl, .int .i64 xh] 99, .cells B #[.int .i64 8, .int .i64 g] 60] [] ((w1188.setCell ⟨D1186, 0, none⟩ (.int .i64 0)).setCell ⟨D1186, 1, none⟩ (.int .i64 m1189)) from ((H1187.out.set 0 rfl 0 (.int .i64 0)).set 0 rfl 1 (.int .i64 m1189)))
  first | refine gen_code H1200.out ?_ | refine gen_list H1200.out ?_ | refine gen_calls H1200.out ?_
  intro w1201 hG
  clear H1200
  have H1200 := hid hG
  clear hG
  have H1202 := hid H1200.out.drew
  refine wp_region_held_drew (S := (fun w' => w'.cell? ⟨D1186, 0, none⟩ = some (.int .i64 0) ∧ w'.cell? ⟨D1186, 1, none⟩ = some (.int .i64 m1189))) (by kernel_rfl) ⟨H1202.out.cell 0 rfl 0 rfl, H1202.out.cell 0 rfl 1 rfl⟩ (fun hHeld => ?_)
  generalize w1201.drew = k1203 at *
  refine tkA 0 ?_
  try simp only [Act.put, p1, p2, p3, p4, p5, p6]
  refine tkA 1 ?_
  try simp only [Act.put, p1, p2, p3, p4, p5, p6]
  refine tkA 2 ?_
  try simp only [Act.put, p1, p2, p3, p4, p5, p6]
  refine tkA 3 ?_
  try simp only [Act.put, p1, p2, p3, p4, p5, p6]
  refine tkA 4 ?_
  try simp only [Act.put, p1, p2, p3, p4, p5, p6]
  refine wpAnyH_ready (rs := [5]) (by kernel_rfl) (by simp) (AllReadyH.cons (o := _) rfl (fun K hK => ?_) AllReadyH.nil)
  go_simp
  go_at_call 121
  refine (racc_any _ _).mono ?_
  rintro e w1204 ⟨rfl, hsw⟩
  have hsw2 : k1203 = w1204 := by first | exact hsw | exact hsw.symm
  clear hsw
  subst hsw2
  obtain ⟨b1205, hb1205⟩ : ∃ xx', accOk 0 = xx' := ⟨_, rfl⟩
  rw [hb1205]
  have HNb1205 := hid hb1205
  clear hb1205
  refine hK.out _ _ ?_ (fun hHeld2 => ?_)
  focus ((try dsimp only); (exact ⟨H1202.out.cell 0 rfl 0 rfl, H1202.out.cell 0 rfl 1 rfl⟩))
  clear hK K
  try simp only [Act.put, p1, p2, p3, p4, p5, p6]
  clear hHeld
  have hHeld := hHeld2
  clear hHeld2
  cases b1205
  · skip
    refine tkA 6 ?_
    try simp only [Act.put, p1, p2, p3, p4, p5, p6]
    refine tkA 7 ?_
    try simp only [Act.put, p1, p2, p3, p4, p5, p6]
    refine tkU 8 ?_
    try simp only [Act.put, p1, p2, p3, p4, p5, p6]
    refine tkU 9 ?_
    try simp only [Act.put, p1, p2, p3, p4, p5, p6]
    refine tkU 10 ?_
    try simp only [Act.put, p1, p2, p3, p4, p5, p6]
    refine tkA 11 ?_
    try simp only [Act.put, p1, p2, p3, p4, p5, p6]
    refine wpAnyH_ready (rs := [12]) (by kernel_rfl) (by simp) (AllReadyH.cons (o := _) rfl (fun K hK => ?_) AllReadyH.nil)
    have z1206 := H1202.out.cell 1 rfl 0 rfl
    have z1207 := H1202.out.free 1 rfl 0
    have z1208 := H1202.out.cell 1 rfl 1 rfl
    have z1209 := H1202.out.free 1 rfl 1
    have H1210 := hid (show St B W [.cells D1186 #[.int .i64 0, .int .i64 m1189] 99, .cells (B + 1 + 1 + 1) #[.int .i64 0, .int .i64 m1189] 99, .cells (B + 1 + 1) #[.int .i64 yl, .int .i64 yh] 99, .cells (B + 1) #[.int .i64 xl, .int .i64 xh] 99, .cells B #[.int .i64 8, .int .i64 g] 60] [] ((k1203.setCell ⟨B + 1 + 1 + 1, 0, none⟩ (.int .i64 0)).setCell ⟨B + 1 + 1 + 1, 1, none⟩ (.int .i64 m1189)) from ((H1202.out.set 1 rfl 0 (.int .i64 0)).set 1 rfl 1 (.int .i64 m1189)))
    go_simp
    refine hK.out _ _ ?_ (fun hHeld2 => ?_)
    focus ((try dsimp only); (exact ⟨H1210.out.cell 0 rfl 0 rfl, H1210.out.cell 0 rfl 1 rfl⟩))
    clear hK K hHeld
    try simp only [Act.put, p1, p2, p3, p4, p5, p6]
    clear z1206 z1207 z1208 z1209
    generalize ((k1203.setCell ⟨B + 1 + 1 + 1, 0, none⟩ (.int .i64 0)).setCell ⟨B + 1 + 1 + 1, 1, none⟩ (.int .i64 m1189)) = k1211 at *
    have hHeld := hHeld2
    clear hHeld2
    refine tkA 13 ?_
    try simp only [Act.put, p1, p2, p3, p4, p5, p6]
    refine wpAnyH_done (by kernel_rfl) ?_ _
    try clear hHeld
    have z1212 := H1210.out.cell 1 rfl 0 rfl
    have z1213 := H1210.out.cell 1 rfl 1 rfl
    go_wp2_with fail
    clear z1212 z1213
    have hpk := hid (show pwIok 8 g (xl, xh) (yl, yh) a b = false from by unfold pwIok; rw [(show (pwInt 8 g (xl, xh) (yl, yh) a b).1 = 0 from rfl), (show (pwInt 8 g (xl, xh) (yl, yh) a b).2 = m1189 from by rw [← HNm1189.out]; rfl), HNb1205.out]; rfl)
    have q1214 := H1210.out.cell 1 rfl 0 rfl
    have q1215 := H1210.out.cell 1 rfl 1 rfl
    refine bodyPost_ret (v := .tuple #[.agg #[.int .i64 0, .int .i64 m1189], .bool false]) ?_ rfl ⟨⟨_, _, by rw [hpk.out], fun _ => ⟨(show (pwInt 8 g (xl, xh) (yl, yh) a b).1 = 0 from rfl).symm, (show (pwInt 8 g (xl, xh) (yl, yh) a b).2 = m1189 from by rw [← HNm1189.out]; rfl).symm⟩⟩, by first | exact H1210.out.below | exact H1210.out.below'⟩
    simp [results, Try.results73, go_sem, q1214, q1215]
  · skip
    refine tkA 6 ?_
    try simp only [Act.put, p1, p2, p3, p4, p5, p6]
    refine tkA 7 ?_
    try simp only [Act.put, p1, p2, p3, p4, p5, p6]
    refine tkA 8 ?_
    try simp only [Act.put, p1, p2, p3, p4, p5, p6]
    refine tkA 9 ?_
    try simp only [Act.put, p1, p2, p3, p4, p5, p6]
    refine wpAnyH_ready (rs := [10]) (by kernel_rfl) (by simp) (AllReadyH.cons (o := _) rfl (fun K hK => ?_) AllReadyH.nil)
    go_simp
    go_at_call 121
    refine (racc_any _ _).mono ?_
    rintro e w1216 ⟨rfl, hsw⟩
    have hsw2 : k1203 = w1216 := by first | exact hsw | exact hsw.symm
    clear hsw
    subst hsw2
    obtain ⟨b1217, hb1217⟩ : ∃ xx', accOk m1189 = xx' := ⟨_, rfl⟩
    rw [hb1217]
    have HNb1217 := hid hb1217
    clear hb1217
    refine hK.out _ _ ?_ (fun hHeld2 => ?_)
    focus ((try dsimp only); (exact ⟨H1202.out.cell 0 rfl 0 rfl, H1202.out.cell 0 rfl 1 rfl⟩))
    clear hK K
    try simp only [Act.put, p1, p2, p3, p4, p5, p6]
    clear hHeld
    have hHeld := hHeld2
    clear hHeld2
    refine tkA 11 ?_
    try simp only [Act.put, p1, p2, p3, p4, p5, p6]
    refine wpAnyH_ready (rs := [12]) (by kernel_rfl) (by simp) (AllReadyH.cons (o := _) rfl (fun K hK => ?_) AllReadyH.nil)
    have z1218 := H1202.out.cell 1 rfl 0 rfl
    have z1219 := H1202.out.free 1 rfl 0
    have z1220 := H1202.out.cell 1 rfl 1 rfl
    have z1221 := H1202.out.free 1 rfl 1
    have H1222 := hid (show St B W [.cells D1186 #[.int .i64 0, .int .i64 m1189] 99, .cells (B + 1 + 1 + 1) #[.int .i64 0, .int .i64 m1189] 99, .cells (B + 1 + 1) #[.int .i64 yl, .int .i64 yh] 99, .cells (B + 1) #[.int .i64 xl, .int .i64 xh] 99, .cells B #[.int .i64 8, .int .i64 g] 60] [] ((k1203.setCell ⟨B + 1 + 1 + 1, 0, none⟩ (.int .i64 0)).setCell ⟨B + 1 + 1 + 1, 1, none⟩ (.int .i64 m1189)) from ((H1202.out.set 1 rfl 0 (.int .i64 0)).set 1 rfl 1 (.int .i64 m1189)))
    go_simp
    refine hK.out _ _ ?_ (fun hHeld2 => ?_)
    focus ((try dsimp only); (exact ⟨H1222.out.cell 0 rfl 0 rfl, H1222.out.cell 0 rfl 1 rfl⟩))
    clear hK K hHeld
    try simp only [Act.put, p1, p2, p3, p4, p5, p6]
    clear z1218 z1219 z1220 z1221
    generalize ((k1203.setCell ⟨B + 1 + 1 + 1, 0, none⟩ (.int .i64 0)).setCell ⟨B + 1 + 1 + 1, 1, none⟩ (.int .i64 m1189)) = k1223 at *
    have hHeld := hHeld2
    clear hHeld2
    refine tkA 13 ?_
    try simp only [Act.put, p1, p2, p3, p4, p5, p6]
    refine wpAnyH_done (by kernel_rfl) ?_ _
    try clear hHeld
    have z1224 := H1222.out.cell 1 rfl 0 rfl
    have z1225 := H1222.out.cell 1 rfl 1 rfl
    go_wp2_with fail
    clear z1224 z1225
    have hpk := hid (show pwIok 8 g (xl, xh) (yl, yh) a b = b1217 from by unfold pwIok; rw [(show (pwInt 8 g (xl, xh) (yl, yh) a b).1 = 0 from rfl), (show (pwInt 8 g (xl, xh) (yl, yh) a b).2 = m1189 from by rw [← HNm1189.out]; rfl), HNb1205.out, HNb1217.out]; rfl)
    have q1226 := H1222.out.cell 1 rfl 0 rfl
    have q1227 := H1222.out.cell 1 rfl 1 rfl
    refine bodyPost_ret (v := .tuple #[.agg #[.int .i64 0, .int .i64 m1189], .bool b1217]) ?_ rfl ⟨⟨_, _, by rw [hpk.out], fun _ => ⟨(show (pwInt 8 g (xl, xh) (yl, yh) a b).1 = 0 from rfl).symm, (show (pwInt 8 g (xl, xh) (yl, yh) a b).2 = m1189 from by rw [← HNm1189.out]; rfl).symm⟩⟩, by first | exact H1222.out.below | exact H1222.out.below'⟩
    simp [results, Try.results73, go_sem, q1226, q1227]

set_option maxRecDepth 100000 in
set_option maxHeartbeats 3200000 in
theorem rnext_any_9 (g xl xh yl yh a b : Int) (W : World) (hxl : accOk xl = true) (hxh : accOk xh = true) (hyl : accOk yl = true) (hyh : accOk yh = true) : Calls Try.prog 73 #[.agg #[.int .i64 9, .int .i64 g], .agg #[.int .i64 xl, .int .i64 xh], .agg #[.int .i64 yl, .int .i64 yh], .int .i64 a, .int .i64 b] W fun e w' => (∃ lo hi, e = .returned (.tuple #[.agg #[.int .i64 lo, .int .i64 hi], .bool (pwIok 9 g (xl, xh) (yl, yh) a b)]) ∧ (pwIok 9 g (xl, xh) (yl, yh) a b = true → lo = (pwInt 9 g (xl, xh) (yl, yh) a b).1 ∧ hi = (pwInt 9 g (xl, xh) (yl, yh) a b).2)) ∧ Below W.heap.size W w' := by
  obtain ⟨xl1, xl2⟩ := accOk_iff.1 hxl
  obtain ⟨xh1, xh2⟩ := accOk_iff.1 hxh
  obtain ⟨yl1, yl2⟩ := accOk_iff.1 hyl
  obtain ⟨yh1, yh2⟩ := accOk_iff.1 hyh
  obtain ⟨B, hB⟩ : ∃ B, W.heap.size = B := ⟨_, rfl⟩
  have HI0 := hid (St.init hB)
  go_enter Try.func73, Try.ntmps73
  go_upto_region 1 with fail
  have H1228 := hid (show St B W [.cells (B + 1 + 1 + 1) #[.int .i64 0, .int .i64 0] 99, .cells (B + 1 + 1) #[.int .i64 yl, .int .i64 yh] 99, .cells (B + 1) #[.int .i64 xl, .int .i64 xh] 99, .cells B #[.int .i64 9, .int .i64 g] 60] [] ((((W.alloc (.cells #[.int .i64 9, .int .i64 g] 60)).alloc (.cells #[.int .i64 xl, .int .i64 xh] 99)).alloc (.cells #[.int .i64 yl, .int .i64 yh] 99)).alloc (.cells #[.int .i64 0, .int .i64 0] 99)) from ((((HI0.out.alloc #[.int .i64 9, .int .i64 g] 60 hB).alloc #[.int .i64 xl, .int .i64 xh] 99 (by first | exact hB | simp [hB])).alloc #[.int .i64 yl, .int .i64 yh] 99 (by first | exact hB | simp [hB])).alloc #[.int .i64 0, .int .i64 0] 99 (by first | exact hB | simp [hB])))
  first | refine gen_code H1228.out ?_ | refine gen_list H1228.out ?_ | refine gen_calls H1228.out ?_
  intro w1229 hG
  clear H1228
  have H1228 := hid hG
  clear hG
  obtain ⟨mg, hmg⟩ : ∃ zz : Int, (if absI xl < absI xh then absI xh else absI xl) = zz := ⟨_, rfl⟩
  have H1230 := hid H1228.out.drew
  refine wp_region_held_drew (S := (fun w' => w'.cell? ⟨B + 1, 0, none⟩ = some (.int .i64 xl) ∧ w'.cell? ⟨B + 1, 1, none⟩ = some (.int .i64 xh))) (by kernel_rfl) ⟨H1230.out.cell 2 rfl 0 rfl, H1230.out.cell 2 rfl 1 rfl⟩ (fun hHeld => ?_)
  generalize w1229.drew = k1231 at *
  refine tkA 0 ?_
  try simp only [Act.put, p1, p2, p3, p4, p5, p6]
  refine tkA 1 ?_
  try simp only [Act.put, p1, p2, p3, p4, p5, p6]
  refine tkA 3 ?_
  try simp only [Act.put, p1, p2, p3, p4, p5, p6]
  refine tkA 4 ?_
  try simp only [Act.put, p1, p2, p3, p4, p5, p6]
  refine wpAnyH_ready (rs := [2]) (by kernel_rfl) (by simp) (AllReadyH.cons (o := _) rfl (fun K hK => ?_) AllReadyH.nil)
  go_simp
  go_at_call 118
  refine (rabs_any _ (by omega) _).mono ?_
  rintro e w1232 ⟨rfl, hsw⟩
  have hsw2 : k1231 = w1232 := by first | exact hsw | exact hsw.symm
  clear hsw
  subst hsw2
  refine hK.out _ _ ?_ (fun hHeld2 => ?_)
  focus ((try dsimp only); (exact ⟨H1230.out.cell 2 rfl 0 rfl, H1230.out.cell 2 rfl 1 rfl⟩))
  clear hK K
  try simp only [Act.put, p1, p2, p3, p4, p5, p6]
  clear hHeld
  have hHeld := hHeld2
  clear hHeld2
  refine wpAnyH_ready (rs := [5]) (by kernel_rfl) (by simp) (AllReadyH.cons (o := _) rfl (fun K hK => ?_) AllReadyH.nil)
  go_simp
  go_at_call 118
  refine (rabs_any _ (by omega) _).mono ?_
  rintro e w1233 ⟨rfl, hsw⟩
  have hsw2 : k1231 = w1233 := by first | exact hsw | exact hsw.symm
  clear hsw
  subst hsw2
  refine hK.out _ _ ?_ (fun hHeld2 => ?_)
  focus ((try dsimp only); (exact ⟨H1230.out.cell 2 rfl 0 rfl, H1230.out.cell 2 rfl 1 rfl⟩))
  clear hK K
  try simp only [Act.put, p1, p2, p3, p4, p5, p6]
  clear hHeld
  have hHeld := hHeld2
  clear hHeld2
  refine tkA 6 ?_
  try simp only [Act.put, p1, p2, p3, p4, p5, p6]
  refine tkA 7 ?_
  try simp only [Act.put, p1, p2, p3, p4, p5, p6]
  refine wpAnyH_done (by kernel_rfl) ?_ _
  try clear hHeld
  have HMG := hid (show mxI (absI xl) (absI xh) = mg from hmg)
  clear hmg
  obtain ⟨mga, mgb⟩ : 0 ≤ mg ∧ mg ≤ 17592186044416 := by rw [← HMG.out]; exact mag_bd hxl hxh
  have mgw : IntKind.i64.wrap (-mg) = -mg := IntWalk.i64_in _ (by omega)
  obtain ⟨D1234, hD1234⟩ : ∃ D, k1231.heap.size = D := ⟨_, rfl⟩
  go_upto_region 3 with fail
  have H1235 := hid (show St B W [.cells D1234 #[.int .i64 0, .int .i64 0] 99, .cells (B + 1 + 1 + 1) #[.int .i64 0, .int .i64 0] 99, .cells (B + 1 + 1) #[.int .i64 yl, .int .i64 yh] 99, .cells (B + 1) #[.int .i64 xl, .int .i64 xh] 99, .cells B #[.int .i64 9, .int .i64 g] 60] [] (k1231.alloc (.cells #[.int .i64 0, .int .i64 0] 99)) from (H1230.out.alloc #[.int .i64 0, .int .i64 0] 99 hD1234))
  first | refine gen_code H1235.out ?_ | refine gen_list H1235.out ?_ | refine gen_calls H1235.out ?_
  intro w1236 hG
  clear H1235
  have H1235 := hid hG
  clear hG
  clear hD1234
  have z1237 := H1235.out.cell 4 rfl 0 rfl
  have z1238 := H1235.out.cell 4 rfl 1 rfl
  have z1239 := H1235.out.cell 0 rfl 0 rfl
  have z1240 := H1235.out.free 0 rfl 0
  have z1241 := H1235.out.cell 0 rfl 1 rfl
  have z1242 := H1235.out.free 0 rfl 1
  go_upto_region 27 with fail
  clear z1237 z1238 z1239 z1240 z1241 z1242
  have H1243 := hid (show St B W [.cells D1234 #[.int .i64 (-mg), .int .i64 mg] 99, .cells (B + 1 + 1 + 1) #[.int .i64 0, .int .i64 0] 99, .cells (B + 1 + 1) #[.int .i64 yl, .int .i64 yh] 99, .cells (B + 1) #[.int .i64 xl, .int .i64 xh] 99, .cells B #[.int .i64 9, .int .i64 g] 60] [] ((w1236.setCell ⟨D1234, 0, none⟩ (.int .i64 (-mg))).setCell ⟨D1234, 1, none⟩ (.int .i64 mg)) from ((H1235.out.set 0 rfl 0 (.int .i64 (-mg))).set 0 rfl 1 (.int .i64 mg)))
  first | refine gen_code H1243.out ?_ | refine gen_list H1243.out ?_ | refine gen_calls H1243.out ?_
  intro w1244 hG
  clear H1243
  have H1243 := hid hG
  clear hG
  have H1245 := hid H1243.out.drew
  refine wp_region_held_drew (S := (fun w' => w'.cell? ⟨D1234, 0, none⟩ = some (.int .i64 (-mg)) ∧ w'.cell? ⟨D1234, 1, none⟩ = some (.int .i64 mg))) (by kernel_rfl) ⟨H1245.out.cell 0 rfl 0 rfl, H1245.out.cell 0 rfl 1 rfl⟩ (fun hHeld => ?_)
  generalize w1244.drew = k1246 at *
  refine tkA 0 ?_
  try simp only [Act.put, p1, p2, p3, p4, p5, p6]
  refine tkA 1 ?_
  try simp only [Act.put, p1, p2, p3, p4, p5, p6]
  refine tkA 2 ?_
  try simp only [Act.put, p1, p2, p3, p4, p5, p6]
  refine tkA 3 ?_
  try simp only [Act.put, p1, p2, p3, p4, p5, p6]
  refine tkA 4 ?_
  try simp only [Act.put, p1, p2, p3, p4, p5, p6]
  refine wpAnyH_ready (rs := [5]) (by kernel_rfl) (by simp) (AllReadyH.cons (o := _) rfl (fun K hK => ?_) AllReadyH.nil)
  go_simp
  go_at_call 121
  refine (racc_any _ _).mono ?_
  rintro e w1247 ⟨rfl, hsw⟩
  have hsw2 : k1246 = w1247 := by first | exact hsw | exact hsw.symm
  clear hsw
  subst hsw2
  obtain ⟨b1248, hb1248⟩ : ∃ xx', accOk (-mg) = xx' := ⟨_, rfl⟩
  rw [hb1248]
  have HNb1248 := hid hb1248
  clear hb1248
  refine hK.out _ _ ?_ (fun hHeld2 => ?_)
  focus ((try dsimp only); (exact ⟨H1245.out.cell 0 rfl 0 rfl, H1245.out.cell 0 rfl 1 rfl⟩))
  clear hK K
  try simp only [Act.put, p1, p2, p3, p4, p5, p6]
  clear hHeld
  have hHeld := hHeld2
  clear hHeld2
  cases b1248
  · skip
    refine tkA 6 ?_
    try simp only [Act.put, p1, p2, p3, p4, p5, p6]
    refine tkA 7 ?_
    try simp only [Act.put, p1, p2, p3, p4, p5, p6]
    refine tkU 8 ?_
    try simp only [Act.put, p1, p2, p3, p4, p5, p6]
    refine tkU 9 ?_
    try simp only [Act.put, p1, p2, p3, p4, p5, p6]
    refine tkU 10 ?_
    try simp only [Act.put, p1, p2, p3, p4, p5, p6]
    refine tkA 11 ?_
    try simp only [Act.put, p1, p2, p3, p4, p5, p6]
    refine wpAnyH_ready (rs := [12]) (by kernel_rfl) (by simp) (AllReadyH.cons (o := _) rfl (fun K hK => ?_) AllReadyH.nil)
    have z1249 := H1245.out.cell 1 rfl 0 rfl
    have z1250 := H1245.out.free 1 rfl 0
    have z1251 := H1245.out.cell 1 rfl 1 rfl
    have z1252 := H1245.out.free 1 rfl 1
    have H1253 := hid (show St B W [.cells D1234 #[.int .i64 (-mg), .int .i64 mg] 99, .cells (B + 1 + 1 + 1) #[.int .i64 (-mg), .int .i64 mg] 99, .cells (B + 1 + 1) #[.int .i64 yl, .int .i64 yh] 99, .cells (B + 1) #[.int .i64 xl, .int .i64 xh] 99, .cells B #[.int .i64 9, .int .i64 g] 60] [] ((k1246.setCell ⟨B + 1 + 1 + 1, 0, none⟩ (.int .i64 (-mg))).setCell ⟨B + 1 + 1 + 1, 1, none⟩ (.int .i64 mg)) from ((H1245.out.set 1 rfl 0 (.int .i64 (-mg))).set 1 rfl 1 (.int .i64 mg)))
    go_simp
    refine hK.out _ _ ?_ (fun hHeld2 => ?_)
    focus ((try dsimp only); (exact ⟨H1253.out.cell 0 rfl 0 rfl, H1253.out.cell 0 rfl 1 rfl⟩))
    clear hK K hHeld
    try simp only [Act.put, p1, p2, p3, p4, p5, p6]
    clear z1249 z1250 z1251 z1252
    generalize ((k1246.setCell ⟨B + 1 + 1 + 1, 0, none⟩ (.int .i64 (-mg))).setCell ⟨B + 1 + 1 + 1, 1, none⟩ (.int .i64 mg)) = k1254 at *
    have hHeld := hHeld2
    clear hHeld2
    refine tkA 13 ?_
    try simp only [Act.put, p1, p2, p3, p4, p5, p6]
    refine wpAnyH_done (by kernel_rfl) ?_ _
    try clear hHeld
    have z1255 := H1253.out.cell 1 rfl 0 rfl
    have z1256 := H1253.out.cell 1 rfl 1 rfl
    go_wp2_with fail
    clear z1255 z1256
    have hpk := hid (show pwIok 9 g (xl, xh) (yl, yh) a b = false from by unfold pwIok; rw [(show (pwInt 9 g (xl, xh) (yl, yh) a b).1 = -mg from by rw [← HMG.out]; rfl), (show (pwInt 9 g (xl, xh) (yl, yh) a b).2 = mg from HMG.out), HNb1248.out]; rfl)
    have q1257 := H1253.out.cell 1 rfl 0 rfl
    have q1258 := H1253.out.cell 1 rfl 1 rfl
    refine bodyPost_ret (v := .tuple #[.agg #[.int .i64 (-mg), .int .i64 mg], .bool false]) ?_ rfl ⟨⟨_, _, by rw [hpk.out], fun _ => ⟨(show (pwInt 9 g (xl, xh) (yl, yh) a b).1 = -mg from by rw [← HMG.out]; rfl).symm, (show (pwInt 9 g (xl, xh) (yl, yh) a b).2 = mg from HMG.out).symm⟩⟩, by first | exact H1253.out.below | exact H1253.out.below'⟩
    simp [results, Try.results73, go_sem, q1257, q1258]
  · skip
    refine tkA 6 ?_
    try simp only [Act.put, p1, p2, p3, p4, p5, p6]
    refine tkA 7 ?_
    try simp only [Act.put, p1, p2, p3, p4, p5, p6]
    refine tkA 8 ?_
    try simp only [Act.put, p1, p2, p3, p4, p5, p6]
    refine tkA 9 ?_
    try simp only [Act.put, p1, p2, p3, p4, p5, p6]
    refine wpAnyH_ready (rs := [10]) (by kernel_rfl) (by simp) (AllReadyH.cons (o := _) rfl (fun K hK => ?_) AllReadyH.nil)
    go_simp
    go_at_call 121
    refine (racc_any _ _).mono ?_
    rintro e w1259 ⟨rfl, hsw⟩
    have hsw2 : k1246 = w1259 := by first | exact hsw | exact hsw.symm
    clear hsw
    subst hsw2
    obtain ⟨b1260, hb1260⟩ : ∃ xx', accOk mg = xx' := ⟨_, rfl⟩
    rw [hb1260]
    have HNb1260 := hid hb1260
    clear hb1260
    refine hK.out _ _ ?_ (fun hHeld2 => ?_)
    focus ((try dsimp only); (exact ⟨H1245.out.cell 0 rfl 0 rfl, H1245.out.cell 0 rfl 1 rfl⟩))
    clear hK K
    try simp only [Act.put, p1, p2, p3, p4, p5, p6]
    clear hHeld
    have hHeld := hHeld2
    clear hHeld2
    refine tkA 11 ?_
    try simp only [Act.put, p1, p2, p3, p4, p5, p6]
    refine wpAnyH_ready (rs := [12]) (by kernel_rfl) (by simp) (AllReadyH.cons (o := _) rfl (fun K hK => ?_) AllReadyH.nil)
    have z1261 := H1245.out.cell 1 rfl 0 rfl
    have z1262 := H1245.out.free 1 rfl 0
    have z1263 := H1245.out.cell 1 rfl 1 rfl
    have z1264 := H1245.out.free 1 rfl 1
    have H1265 := hid (show St B W [.cells D1234 #[.int .i64 (-mg), .int .i64 mg] 99, .cells (B + 1 + 1 + 1) #[.int .i64 (-mg), .int .i64 mg] 99, .cells (B + 1 + 1) #[.int .i64 yl, .int .i64 yh] 99, .cells (B + 1) #[.int .i64 xl, .int .i64 xh] 99, .cells B #[.int .i64 9, .int .i64 g] 60] [] ((k1246.setCell ⟨B + 1 + 1 + 1, 0, none⟩ (.int .i64 (-mg))).setCell ⟨B + 1 + 1 + 1, 1, none⟩ (.int .i64 mg)) from ((H1245.out.set 1 rfl 0 (.int .i64 (-mg))).set 1 rfl 1 (.int .i64 mg)))
    go_simp
    refine hK.out _ _ ?_ (fun hHeld2 => ?_)
    focus ((try dsimp only); (exact ⟨H1265.out.cell 0 rfl 0 rfl, H1265.out.cell 0 rfl 1 rfl⟩))
    clear hK K hHeld
    try simp only [Act.put, p1, p2, p3, p4, p5, p6]
    clear z1261 z1262 z1263 z1264
    generalize ((k1246.setCell ⟨B + 1 + 1 + 1, 0, none⟩ (.int .i64 (-mg))).setCell ⟨B + 1 + 1 + 1, 1, none⟩ (.int .i64 mg)) = k1266 at *
    have hHeld := hHeld2
    clear hHeld2
    refine tkA 13 ?_
    try simp only [Act.put, p1, p2, p3, p4, p5, p6]
    refine wpAnyH_done (by kernel_rfl) ?_ _
    try clear hHeld
    have z1267 := H1265.out.cell 1 rfl 0 rfl
    have z1268 := H1265.out.cell 1 rfl 1 rfl
    go_wp2_with fail
    clear z1267 z1268
    have hpk := hid (show pwIok 9 g (xl, xh) (yl, yh) a b = b1260 from by unfold pwIok; rw [(show (pwInt 9 g (xl, xh) (yl, yh) a b).1 = -mg from by rw [← HMG.out]; rfl), (show (pwInt 9 g (xl, xh) (yl, yh) a b).2 = mg from HMG.out), HNb1248.out, HNb1260.out]; rfl)
    have q1269 := H1265.out.cell 1 rfl 0 rfl
    have q1270 := H1265.out.cell 1 rfl 1 rfl
    refine bodyPost_ret (v := .tuple #[.agg #[.int .i64 (-mg), .int .i64 mg], .bool b1260]) ?_ rfl ⟨⟨_, _, by rw [hpk.out], fun _ => ⟨(show (pwInt 9 g (xl, xh) (yl, yh) a b).1 = -mg from by rw [← HMG.out]; rfl).symm, (show (pwInt 9 g (xl, xh) (yl, yh) a b).2 = mg from HMG.out).symm⟩⟩, by first | exact H1265.out.below | exact H1265.out.below'⟩
    simp [results, Try.results73, go_sem, q1269, q1270]

set_option maxRecDepth 100000 in
set_option maxHeartbeats 3200000 in
theorem rnext_any_10 (g xl xh yl yh a b : Int) (W : World) (hxl : accOk xl = true) (hxh : accOk xh = true) (hyl : accOk yl = true) (hyh : accOk yh = true) : Calls Try.prog 73 #[.agg #[.int .i64 10, .int .i64 g], .agg #[.int .i64 xl, .int .i64 xh], .agg #[.int .i64 yl, .int .i64 yh], .int .i64 a, .int .i64 b] W fun e w' => (∃ lo hi, e = .returned (.tuple #[.agg #[.int .i64 lo, .int .i64 hi], .bool (pwIok 10 g (xl, xh) (yl, yh) a b)]) ∧ (pwIok 10 g (xl, xh) (yl, yh) a b = true → lo = (pwInt 10 g (xl, xh) (yl, yh) a b).1 ∧ hi = (pwInt 10 g (xl, xh) (yl, yh) a b).2)) ∧ Below W.heap.size W w' := by
  obtain ⟨xl1, xl2⟩ := accOk_iff.1 hxl
  obtain ⟨xh1, xh2⟩ := accOk_iff.1 hxh
  obtain ⟨yl1, yl2⟩ := accOk_iff.1 hyl
  obtain ⟨yh1, yh2⟩ := accOk_iff.1 hyh
  obtain ⟨B, hB⟩ : ∃ B, W.heap.size = B := ⟨_, rfl⟩
  have HI0 := hid (St.init hB)
  go_enter Try.func73, Try.ntmps73
  go_upto_region 1 with fail
  have H1271 := hid (show St B W [.cells (B + 1 + 1 + 1) #[.int .i64 0, .int .i64 0] 99, .cells (B + 1 + 1) #[.int .i64 yl, .int .i64 yh] 99, .cells (B + 1) #[.int .i64 xl, .int .i64 xh] 99, .cells B #[.int .i64 10, .int .i64 g] 60] [] ((((W.alloc (.cells #[.int .i64 10, .int .i64 g] 60)).alloc (.cells #[.int .i64 xl, .int .i64 xh] 99)).alloc (.cells #[.int .i64 yl, .int .i64 yh] 99)).alloc (.cells #[.int .i64 0, .int .i64 0] 99)) from ((((HI0.out.alloc #[.int .i64 10, .int .i64 g] 60 hB).alloc #[.int .i64 xl, .int .i64 xh] 99 (by first | exact hB | simp [hB])).alloc #[.int .i64 yl, .int .i64 yh] 99 (by first | exact hB | simp [hB])).alloc #[.int .i64 0, .int .i64 0] 99 (by first | exact hB | simp [hB])))
  first | refine gen_code H1271.out ?_ | refine gen_list H1271.out ?_ | refine gen_calls H1271.out ?_
  intro w1272 hG
  clear H1271
  have H1271 := hid hG
  clear hG
  obtain ⟨mg, hmg⟩ : ∃ zz : Int, (if absI xl < absI xh then absI xh else absI xl) = zz := ⟨_, rfl⟩
  have H1273 := hid H1271.out.drew
  refine wp_region_held_drew (S := (fun w' => w'.cell? ⟨B + 1, 0, none⟩ = some (.int .i64 xl) ∧ w'.cell? ⟨B + 1, 1, none⟩ = some (.int .i64 xh))) (by kernel_rfl) ⟨H1273.out.cell 2 rfl 0 rfl, H1273.out.cell 2 rfl 1 rfl⟩ (fun hHeld => ?_)
  generalize w1272.drew = k1274 at *
  refine tkA 0 ?_
  try simp only [Act.put, p1, p2, p3, p4, p5, p6]
  refine tkA 1 ?_
  try simp only [Act.put, p1, p2, p3, p4, p5, p6]
  refine tkA 3 ?_
  try simp only [Act.put, p1, p2, p3, p4, p5, p6]
  refine tkA 4 ?_
  try simp only [Act.put, p1, p2, p3, p4, p5, p6]
  refine wpAnyH_ready (rs := [2]) (by kernel_rfl) (by simp) (AllReadyH.cons (o := _) rfl (fun K hK => ?_) AllReadyH.nil)
  go_simp
  go_at_call 118
  refine (rabs_any _ (by omega) _).mono ?_
  rintro e w1275 ⟨rfl, hsw⟩
  have hsw2 : k1274 = w1275 := by first | exact hsw | exact hsw.symm
  clear hsw
  subst hsw2
  refine hK.out _ _ ?_ (fun hHeld2 => ?_)
  focus ((try dsimp only); (exact ⟨H1273.out.cell 2 rfl 0 rfl, H1273.out.cell 2 rfl 1 rfl⟩))
  clear hK K
  try simp only [Act.put, p1, p2, p3, p4, p5, p6]
  clear hHeld
  have hHeld := hHeld2
  clear hHeld2
  refine wpAnyH_ready (rs := [5]) (by kernel_rfl) (by simp) (AllReadyH.cons (o := _) rfl (fun K hK => ?_) AllReadyH.nil)
  go_simp
  go_at_call 118
  refine (rabs_any _ (by omega) _).mono ?_
  rintro e w1276 ⟨rfl, hsw⟩
  have hsw2 : k1274 = w1276 := by first | exact hsw | exact hsw.symm
  clear hsw
  subst hsw2
  refine hK.out _ _ ?_ (fun hHeld2 => ?_)
  focus ((try dsimp only); (exact ⟨H1273.out.cell 2 rfl 0 rfl, H1273.out.cell 2 rfl 1 rfl⟩))
  clear hK K
  try simp only [Act.put, p1, p2, p3, p4, p5, p6]
  clear hHeld
  have hHeld := hHeld2
  clear hHeld2
  refine tkA 6 ?_
  try simp only [Act.put, p1, p2, p3, p4, p5, p6]
  refine tkA 7 ?_
  try simp only [Act.put, p1, p2, p3, p4, p5, p6]
  refine wpAnyH_done (by kernel_rfl) ?_ _
  try clear hHeld
  have HMG := hid (show mxI (absI xl) (absI xh) = mg from hmg)
  clear hmg
  obtain ⟨mga, mgb⟩ : 0 ≤ mg ∧ mg ≤ 17592186044416 := by rw [← HMG.out]; exact mag_bd hxl hxh
  have mgw : IntKind.i64.wrap (-mg) = -mg := IntWalk.i64_in _ (by omega)
  obtain ⟨D1277, hD1277⟩ : ∃ D, k1274.heap.size = D := ⟨_, rfl⟩
  go_upto_region 3 with fail
  have H1278 := hid (show St B W [.cells D1277 #[.int .i64 0, .int .i64 0] 99, .cells (B + 1 + 1 + 1) #[.int .i64 0, .int .i64 0] 99, .cells (B + 1 + 1) #[.int .i64 yl, .int .i64 yh] 99, .cells (B + 1) #[.int .i64 xl, .int .i64 xh] 99, .cells B #[.int .i64 10, .int .i64 g] 60] [] (k1274.alloc (.cells #[.int .i64 0, .int .i64 0] 99)) from (H1273.out.alloc #[.int .i64 0, .int .i64 0] 99 hD1277))
  first | refine gen_code H1278.out ?_ | refine gen_list H1278.out ?_ | refine gen_calls H1278.out ?_
  intro w1279 hG
  clear H1278
  have H1278 := hid hG
  clear hG
  clear hD1277
  have z1280 := H1278.out.cell 4 rfl 0 rfl
  have z1281 := H1278.out.cell 4 rfl 1 rfl
  have z1282 := H1278.out.cell 3 rfl 0 rfl
  have z1283 := H1278.out.cell 3 rfl 1 rfl
  go_wp2_with fail
  clear z1280 z1281 z1282 z1283
  refine (rspan_any _ _ _ _).mono ?_
  rintro e w1284 ⟨rfl, hsw⟩
  have hsw2 : w1279 = w1284 := by first | exact hsw | exact hsw.symm
  clear hsw
  subst hsw2
  obtain ⟨t1285, ht1285⟩ : ∃ xx', shV xl g = xx' := ⟨_, rfl⟩
  rw [ht1285]
  have HNt1285 := hid ht1285
  clear ht1285
  obtain ⟨t1286, ht1286⟩ : ∃ xx', shV xh g = xx' := ⟨_, rfl⟩
  rw [ht1286]
  have HNt1286 := hid ht1286
  clear ht1286
  have z1287 := H1278.out.cell 0 rfl 0 rfl
  have z1288 := H1278.out.free 0 rfl 0
  have z1289 := H1278.out.cell 0 rfl 1 rfl
  have z1290 := H1278.out.free 0 rfl 1
  go_upto_region 27 with fail
  clear z1287 z1288 z1289 z1290
  have H1291 := hid (show St B W [.cells D1277 #[.int .i64 t1285, .int .i64 t1286] 99, .cells (B + 1 + 1 + 1) #[.int .i64 0, .int .i64 0] 99, .cells (B + 1 + 1) #[.int .i64 yl, .int .i64 yh] 99, .cells (B + 1) #[.int .i64 xl, .int .i64 xh] 99, .cells B #[.int .i64 10, .int .i64 g] 60] [] ((w1279.setCell ⟨D1277, 0, none⟩ (.int .i64 t1285)).setCell ⟨D1277, 1, none⟩ (.int .i64 t1286)) from ((H1278.out.set 0 rfl 0 (.int .i64 t1285)).set 0 rfl 1 (.int .i64 t1286)))
  first | refine gen_code H1291.out ?_ | refine gen_list H1291.out ?_ | refine gen_calls H1291.out ?_
  intro w1292 hG
  clear H1291
  have H1291 := hid hG
  clear hG
  have H1293 := hid H1291.out.drew
  refine wp_region_held_drew (S := (fun w' => w'.cell? ⟨D1277, 0, none⟩ = some (.int .i64 t1285) ∧ w'.cell? ⟨D1277, 1, none⟩ = some (.int .i64 t1286))) (by kernel_rfl) ⟨H1293.out.cell 0 rfl 0 rfl, H1293.out.cell 0 rfl 1 rfl⟩ (fun hHeld => ?_)
  generalize w1292.drew = k1294 at *
  refine tkA 0 ?_
  try simp only [Act.put, p1, p2, p3, p4, p5, p6]
  refine tkA 1 ?_
  try simp only [Act.put, p1, p2, p3, p4, p5, p6]
  refine tkA 2 ?_
  try simp only [Act.put, p1, p2, p3, p4, p5, p6]
  refine tkA 3 ?_
  try simp only [Act.put, p1, p2, p3, p4, p5, p6]
  refine tkA 4 ?_
  try simp only [Act.put, p1, p2, p3, p4, p5, p6]
  refine wpAnyH_ready (rs := [5]) (by kernel_rfl) (by simp) (AllReadyH.cons (o := _) rfl (fun K hK => ?_) AllReadyH.nil)
  go_simp
  go_at_call 121
  refine (racc_any _ _).mono ?_
  rintro e w1295 ⟨rfl, hsw⟩
  have hsw2 : k1294 = w1295 := by first | exact hsw | exact hsw.symm
  clear hsw
  subst hsw2
  obtain ⟨b1296, hb1296⟩ : ∃ xx', accOk t1285 = xx' := ⟨_, rfl⟩
  rw [hb1296]
  have HNb1296 := hid hb1296
  clear hb1296
  refine hK.out _ _ ?_ (fun hHeld2 => ?_)
  focus ((try dsimp only); (exact ⟨H1293.out.cell 0 rfl 0 rfl, H1293.out.cell 0 rfl 1 rfl⟩))
  clear hK K
  try simp only [Act.put, p1, p2, p3, p4, p5, p6]
  clear hHeld
  have hHeld := hHeld2
  clear hHeld2
  cases b1296
  · skip
    refine tkA 6 ?_
    try simp only [Act.put, p1, p2, p3, p4, p5, p6]
    refine tkA 7 ?_
    try simp only [Act.put, p1, p2, p3, p4, p5, p6]
    refine tkU 8 ?_
    try simp only [Act.put, p1, p2, p3, p4, p5, p6]
    refine tkU 9 ?_
    try simp only [Act.put, p1, p2, p3, p4, p5, p6]
    refine tkU 10 ?_
    try simp only [Act.put, p1, p2, p3, p4, p5, p6]
    refine tkA 11 ?_
    try simp only [Act.put, p1, p2, p3, p4, p5, p6]
    refine wpAnyH_ready (rs := [12]) (by kernel_rfl) (by simp) (AllReadyH.cons (o := _) rfl (fun K hK => ?_) AllReadyH.nil)
    have z1297 := H1293.out.cell 1 rfl 0 rfl
    have z1298 := H1293.out.free 1 rfl 0
    have z1299 := H1293.out.cell 1 rfl 1 rfl
    have z1300 := H1293.out.free 1 rfl 1
    have H1301 := hid (show St B W [.cells D1277 #[.int .i64 t1285, .int .i64 t1286] 99, .cells (B + 1 + 1 + 1) #[.int .i64 t1285, .int .i64 t1286] 99, .cells (B + 1 + 1) #[.int .i64 yl, .int .i64 yh] 99, .cells (B + 1) #[.int .i64 xl, .int .i64 xh] 99, .cells B #[.int .i64 10, .int .i64 g] 60] [] ((k1294.setCell ⟨B + 1 + 1 + 1, 0, none⟩ (.int .i64 t1285)).setCell ⟨B + 1 + 1 + 1, 1, none⟩ (.int .i64 t1286)) from ((H1293.out.set 1 rfl 0 (.int .i64 t1285)).set 1 rfl 1 (.int .i64 t1286)))
    go_simp
    refine hK.out _ _ ?_ (fun hHeld2 => ?_)
    focus ((try dsimp only); (exact ⟨H1301.out.cell 0 rfl 0 rfl, H1301.out.cell 0 rfl 1 rfl⟩))
    clear hK K hHeld
    try simp only [Act.put, p1, p2, p3, p4, p5, p6]
    clear z1297 z1298 z1299 z1300
    generalize ((k1294.setCell ⟨B + 1 + 1 + 1, 0, none⟩ (.int .i64 t1285)).setCell ⟨B + 1 + 1 + 1, 1, none⟩ (.int .i64 t1286)) = k1302 at *
    have hHeld := hHeld2
    clear hHeld2
    refine tkA 13 ?_
    try simp only [Act.put, p1, p2, p3, p4, p5, p6]
    refine wpAnyH_done (by kernel_rfl) ?_ _
    try clear hHeld
    have z1303 := H1301.out.cell 1 rfl 0 rfl
    have z1304 := H1301.out.cell 1 rfl 1 rfl
    go_wp2_with fail
    clear z1303 z1304
    have hpk := hid (show pwIok 10 g (xl, xh) (yl, yh) a b = false from by unfold pwIok; rw [(show (pwInt 10 g (xl, xh) (yl, yh) a b).1 = t1285 from by rw [← HNt1285.out]; rfl), (show (pwInt 10 g (xl, xh) (yl, yh) a b).2 = t1286 from by rw [← HNt1286.out]; rfl), HNb1296.out]; rfl)
    have q1305 := H1301.out.cell 1 rfl 0 rfl
    have q1306 := H1301.out.cell 1 rfl 1 rfl
    refine bodyPost_ret (v := .tuple #[.agg #[.int .i64 t1285, .int .i64 t1286], .bool false]) ?_ rfl ⟨⟨_, _, by rw [hpk.out], fun _ => ⟨(show (pwInt 10 g (xl, xh) (yl, yh) a b).1 = t1285 from by rw [← HNt1285.out]; rfl).symm, (show (pwInt 10 g (xl, xh) (yl, yh) a b).2 = t1286 from by rw [← HNt1286.out]; rfl).symm⟩⟩, by first | exact H1301.out.below | exact H1301.out.below'⟩
    simp [results, Try.results73, go_sem, q1305, q1306]
  · skip
    refine tkA 6 ?_
    try simp only [Act.put, p1, p2, p3, p4, p5, p6]
    refine tkA 7 ?_
    try simp only [Act.put, p1, p2, p3, p4, p5, p6]
    refine tkA 8 ?_
    try simp only [Act.put, p1, p2, p3, p4, p5, p6]
    refine tkA 9 ?_
    try simp only [Act.put, p1, p2, p3, p4, p5, p6]
    refine wpAnyH_ready (rs := [10]) (by kernel_rfl) (by simp) (AllReadyH.cons (o := _) rfl (fun K hK => ?_) AllReadyH.nil)
    go_simp
    go_at_call 121
    refine (racc_any _ _).mono ?_
    rintro e w1307 ⟨rfl, hsw⟩
    have hsw2 : k1294 = w1307 := by first | exact hsw | exact hsw.symm
    clear hsw
    subst hsw2
    obtain ⟨b1308, hb1308⟩ : ∃ xx', accOk t1286 = xx' := ⟨_, rfl⟩
    rw [hb1308]
    have HNb1308 := hid hb1308
    clear hb1308
    refine hK.out _ _ ?_ (fun hHeld2 => ?_)
    focus ((try dsimp only); (exact ⟨H1293.out.cell 0 rfl 0 rfl, H1293.out.cell 0 rfl 1 rfl⟩))
    clear hK K
    try simp only [Act.put, p1, p2, p3, p4, p5, p6]
    clear hHeld
    have hHeld := hHeld2
    clear hHeld2
    refine tkA 11 ?_
    try simp only [Act.put, p1, p2, p3, p4, p5, p6]
    refine wpAnyH_ready (rs := [12]) (by kernel_rfl) (by simp) (AllReadyH.cons (o := _) rfl (fun K hK => ?_) AllReadyH.nil)
    have z1309 := H1293.out.cell 1 rfl 0 rfl
    have z1310 := H1293.out.free 1 rfl 0
    have z1311 := H1293.out.cell 1 rfl 1 rfl
    have z1312 := H1293.out.free 1 rfl 1
    have H1313 := hid (show St B W [.cells D1277 #[.int .i64 t1285, .int .i64 t1286] 99, .cells (B + 1 + 1 + 1) #[.int .i64 t1285, .int .i64 t1286] 99, .cells (B + 1 + 1) #[.int .i64 yl, .int .i64 yh] 99, .cells (B + 1) #[.int .i64 xl, .int .i64 xh] 99, .cells B #[.int .i64 10, .int .i64 g] 60] [] ((k1294.setCell ⟨B + 1 + 1 + 1, 0, none⟩ (.int .i64 t1285)).setCell ⟨B + 1 + 1 + 1, 1, none⟩ (.int .i64 t1286)) from ((H1293.out.set 1 rfl 0 (.int .i64 t1285)).set 1 rfl 1 (.int .i64 t1286)))
    go_simp
    refine hK.out _ _ ?_ (fun hHeld2 => ?_)
    focus ((try dsimp only); (exact ⟨H1313.out.cell 0 rfl 0 rfl, H1313.out.cell 0 rfl 1 rfl⟩))
    clear hK K hHeld
    try simp only [Act.put, p1, p2, p3, p4, p5, p6]
    clear z1309 z1310 z1311 z1312
    generalize ((k1294.setCell ⟨B + 1 + 1 + 1, 0, none⟩ (.int .i64 t1285)).setCell ⟨B + 1 + 1 + 1, 1, none⟩ (.int .i64 t1286)) = k1314 at *
    have hHeld := hHeld2
    clear hHeld2
    refine tkA 13 ?_
    try simp only [Act.put, p1, p2, p3, p4, p5, p6]
    refine wpAnyH_done (by kernel_rfl) ?_ _
    try clear hHeld
    have z1315 := H1313.out.cell 1 rfl 0 rfl
    have z1316 := H1313.out.cell 1 rfl 1 rfl
    go_wp2_with fail
    clear z1315 z1316
    have hpk := hid (show pwIok 10 g (xl, xh) (yl, yh) a b = b1308 from by unfold pwIok; rw [(show (pwInt 10 g (xl, xh) (yl, yh) a b).1 = t1285 from by rw [← HNt1285.out]; rfl), (show (pwInt 10 g (xl, xh) (yl, yh) a b).2 = t1286 from by rw [← HNt1286.out]; rfl), HNb1296.out, HNb1308.out]; rfl)
    have q1317 := H1313.out.cell 1 rfl 0 rfl
    have q1318 := H1313.out.cell 1 rfl 1 rfl
    refine bodyPost_ret (v := .tuple #[.agg #[.int .i64 t1285, .int .i64 t1286], .bool b1308]) ?_ rfl ⟨⟨_, _, by rw [hpk.out], fun _ => ⟨(show (pwInt 10 g (xl, xh) (yl, yh) a b).1 = t1285 from by rw [← HNt1285.out]; rfl).symm, (show (pwInt 10 g (xl, xh) (yl, yh) a b).2 = t1286 from by rw [← HNt1286.out]; rfl).symm⟩⟩, by first | exact H1313.out.below | exact H1313.out.below'⟩
    simp [results, Try.results73, go_sem, q1317, q1318]

set_option maxRecDepth 100000 in
set_option maxHeartbeats 3200000 in
theorem rnext_any_11 (g xl xh yl yh a b : Int) (W : World) (hxl : accOk xl = true) (hxh : accOk xh = true) (hyl : accOk yl = true) (hyh : accOk yh = true) : Calls Try.prog 73 #[.agg #[.int .i64 11, .int .i64 g], .agg #[.int .i64 xl, .int .i64 xh], .agg #[.int .i64 yl, .int .i64 yh], .int .i64 a, .int .i64 b] W fun e w' => (∃ lo hi, e = .returned (.tuple #[.agg #[.int .i64 lo, .int .i64 hi], .bool (pwIok 11 g (xl, xh) (yl, yh) a b)]) ∧ (pwIok 11 g (xl, xh) (yl, yh) a b = true → lo = (pwInt 11 g (xl, xh) (yl, yh) a b).1 ∧ hi = (pwInt 11 g (xl, xh) (yl, yh) a b).2)) ∧ Below W.heap.size W w' := by
  obtain ⟨xl1, xl2⟩ := accOk_iff.1 hxl
  obtain ⟨xh1, xh2⟩ := accOk_iff.1 hxh
  obtain ⟨yl1, yl2⟩ := accOk_iff.1 hyl
  obtain ⟨yh1, yh2⟩ := accOk_iff.1 hyh
  obtain ⟨B, hB⟩ : ∃ B, W.heap.size = B := ⟨_, rfl⟩
  have HI0 := hid (St.init hB)
  go_enter Try.func73, Try.ntmps73
  go_upto_region 1 with fail
  have H1319 := hid (show St B W [.cells (B + 1 + 1 + 1) #[.int .i64 0, .int .i64 0] 99, .cells (B + 1 + 1) #[.int .i64 yl, .int .i64 yh] 99, .cells (B + 1) #[.int .i64 xl, .int .i64 xh] 99, .cells B #[.int .i64 11, .int .i64 g] 60] [] ((((W.alloc (.cells #[.int .i64 11, .int .i64 g] 60)).alloc (.cells #[.int .i64 xl, .int .i64 xh] 99)).alloc (.cells #[.int .i64 yl, .int .i64 yh] 99)).alloc (.cells #[.int .i64 0, .int .i64 0] 99)) from ((((HI0.out.alloc #[.int .i64 11, .int .i64 g] 60 hB).alloc #[.int .i64 xl, .int .i64 xh] 99 (by first | exact hB | simp [hB])).alloc #[.int .i64 yl, .int .i64 yh] 99 (by first | exact hB | simp [hB])).alloc #[.int .i64 0, .int .i64 0] 99 (by first | exact hB | simp [hB])))
  first | refine gen_code H1319.out ?_ | refine gen_list H1319.out ?_ | refine gen_calls H1319.out ?_
  intro w1320 hG
  clear H1319
  have H1319 := hid hG
  clear hG
  obtain ⟨mg, hmg⟩ : ∃ zz : Int, (if absI xl < absI xh then absI xh else absI xl) = zz := ⟨_, rfl⟩
  have H1321 := hid H1319.out.drew
  refine wp_region_held_drew (S := (fun w' => w'.cell? ⟨B + 1, 0, none⟩ = some (.int .i64 xl) ∧ w'.cell? ⟨B + 1, 1, none⟩ = some (.int .i64 xh))) (by kernel_rfl) ⟨H1321.out.cell 2 rfl 0 rfl, H1321.out.cell 2 rfl 1 rfl⟩ (fun hHeld => ?_)
  generalize w1320.drew = k1322 at *
  refine tkA 0 ?_
  try simp only [Act.put, p1, p2, p3, p4, p5, p6]
  refine tkA 1 ?_
  try simp only [Act.put, p1, p2, p3, p4, p5, p6]
  refine tkA 3 ?_
  try simp only [Act.put, p1, p2, p3, p4, p5, p6]
  refine tkA 4 ?_
  try simp only [Act.put, p1, p2, p3, p4, p5, p6]
  refine wpAnyH_ready (rs := [2]) (by kernel_rfl) (by simp) (AllReadyH.cons (o := _) rfl (fun K hK => ?_) AllReadyH.nil)
  go_simp
  go_at_call 118
  refine (rabs_any _ (by omega) _).mono ?_
  rintro e w1323 ⟨rfl, hsw⟩
  have hsw2 : k1322 = w1323 := by first | exact hsw | exact hsw.symm
  clear hsw
  subst hsw2
  refine hK.out _ _ ?_ (fun hHeld2 => ?_)
  focus ((try dsimp only); (exact ⟨H1321.out.cell 2 rfl 0 rfl, H1321.out.cell 2 rfl 1 rfl⟩))
  clear hK K
  try simp only [Act.put, p1, p2, p3, p4, p5, p6]
  clear hHeld
  have hHeld := hHeld2
  clear hHeld2
  refine wpAnyH_ready (rs := [5]) (by kernel_rfl) (by simp) (AllReadyH.cons (o := _) rfl (fun K hK => ?_) AllReadyH.nil)
  go_simp
  go_at_call 118
  refine (rabs_any _ (by omega) _).mono ?_
  rintro e w1324 ⟨rfl, hsw⟩
  have hsw2 : k1322 = w1324 := by first | exact hsw | exact hsw.symm
  clear hsw
  subst hsw2
  refine hK.out _ _ ?_ (fun hHeld2 => ?_)
  focus ((try dsimp only); (exact ⟨H1321.out.cell 2 rfl 0 rfl, H1321.out.cell 2 rfl 1 rfl⟩))
  clear hK K
  try simp only [Act.put, p1, p2, p3, p4, p5, p6]
  clear hHeld
  have hHeld := hHeld2
  clear hHeld2
  refine tkA 6 ?_
  try simp only [Act.put, p1, p2, p3, p4, p5, p6]
  refine tkA 7 ?_
  try simp only [Act.put, p1, p2, p3, p4, p5, p6]
  refine wpAnyH_done (by kernel_rfl) ?_ _
  try clear hHeld
  have HMG := hid (show mxI (absI xl) (absI xh) = mg from hmg)
  clear hmg
  obtain ⟨mga, mgb⟩ : 0 ≤ mg ∧ mg ≤ 17592186044416 := by rw [← HMG.out]; exact mag_bd hxl hxh
  have mgw : IntKind.i64.wrap (-mg) = -mg := IntWalk.i64_in _ (by omega)
  obtain ⟨D1325, hD1325⟩ : ∃ D, k1322.heap.size = D := ⟨_, rfl⟩
  go_upto_region 3 with fail
  have H1326 := hid (show St B W [.cells D1325 #[.int .i64 0, .int .i64 0] 99, .cells (B + 1 + 1 + 1) #[.int .i64 0, .int .i64 0] 99, .cells (B + 1 + 1) #[.int .i64 yl, .int .i64 yh] 99, .cells (B + 1) #[.int .i64 xl, .int .i64 xh] 99, .cells B #[.int .i64 11, .int .i64 g] 60] [] (k1322.alloc (.cells #[.int .i64 0, .int .i64 0] 99)) from (H1321.out.alloc #[.int .i64 0, .int .i64 0] 99 hD1325))
  first | refine gen_code H1326.out ?_ | refine gen_list H1326.out ?_ | refine gen_calls H1326.out ?_
  intro w1327 hG
  clear H1326
  have H1326 := hid hG
  clear hG
  clear hD1325
  have z1328 := H1326.out.cell 4 rfl 0 rfl
  have z1329 := H1326.out.cell 4 rfl 1 rfl
  have z1330 := H1326.out.cell 0 rfl 0 rfl
  have z1331 := H1326.out.free 0 rfl 0
  have z1332 := H1326.out.cell 0 rfl 1 rfl
  have z1333 := H1326.out.free 0 rfl 1
  go_upto_region 27 with fail
  clear z1328 z1329 z1330 z1331 z1332 z1333
  have H1334 := hid (show St B W [.cells D1325 #[.int .i64 0, .int .i64 mg] 99, .cells (B + 1 + 1 + 1) #[.int .i64 0, .int .i64 0] 99, .cells (B + 1 + 1) #[.int .i64 yl, .int .i64 yh] 99, .cells (B + 1) #[.int .i64 xl, .int .i64 xh] 99, .cells B #[.int .i64 11, .int .i64 g] 60] [] ((w1327.setCell ⟨D1325, 0, none⟩ (.int .i64 0)).setCell ⟨D1325, 1, none⟩ (.int .i64 mg)) from ((H1326.out.set 0 rfl 0 (.int .i64 0)).set 0 rfl 1 (.int .i64 mg)))
  first | refine gen_code H1334.out ?_ | refine gen_list H1334.out ?_ | refine gen_calls H1334.out ?_
  intro w1335 hG
  clear H1334
  have H1334 := hid hG
  clear hG
  have H1336 := hid H1334.out.drew
  refine wp_region_held_drew (S := (fun w' => w'.cell? ⟨D1325, 0, none⟩ = some (.int .i64 0) ∧ w'.cell? ⟨D1325, 1, none⟩ = some (.int .i64 mg))) (by kernel_rfl) ⟨H1336.out.cell 0 rfl 0 rfl, H1336.out.cell 0 rfl 1 rfl⟩ (fun hHeld => ?_)
  generalize w1335.drew = k1337 at *
  refine tkA 0 ?_
  try simp only [Act.put, p1, p2, p3, p4, p5, p6]
  refine tkA 1 ?_
  try simp only [Act.put, p1, p2, p3, p4, p5, p6]
  refine tkA 2 ?_
  try simp only [Act.put, p1, p2, p3, p4, p5, p6]
  refine tkA 3 ?_
  try simp only [Act.put, p1, p2, p3, p4, p5, p6]
  refine tkA 4 ?_
  try simp only [Act.put, p1, p2, p3, p4, p5, p6]
  refine wpAnyH_ready (rs := [5]) (by kernel_rfl) (by simp) (AllReadyH.cons (o := _) rfl (fun K hK => ?_) AllReadyH.nil)
  go_simp
  go_at_call 121
  refine (racc_any _ _).mono ?_
  rintro e w1338 ⟨rfl, hsw⟩
  have hsw2 : k1337 = w1338 := by first | exact hsw | exact hsw.symm
  clear hsw
  subst hsw2
  obtain ⟨b1339, hb1339⟩ : ∃ xx', accOk 0 = xx' := ⟨_, rfl⟩
  rw [hb1339]
  have HNb1339 := hid hb1339
  clear hb1339
  refine hK.out _ _ ?_ (fun hHeld2 => ?_)
  focus ((try dsimp only); (exact ⟨H1336.out.cell 0 rfl 0 rfl, H1336.out.cell 0 rfl 1 rfl⟩))
  clear hK K
  try simp only [Act.put, p1, p2, p3, p4, p5, p6]
  clear hHeld
  have hHeld := hHeld2
  clear hHeld2
  cases b1339
  · skip
    refine tkA 6 ?_
    try simp only [Act.put, p1, p2, p3, p4, p5, p6]
    refine tkA 7 ?_
    try simp only [Act.put, p1, p2, p3, p4, p5, p6]
    refine tkU 8 ?_
    try simp only [Act.put, p1, p2, p3, p4, p5, p6]
    refine tkU 9 ?_
    try simp only [Act.put, p1, p2, p3, p4, p5, p6]
    refine tkU 10 ?_
    try simp only [Act.put, p1, p2, p3, p4, p5, p6]
    refine tkA 11 ?_
    try simp only [Act.put, p1, p2, p3, p4, p5, p6]
    refine wpAnyH_ready (rs := [12]) (by kernel_rfl) (by simp) (AllReadyH.cons (o := _) rfl (fun K hK => ?_) AllReadyH.nil)
    have z1340 := H1336.out.cell 1 rfl 0 rfl
    have z1341 := H1336.out.free 1 rfl 0
    have z1342 := H1336.out.cell 1 rfl 1 rfl
    have z1343 := H1336.out.free 1 rfl 1
    have H1344 := hid (show St B W [.cells D1325 #[.int .i64 0, .int .i64 mg] 99, .cells (B + 1 + 1 + 1) #[.int .i64 0, .int .i64 mg] 99, .cells (B + 1 + 1) #[.int .i64 yl, .int .i64 yh] 99, .cells (B + 1) #[.int .i64 xl, .int .i64 xh] 99, .cells B #[.int .i64 11, .int .i64 g] 60] [] ((k1337.setCell ⟨B + 1 + 1 + 1, 0, none⟩ (.int .i64 0)).setCell ⟨B + 1 + 1 + 1, 1, none⟩ (.int .i64 mg)) from ((H1336.out.set 1 rfl 0 (.int .i64 0)).set 1 rfl 1 (.int .i64 mg)))
    go_simp
    refine hK.out _ _ ?_ (fun hHeld2 => ?_)
    focus ((try dsimp only); (exact ⟨H1344.out.cell 0 rfl 0 rfl, H1344.out.cell 0 rfl 1 rfl⟩))
    clear hK K hHeld
    try simp only [Act.put, p1, p2, p3, p4, p5, p6]
    clear z1340 z1341 z1342 z1343
    generalize ((k1337.setCell ⟨B + 1 + 1 + 1, 0, none⟩ (.int .i64 0)).setCell ⟨B + 1 + 1 + 1, 1, none⟩ (.int .i64 mg)) = k1345 at *
    have hHeld := hHeld2
    clear hHeld2
    refine tkA 13 ?_
    try simp only [Act.put, p1, p2, p3, p4, p5, p6]
    refine wpAnyH_done (by kernel_rfl) ?_ _
    try clear hHeld
    have z1346 := H1344.out.cell 1 rfl 0 rfl
    have z1347 := H1344.out.cell 1 rfl 1 rfl
    go_wp2_with fail
    clear z1346 z1347
    have hpk := hid (show pwIok 11 g (xl, xh) (yl, yh) a b = false from by unfold pwIok; rw [(show (pwInt 11 g (xl, xh) (yl, yh) a b).1 = 0 from rfl), (show (pwInt 11 g (xl, xh) (yl, yh) a b).2 = mg from HMG.out), HNb1339.out]; rfl)
    have q1348 := H1344.out.cell 1 rfl 0 rfl
    have q1349 := H1344.out.cell 1 rfl 1 rfl
    refine bodyPost_ret (v := .tuple #[.agg #[.int .i64 0, .int .i64 mg], .bool false]) ?_ rfl ⟨⟨_, _, by rw [hpk.out], fun _ => ⟨(show (pwInt 11 g (xl, xh) (yl, yh) a b).1 = 0 from rfl).symm, (show (pwInt 11 g (xl, xh) (yl, yh) a b).2 = mg from HMG.out).symm⟩⟩, by first | exact H1344.out.below | exact H1344.out.below'⟩
    simp [results, Try.results73, go_sem, q1348, q1349]
  · skip
    refine tkA 6 ?_
    try simp only [Act.put, p1, p2, p3, p4, p5, p6]
    refine tkA 7 ?_
    try simp only [Act.put, p1, p2, p3, p4, p5, p6]
    refine tkA 8 ?_
    try simp only [Act.put, p1, p2, p3, p4, p5, p6]
    refine tkA 9 ?_
    try simp only [Act.put, p1, p2, p3, p4, p5, p6]
    refine wpAnyH_ready (rs := [10]) (by kernel_rfl) (by simp) (AllReadyH.cons (o := _) rfl (fun K hK => ?_) AllReadyH.nil)
    go_simp
    go_at_call 121
    refine (racc_any _ _).mono ?_
    rintro e w1350 ⟨rfl, hsw⟩
    have hsw2 : k1337 = w1350 := by first | exact hsw | exact hsw.symm
    clear hsw
    subst hsw2
    obtain ⟨b1351, hb1351⟩ : ∃ xx', accOk mg = xx' := ⟨_, rfl⟩
    rw [hb1351]
    have HNb1351 := hid hb1351
    clear hb1351
    refine hK.out _ _ ?_ (fun hHeld2 => ?_)
    focus ((try dsimp only); (exact ⟨H1336.out.cell 0 rfl 0 rfl, H1336.out.cell 0 rfl 1 rfl⟩))
    clear hK K
    try simp only [Act.put, p1, p2, p3, p4, p5, p6]
    clear hHeld
    have hHeld := hHeld2
    clear hHeld2
    refine tkA 11 ?_
    try simp only [Act.put, p1, p2, p3, p4, p5, p6]
    refine wpAnyH_ready (rs := [12]) (by kernel_rfl) (by simp) (AllReadyH.cons (o := _) rfl (fun K hK => ?_) AllReadyH.nil)
    have z1352 := H1336.out.cell 1 rfl 0 rfl
    have z1353 := H1336.out.free 1 rfl 0
    have z1354 := H1336.out.cell 1 rfl 1 rfl
    have z1355 := H1336.out.free 1 rfl 1
    have H1356 := hid (show St B W [.cells D1325 #[.int .i64 0, .int .i64 mg] 99, .cells (B + 1 + 1 + 1) #[.int .i64 0, .int .i64 mg] 99, .cells (B + 1 + 1) #[.int .i64 yl, .int .i64 yh] 99, .cells (B + 1) #[.int .i64 xl, .int .i64 xh] 99, .cells B #[.int .i64 11, .int .i64 g] 60] [] ((k1337.setCell ⟨B + 1 + 1 + 1, 0, none⟩ (.int .i64 0)).setCell ⟨B + 1 + 1 + 1, 1, none⟩ (.int .i64 mg)) from ((H1336.out.set 1 rfl 0 (.int .i64 0)).set 1 rfl 1 (.int .i64 mg)))
    go_simp
    refine hK.out _ _ ?_ (fun hHeld2 => ?_)
    focus ((try dsimp only); (exact ⟨H1356.out.cell 0 rfl 0 rfl, H1356.out.cell 0 rfl 1 rfl⟩))
    clear hK K hHeld
    try simp only [Act.put, p1, p2, p3, p4, p5, p6]
    clear z1352 z1353 z1354 z1355
    generalize ((k1337.setCell ⟨B + 1 + 1 + 1, 0, none⟩ (.int .i64 0)).setCell ⟨B + 1 + 1 + 1, 1, none⟩ (.int .i64 mg)) = k1357 at *
    have hHeld := hHeld2
    clear hHeld2
    refine tkA 13 ?_
    try simp only [Act.put, p1, p2, p3, p4, p5, p6]
    refine wpAnyH_done (by kernel_rfl) ?_ _
    try clear hHeld
    have z1358 := H1356.out.cell 1 rfl 0 rfl
    have z1359 := H1356.out.cell 1 rfl 1 rfl
    go_wp2_with fail
    clear z1358 z1359
    have hpk := hid (show pwIok 11 g (xl, xh) (yl, yh) a b = b1351 from by unfold pwIok; rw [(show (pwInt 11 g (xl, xh) (yl, yh) a b).1 = 0 from rfl), (show (pwInt 11 g (xl, xh) (yl, yh) a b).2 = mg from HMG.out), HNb1339.out, HNb1351.out]; rfl)
    have q1360 := H1356.out.cell 1 rfl 0 rfl
    have q1361 := H1356.out.cell 1 rfl 1 rfl
    refine bodyPost_ret (v := .tuple #[.agg #[.int .i64 0, .int .i64 mg], .bool b1351]) ?_ rfl ⟨⟨_, _, by rw [hpk.out], fun _ => ⟨(show (pwInt 11 g (xl, xh) (yl, yh) a b).1 = 0 from rfl).symm, (show (pwInt 11 g (xl, xh) (yl, yh) a b).2 = mg from HMG.out).symm⟩⟩, by first | exact H1356.out.below | exact H1356.out.below'⟩
    simp [results, Try.results73, go_sem, q1360, q1361]
theorem rnext_any (c g xl xh yl yh a b : Int) (W : World) (hc : 0 ≤ c ∧ c ≤ 11) (hxl : accOk xl = true) (hxh : accOk xh = true) (hyl : accOk yl = true) (hyh : accOk yh = true) : Calls Try.prog 73 #[.agg #[.int .i64 c, .int .i64 g], .agg #[.int .i64 xl, .int .i64 xh], .agg #[.int .i64 yl, .int .i64 yh], .int .i64 a, .int .i64 b] W fun e w' => (∃ lo hi, e = .returned (.tuple #[.agg #[.int .i64 lo, .int .i64 hi], .bool (pwIok c g (xl, xh) (yl, yh) a b)]) ∧ (pwIok c g (xl, xh) (yl, yh) a b = true → lo = (pwInt c g (xl, xh) (yl, yh) a b).1 ∧ hi = (pwInt c g (xl, xh) (yl, yh) a b).2)) ∧ Below W.heap.size W w' := by
  rcases codes (c := c) (by omega) (by omega) with rfl | rfl | rfl | rfl | rfl | rfl | rfl | rfl | rfl | rfl | rfl | rfl
  · exact rnext_any_0 g xl xh yl yh a b W hxl hxh hyl hyh
  · exact rnext_any_1 g xl xh yl yh a b W hxl hxh hyl hyh
  · exact rnext_any_2 g xl xh yl yh a b W hxl hxh hyl hyh
  · exact rnext_any_3 g xl xh yl yh a b W hxl hxh hyl hyh
  · exact rnext_any_4 g xl xh yl yh a b W hxl hxh hyl hyh
  · exact rnext_any_5 g xl xh yl yh a b W hxl hxh hyl hyh
  · exact rnext_any_6 g xl xh yl yh a b W hxl hxh hyl hyh
  · exact rnext_any_7 g xl xh yl yh a b W hxl hxh hyl hyh
  · exact rnext_any_8 g xl xh yl yh a b W hxl hxh hyl hyh
  · exact rnext_any_9 g xl xh yl yh a b W hxl hxh hyl hyh
  · exact rnext_any_10 g xl xh yl yh a b W hxl hxh hyl hyh
  · exact rnext_any_11 g xl xh yl yh a b W hxl hxh hyl hyh
end Go.Proofs.Ytnnpnljdefmmcaa
