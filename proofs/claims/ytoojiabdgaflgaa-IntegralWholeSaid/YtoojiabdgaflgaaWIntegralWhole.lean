/-
  The walk of IntegralWhole: the integral planes, sums and checks of the program are those of the reference.
-/
import Derived.Test.YtoojiabdgaflgaaSane13
import Derived.Test.YtoojiabdgaflgaaSpoil
import Derived.Test.YtoojiabdgaflgaaEqual
namespace Go.Proofs.Ytoojiabdgaflgaa
open Go.RowKit
attribute [local go_sem ↓] Go.wp_at_zero Go.wp_at_succ
set_option linter.unusedVariables false
set_option linter.unusedSimpArgs false

set_option maxRecDepth 100000 in
set_option maxHeartbeats 12800000 in
theorem walk_IntegralWhole (a : Option Addr) (n c : Nat) (zs : List Int) (s0 s1 s2 r0 r1 r2 r3 : Int) (W : World) (hr : RowIn .i64 W a n c zs) (_ : I64 s0) (_ : I64 s1) (_ : I64 s2) (_ : I64 r0) (_ : I64 r1) (_ : I64 r2) (_ : I64 r3) :
    Calls Try.prog 8 #[.slice a n c, .agg #[.int .i64 s0, .int .i64 s1, .int .i64 s2], .agg #[.int .i64 r0, .int .i64 r1, .int .i64 r2, .int .i64 r3]] W fun e w' => e = .returned (.bool true) ∧ Below W.heap.size W w' := by
  obtain ⟨B, hB⟩ : ∃ B, W.heap.size = B := ⟨_, rfl⟩
  have HI0 := hid (St.init hB)
  have HN := hid (near_of_row hr hB)
  have HR := hid hr
  clear hr
  go_enter Try.func8, Try.ntmps8
  go_upto_region 1 with fail
  have H1 := hid (show St B W [.cells (B + 1) #[.int .i64 r0, .int .i64 r1, .int .i64 r2, .int .i64 r3] 39, .cells B #[.int .i64 s0, .int .i64 s1, .int .i64 s2] 55] [] ((W.alloc (.cells #[.int .i64 s0, .int .i64 s1, .int .i64 s2] 55)).alloc (.cells #[.int .i64 r0, .int .i64 r1, .int .i64 r2, .int .i64 r3] 39)) from ((HI0.out.alloc #[.int .i64 s0, .int .i64 s1, .int .i64 s2] 55 hB).alloc #[.int .i64 r0, .int .i64 r1, .int .i64 r2, .int .i64 r3] 39 (by first | exact hB | simp [hB])))
  first | refine gen_code H1.out ?_ | refine gen_list H1.out ?_ | refine gen_calls H1.out ?_
  intro w2 hG
  clear H1
  have H1 := hid hG
  clear hG
  go_wp2_with fail
  obtain ⟨K3, hK3⟩ : ∃ D, w2.heap.size = D := ⟨_, rfl⟩
  refine (newB_any B _ _ _ _ _ HR.out.len (H1.out.oldRow HR.out.row) HN.out H1.out.size).mono ?_
  rintro e w4 ⟨rfl, ht, hb, hs⟩
  rw [hK3] at ht ⊢
  have H5 := hid (H1.out.newTape ht hb hK3)
  clear ht hb hs hK3
  go_upto_region 2 with fail
  have H6 := hid H5.out.drew
  refine wp_region_held_drew (S := (fun w' => w'.cell? ⟨B, 0, none⟩ = some (.int .i64 s0) ∧ w'.cell? ⟨B, 1, none⟩ = some (.int .i64 s1) ∧ w'.cell? ⟨B, 2, none⟩ = some (.int .i64 s2))) (by kernel_rfl) ⟨H6.out.cell 2 rfl 0 rfl, H6.out.cell 2 rfl 1 rfl, H6.out.cell 2 rfl 2 rfl⟩ (fun hHeld => ?_)
  generalize w4.drew = k7 at *
  refine wpAnyH_take (i := 0) (oi := _) (v := ?_) rfl (by kernel_rfl) (by kernel_rfl) (by kernel_rfl) (fun _ _ _ h => h) (Or.inl ⟨by rfl, ?_⟩) (by assumption) ?_
  rotate_left
  focus (intro wS hSw; (try dsimp only at hSw); go_simp; (try with_reducible rfl))
  try simp only [Act.put, List.getElem_toArray, List.getElem_cons_zero, List.getElem_cons_succ, List.setIfInBounds_toArray, List.set_cons_zero, List.set_cons_succ]
  refine wpAnyH_take (i := 2) (oi := _) (v := ?_) rfl (by kernel_rfl) (by kernel_rfl) (by kernel_rfl) (fun _ _ _ h => h) (Or.inl ⟨by rfl, ?_⟩) (by assumption) ?_
  rotate_left
  focus (intro wS hSw; (try dsimp only at hSw); go_simp; (try with_reducible rfl))
  try simp only [Act.put, List.getElem_toArray, List.getElem_cons_zero, List.getElem_cons_succ, List.setIfInBounds_toArray, List.set_cons_zero, List.set_cons_succ]
  refine wpAnyH_ready (rs := [1]) (by kernel_rfl) (by simp) (AllReadyH.cons (o := _) rfl (fun K hK => ?_) AllReadyH.nil)
  go_simp
  go_at_call 40
  refine (icheck_any _ _ _ _).mono ?_
  rintro e w8 ⟨rfl, hb⟩
  have H9 := hid (H6.out.call hb)
  clear hb
  obtain ⟨c10, hc10⟩ : ∃ z, iCode s0 s1 s2 = z := ⟨_, rfl⟩
  rw [hc10]
  have HNc10 := hid hc10
  clear hc10
  refine hK.out _ _ ?_ (fun hHeld2 => ?_)
  focus ((try dsimp only); (exact ⟨H9.out.cell 2 rfl 0 rfl, H9.out.cell 2 rfl 1 rfl, H9.out.cell 2 rfl 2 rfl⟩))
  clear hK K
  try simp only [Act.put, List.getElem_toArray, List.getElem_cons_zero, List.getElem_cons_succ, List.setIfInBounds_toArray, List.set_cons_zero, List.set_cons_succ]
  clear hHeld
  have hHeld := hHeld2
  clear hHeld2
  refine wpAnyH_ready (rs := [3]) (by kernel_rfl) (by simp) (AllReadyH.cons (o := _) rfl (fun K hK => ?_) AllReadyH.nil)
  go_simp
  go_at_call 41
  refine (qicheck_any _ _ _ _).mono ?_
  rintro e w11 ⟨rfl, hb⟩
  have H12 := hid (H9.out.call hb)
  clear hb
  rw [HNc10.out]
  refine hK.out _ _ ?_ (fun hHeld2 => ?_)
  focus ((try dsimp only); (exact ⟨H12.out.cell 2 rfl 0 rfl, H12.out.cell 2 rfl 1 rfl, H12.out.cell 2 rfl 2 rfl⟩))
  clear hK K
  try simp only [Act.put, List.getElem_toArray, List.getElem_cons_zero, List.getElem_cons_succ, List.setIfInBounds_toArray, List.set_cons_zero, List.set_cons_succ]
  clear hHeld
  have hHeld := hHeld2
  clear hHeld2
  refine wpAnyH_take (i := 4) (oi := _) (v := ?_) rfl (by kernel_rfl) (by kernel_rfl) (by kernel_rfl) (fun _ _ _ h => h) (Or.inl ⟨by rfl, ?_⟩) (by assumption) ?_
  rotate_left
  focus (intro wS hSw; (try dsimp only at hSw); go_simp; (try with_reducible rfl))
  try simp only [Act.put, List.getElem_toArray, List.getElem_cons_zero, List.getElem_cons_succ, List.setIfInBounds_toArray, List.set_cons_zero, List.set_cons_succ]
  refine wpAnyH_done (by kernel_rfl) ?_ _
  try clear hHeld
  go_wp2_with fail
  go_loopw [8] (fun i wr => ∃ j : Nat, j ≤ 4 ∧ i = .int .i64 j ∧ St B W [.tape K3, .cells (B + 1) #[.int .i64 r0, .int .i64 r1, .int .i64 r2, .int .i64 r3] 39, .cells B #[.int .i64 s0, .int .i64 s1, .int .i64 s2] 55] [] wr) (fun i _ => 4 - (intOf i).toNat)
  case atStart => exact ⟨0, by omega, rfl, H12.out.pick [0, 1, 2] rfl (by decide)⟩
  case round =>
    obtain ⟨j, hj, rfl, hst⟩ := hrel
    obtain ⟨u13, rfl⟩ : ∃ u13 : World, u13 = wr := ⟨_, rfl⟩
    have H14 := hid hst
    clear hst
    by_cases c15 : (j : Int) < 4
    · skip
      go_wp2_with fail
      refine (plane_any B K3 _ (H14.out.tapeAt 0 rfl)).mono ?_
      rintro e w17 ⟨pw16, ph16, pw161, pw162, ph161, ph162, pm16, pv16, ps16, rfl, hv, hm, ho, ht, hg⟩
      have H18 := hid (H14.out.add (H14.out.next 0 rfl ht hg) ho)
      have HVps16 := hid hv
      have HMps16 := hid hm
      obtain ⟨pv16a, pv16c, rfl, _⟩ := ho.slc
      clear hv hm ho ht hg
      obtain ⟨D19, hD19⟩ : ∃ D, w17.heap.size = D := ⟨_, rfl⟩
      go_upto_region 8 with fail
      have H20 := hid (show St B W [.cells D19 #[.int .i64 pw16, .int .i64 ph16, .int .i64 pm16, .slice pv16a ps16.length pv16c] 26, .own (.slice pv16a ps16.length pv16c) ps16, .tape K3, .cells (B + 1) #[.int .i64 r0, .int .i64 r1, .int .i64 r2, .int .i64 r3] 39, .cells B #[.int .i64 s0, .int .i64 s1, .int .i64 s2] 55] [] (w17.alloc (.cells #[.int .i64 pw16, .int .i64 ph16, .int .i64 pm16, .slice pv16a ps16.length pv16c] 26)) from (H18.out.alloc #[.int .i64 pw16, .int .i64 ph16, .int .i64 pm16, .slice pv16a ps16.length pv16c] 26 hD19))
      first | refine gen_code H20.out ?_ | refine gen_list H20.out ?_ | refine gen_calls H20.out ?_
      intro w21 hG
      clear H20
      have H20 := hid hG
      clear hG
      clear hD19
      have z22 := H20.out.cell 0 rfl 0 rfl
      have z23 := H20.out.cell 0 rfl 1 rfl
      have z24 := H20.out.cell 0 rfl 2 rfl
      have z25 := H20.out.cell 0 rfl 3 rfl
      go_wp2_with fail
      clear z22 z23 z24 z25
      refine (within_any B K3 _ _ _ (by omega) (by omega) (by omega) (by omega) (H20.out.tapeAt 2 rfl)).mono ?_
      rintro e w27 ⟨q26_0, q26_1, q26_2, q26_3, rfl, hq26, ht, hg⟩
      have H28 := hid (H20.out.next 2 rfl ht hg)
      have HWq26 := hid hq26
      clear hq26 ht hg
      obtain ⟨D29, hD29⟩ : ∃ D, w27.heap.size = D := ⟨_, rfl⟩
      go_upto_region 9 with fail
      have H30 := hid (show St B W [.cells D29 #[.int .i64 q26_0, .int .i64 q26_1, .int .i64 q26_2, .int .i64 q26_3] 39, .cells D19 #[.int .i64 pw16, .int .i64 ph16, .int .i64 pm16, .slice pv16a ps16.length pv16c] 26, .own (.slice pv16a ps16.length pv16c) ps16, .tape K3, .cells (B + 1) #[.int .i64 r0, .int .i64 r1, .int .i64 r2, .int .i64 r3] 39, .cells B #[.int .i64 s0, .int .i64 s1, .int .i64 s2] 55] [] (w27.alloc (.cells #[.int .i64 q26_0, .int .i64 q26_1, .int .i64 q26_2, .int .i64 q26_3] 39)) from (H28.out.alloc #[.int .i64 q26_0, .int .i64 q26_1, .int .i64 q26_2, .int .i64 q26_3] 39 hD29))
      first | refine gen_code H30.out ?_ | refine gen_list H30.out ?_ | refine gen_calls H30.out ?_
      intro w31 hG
      clear H30
      have H30 := hid hG
      clear hG
      clear hD29
      go_upto_block 2 with fail
      go_cut [8] (fun s wx => ∃ (y0 y1 y2 y3 xw xh xm : Int) (xa : Option Addr) (xc : Nat) (xl : List Int), s = .int .i64 j ∧ St B W [.cells D29 #[.int .i64 y0, .int .i64 y1, .int .i64 y2, .int .i64 y3] 39, .cells D19 #[.int .i64 xw, .int .i64 xh, .int .i64 xm, .slice xa xl.length xc] 26, .own (.slice xa xl.length xc) xl, .tape K3, .cells (B + 1) #[.int .i64 r0, .int .i64 r1, .int .i64 r2, .int .i64 r3] 39, .cells B #[.int .i64 s0, .int .i64 s1, .int .i64 s2] 55] [] wx)
      case first =>
        by_cases hN : j = 2
        · skip
          subst hN
          have z32 := H30.out.cell 1 rfl 0 rfl
          have z33 := H30.out.cell 1 rfl 1 rfl
          have z34 := H30.out.cell 1 rfl 2 rfl
          have z35 := H30.out.cell 1 rfl 3 rfl
          go_wp2_with fail
          clear z32 z33 z34 z35
          refine (spoil_any B K3 _ _ _ _ _ _ _ _ (H30.out.slc 2 rfl) (H30.out.farSlc 2 3 rfl rfl (by decide) rfl) HVps16.out (H30.out.tapeAt 3 rfl)).mono ?_
          rintro e w37 ⟨pw36, ph36, pm36, pv36, ps36, rfl, ho, ht, hg⟩
          have H38 := hid (H30.out.add (H30.out.next 3 rfl ht hg) ho)
          obtain ⟨pv36a, pv36c, rfl, _⟩ := ho.slc
          clear ho ht hg
          have z39 := H38.out.cell 2 rfl 0 rfl
          have z40 := H38.out.free 2 rfl 0
          have z41 := H38.out.cell 2 rfl 1 rfl
          have z42 := H38.out.free 2 rfl 1
          have z43 := H38.out.cell 2 rfl 2 rfl
          have z44 := H38.out.free 2 rfl 2
          have z45 := H38.out.cell 2 rfl 3 rfl
          have z46 := H38.out.free 2 rfl 3
          go_wp2_with fail
          clear z39 z40 z41 z42 z43 z44 z45 z46
          have H47 := hid (show St B W [.own (.slice pv36a ps36.length pv36c) ps36, .cells D29 #[.int .i64 q26_0, .int .i64 q26_1, .int .i64 q26_2, .int .i64 q26_3] 39, .cells D19 #[.int .i64 pw36, .int .i64 ph36, .int .i64 pm36, .slice pv36a ps36.length pv36c] 26, .own (.slice pv16a ps16.length pv16c) ps16, .tape K3, .cells (B + 1) #[.int .i64 r0, .int .i64 r1, .int .i64 r2, .int .i64 r3] 39, .cells B #[.int .i64 s0, .int .i64 s1, .int .i64 s2] 55] [] ((((w37.setCell ⟨D19, 0, none⟩ (.int .i64 pw36)).setCell ⟨D19, 1, none⟩ (.int .i64 ph36)).setCell ⟨D19, 2, none⟩ (.int .i64 pm36)).setCell ⟨D19, 3, none⟩ (.slice pv36a ps36.length pv36c)) from (H38.out.set4 2 rfl (.int .i64 pw36) (.int .i64 ph36) (.int .i64 pm36) (.slice pv36a ps36.length pv36c)))
          go_meet
          exact ⟨_, _, _, _, _, _, _, _, _, _, rfl, H47.out.pick [1, 2, 0, 4, 5, 6] rfl (by decide)⟩
        · skip
          have hN2 : ((j : Int) == 2) = false := by simp; omega
          clear hN
          by_cases hN : j = 3
          · skip
            subst hN
            go_upto_region 13 with fail
            have pq1 := Int.mul_le_mul (a := 1) (b := 1) (c := pw16) (d := ph16) (by omega) (by omega) (by omega) (by omega)
            have pq2 := Int.mul_le_mul (a := pw16) (b := ph16) (c := 6) (d := 5) (by omega) (by omega) (by omega) (by omega)
            obtain ⟨PQ, hPQ⟩ : ∃ q, pw16 * ph16 = q := ⟨_, rfl⟩
            rw [hPQ] at pq1 pq2
            have w1 : IntKind.i64.wrap PQ = PQ := IntWalk.i64_in _ (by omega)
            obtain ⟨QV, hQV⟩ : ∃ q, Int.tdiv 4294967296 PQ = q := ⟨_, rfl⟩
            obtain ⟨pd1, pd2⟩ : 0 ≤ QV ∧ QV ≤ 4294967296 := by
              rw [← hQV, Int.tdiv_eq_ediv_of_nonneg (by omega)]
              exact ⟨Int.ediv_nonneg (by omega) (by omega), Int.ediv_le_self _ (by omega)⟩
            have w2 : IntKind.i64.wrap QV = QV := IntWalk.i64_in _ (by omega)
            have pq3 : ¬ (PQ = 0) := by omega
            have H48 := hid H30.out.drew
            refine wp_region_held_drew (S := (fun w' => w'.cell? ⟨D19, 0, none⟩ = some (.int .i64 pw16) ∧ w'.cell? ⟨D19, 1, none⟩ = some (.int .i64 ph16) ∧ w'.cell? ⟨D19, 3, none⟩ = some (.slice pv16a ps16.length pv16c) ∧ w'.cell? ⟨B + 1, 0, none⟩ = some (.int .i64 r0) ∧ w'.cell? ⟨B + 1, 1, none⟩ = some (.int .i64 r1) ∧ w'.cell? ⟨B + 1, 2, none⟩ = some (.int .i64 r2) ∧ w'.cell? ⟨B + 1, 3, none⟩ = some (.int .i64 r3))) (by kernel_rfl) ⟨H48.out.cell 1 rfl 0 rfl, H48.out.cell 1 rfl 1 rfl, H48.out.cell 1 rfl 3 rfl, H48.out.cell 4 rfl 0 rfl, H48.out.cell 4 rfl 1 rfl, H48.out.cell 4 rfl 2 rfl, H48.out.cell 4 rfl 3 rfl⟩ (fun hHeld => ?_)
            generalize w31.drew = k49 at *
            refine wpAnyH_take (i := 0) (oi := _) (v := ?_) rfl (by kernel_rfl) (by kernel_rfl) (by kernel_rfl) (fun _ _ _ h => h) (Or.inl ⟨by rfl, ?_⟩) (by assumption) ?_
            rotate_left
            focus (intro wS hSw; (try dsimp only at hSw); go_simp; (try with_reducible rfl))
            try simp only [Act.put, List.getElem_toArray, List.getElem_cons_zero, List.getElem_cons_succ, List.setIfInBounds_toArray, List.set_cons_zero, List.set_cons_succ]
            refine wpAnyH_take (i := 1) (oi := _) (v := ?_) rfl (by kernel_rfl) (by kernel_rfl) (by kernel_rfl) (fun _ _ _ h => h) (Or.inl ⟨by rfl, ?_⟩) (by assumption) ?_
            rotate_left
            focus (intro wS hSw; (try dsimp only at hSw); go_simp; (try with_reducible rfl))
            try simp only [Act.put, List.getElem_toArray, List.getElem_cons_zero, List.getElem_cons_succ, List.setIfInBounds_toArray, List.set_cons_zero, List.set_cons_succ]
            refine wpAnyH_take (i := 2) (oi := _) (v := ?_) rfl (by kernel_rfl) (by kernel_rfl) (by kernel_rfl) (fun _ _ _ h => h) (Or.inl ⟨by rfl, ?_⟩) (by assumption) ?_
            rotate_left
            focus (intro wS hSw; (try dsimp only at hSw); go_simp; (try with_reducible rfl))
            try simp only [Act.put, List.getElem_toArray, List.getElem_cons_zero, List.getElem_cons_succ, List.setIfInBounds_toArray, List.set_cons_zero, List.set_cons_succ]
            refine wpAnyH_take (i := 3) (oi := _) (v := ?_) rfl (by kernel_rfl) (by kernel_rfl) (by kernel_rfl) (fun _ _ _ h => h) (Or.inl ⟨by rfl, ?_⟩) (by assumption) ?_
            rotate_left
            focus (intro wS hSw; (try dsimp only at hSw); go_simp; (try with_reducible rfl))
            try simp only [Act.put, List.getElem_toArray, List.getElem_cons_zero, List.getElem_cons_succ, List.setIfInBounds_toArray, List.set_cons_zero, List.set_cons_succ]
            refine wpAnyH_take (i := 4) (oi := _) (v := ?_) rfl (by kernel_rfl) (by kernel_rfl) (by kernel_rfl) (fun _ _ _ h => h) (Or.inl ⟨by rfl, ?_⟩) (by assumption) ?_
            rotate_left
            focus (intro wS hSw; (try dsimp only at hSw); go_simp; (try with_reducible rfl))
            try simp only [Act.put, List.getElem_toArray, List.getElem_cons_zero, List.getElem_cons_succ, List.setIfInBounds_toArray, List.set_cons_zero, List.set_cons_succ]
            refine wpAnyH_take (i := 5) (oi := _) (v := ?_) rfl (by kernel_rfl) (by kernel_rfl) (by kernel_rfl) (fun _ _ _ h => h) (Or.inl ⟨by rfl, ?_⟩) (by assumption) ?_
            rotate_left
            focus (intro wS hSw; (try dsimp only at hSw); go_simp; (try with_reducible rfl))
            try simp only [Act.put, List.getElem_toArray, List.getElem_cons_zero, List.getElem_cons_succ, List.setIfInBounds_toArray, List.set_cons_zero, List.set_cons_succ]
            refine wpAnyH_take (i := 6) (oi := _) (v := ?_) rfl (by kernel_rfl) (by kernel_rfl) (by kernel_rfl) (fun _ _ _ h => h) (Or.inl ⟨by rfl, ?_⟩) (by assumption) ?_
            rotate_left
            focus (intro wS hSw; (try dsimp only at hSw); go_simp; (try with_reducible rfl))
            try simp only [Act.put, List.getElem_toArray, List.getElem_cons_zero, List.getElem_cons_succ, List.setIfInBounds_toArray, List.set_cons_zero, List.set_cons_succ]
            refine wpAnyH_take (i := 7) (oi := _) (v := ?_) rfl (by kernel_rfl) (by kernel_rfl) (by kernel_rfl) (fun _ _ _ h => h) (Or.inl ⟨by rfl, ?_⟩) (by assumption) ?_
            rotate_left
            focus (intro wS hSw; (try dsimp only at hSw); go_simp; (try with_reducible rfl))
            try simp only [Act.put, List.getElem_toArray, List.getElem_cons_zero, List.getElem_cons_succ, List.setIfInBounds_toArray, List.set_cons_zero, List.set_cons_succ]
            refine wpAnyH_take (i := 11) (oi := _) (v := ?_) rfl (by kernel_rfl) (by kernel_rfl) (by kernel_rfl) (fun _ _ _ h => h) (Or.inl ⟨by rfl, ?_⟩) (by assumption) ?_
            rotate_left
            focus (intro wS hSw; (try dsimp only at hSw); go_simp; (try with_reducible rfl))
            try simp only [Act.put, List.getElem_toArray, List.getElem_cons_zero, List.getElem_cons_succ, List.setIfInBounds_toArray, List.set_cons_zero, List.set_cons_succ]
            refine wpAnyH_ready (rs := [8]) (by kernel_rfl) (by simp) (AllReadyH.cons (o := _) rfl (fun K hK => ?_) AllReadyH.nil)
            have g50 := H48.out.cell 1 rfl 2 rfl
            go_simp
            refine hK.out _ _ ?_ (fun hHeld2 => ?_)
            focus ((try dsimp only); (exact hHeld))
            clear hK K
            try simp only [Act.put, List.getElem_toArray, List.getElem_cons_zero, List.getElem_cons_succ, List.setIfInBounds_toArray, List.set_cons_zero, List.set_cons_succ]
            clear hHeld2 g50
            refine wpAnyH_ready (rs := [9]) (by kernel_rfl) (by simp) (AllReadyH.cons (o := _) rfl (fun K hK => ?_) AllReadyH.nil)
            obtain ⟨D51, hD51⟩ : ∃ D, k49.heap.size = D := ⟨_, rfl⟩
            have H52 := hid (show St B W [.cells D51 #[.int .i64 4294967296, .int .i64 QV, .int .i64 pm16] 3, .cells D29 #[.int .i64 q26_0, .int .i64 q26_1, .int .i64 q26_2, .int .i64 q26_3] 39, .cells D19 #[.int .i64 pw16, .int .i64 ph16, .int .i64 pm16, .slice pv16a ps16.length pv16c] 26, .own (.slice pv16a ps16.length pv16c) ps16, .tape K3, .cells (B + 1) #[.int .i64 r0, .int .i64 r1, .int .i64 r2, .int .i64 r3] 39, .cells B #[.int .i64 s0, .int .i64 s1, .int .i64 s2] 55] [] (k49.alloc (.cells #[.int .i64 4294967296, .int .i64 QV, .int .i64 pm16] 3)) from (H48.out.alloc #[.int .i64 4294967296, .int .i64 QV, .int .i64 pm16] 3 hD51))
            go_simp
            refine hK.out _ _ ?_ (fun hHeld2 => ?_)
            focus ((try dsimp only); (exact ⟨H52.out.cell 2 rfl 0 rfl, H52.out.cell 2 rfl 1 rfl, H52.out.cell 2 rfl 3 rfl, H52.out.cell 5 rfl 0 rfl, H52.out.cell 5 rfl 1 rfl, H52.out.cell 5 rfl 2 rfl, H52.out.cell 5 rfl 3 rfl⟩))
            clear hK K hHeld
            try simp only [Act.put, List.getElem_toArray, List.getElem_cons_zero, List.getElem_cons_succ, List.setIfInBounds_toArray, List.set_cons_zero, List.set_cons_succ]
            clear hD51
            generalize (k49.alloc (.cells #[.int .i64 4294967296, .int .i64 QV, .int .i64 pm16] 3)) = k53 at *
            have hHeld := hHeld2
            clear hHeld2
            refine wpAnyH_ready (rs := [10]) (by kernel_rfl) (by simp) (AllReadyH.cons (o := _) rfl (fun K hK => ?_) AllReadyH.nil)
            go_simp
            go_at_call 28
            refine (pickB_any B K3 _ 3 3 [4294967296, QV, pm16] _ (by omega) (by omega) (H52.out.tapeAt 4 rfl) (H52.out.lit 0 [4294967296, QV, pm16] rfl (by simp)).row (.inr ⟨_, rfl, H52.out.ne 0 4 rfl rfl (by decide) rfl rfl⟩)).mono ?_
            rintro e w55 ⟨x54, rfl, hx54, htn, hgn, hsn⟩
            have H56 := hid (H52.out.next 4 rfl htn hgn)
            clear htn hgn hsn
            clear hx54
            refine hK.out _ _ ?_ (fun hHeld2 => ?_)
            focus ((try dsimp only); (exact ⟨H56.out.cell 2 rfl 0 rfl, H56.out.cell 2 rfl 1 rfl, H56.out.cell 2 rfl 3 rfl, H56.out.cell 5 rfl 0 rfl, H56.out.cell 5 rfl 1 rfl, H56.out.cell 5 rfl 2 rfl, H56.out.cell 5 rfl 3 rfl⟩))
            clear hK K
            try simp only [Act.put, List.getElem_toArray, List.getElem_cons_zero, List.getElem_cons_succ, List.setIfInBounds_toArray, List.set_cons_zero, List.set_cons_succ]
            clear hHeld
            have hHeld := hHeld2
            clear hHeld2
            refine wpAnyH_take (i := 12) (oi := _) (v := ?_) rfl (by kernel_rfl) (by kernel_rfl) (by kernel_rfl) (fun _ _ _ h => h) (Or.inl ⟨by rfl, ?_⟩) (by assumption) ?_
            rotate_left
            focus (intro wS hSw; (try dsimp only at hSw); go_simp; (try with_reducible rfl))
            try simp only [Act.put, List.getElem_toArray, List.getElem_cons_zero, List.getElem_cons_succ, List.setIfInBounds_toArray, List.set_cons_zero, List.set_cons_succ]
            refine wpAnyH_ready (rs := [13]) (by kernel_rfl) (by simp) (AllReadyH.cons (o := _) rfl (fun K hK => ?_) AllReadyH.nil)
            have z57 := H56.out.cell 2 rfl 0 rfl
            have z58 := H56.out.free 2 rfl 0
            have z59 := H56.out.cell 2 rfl 1 rfl
            have z60 := H56.out.free 2 rfl 1
            have z61 := H56.out.cell 2 rfl 2 rfl
            have z62 := H56.out.free 2 rfl 2
            have z63 := H56.out.cell 2 rfl 3 rfl
            have z64 := H56.out.free 2 rfl 3
            have H65 := hid (show St B W [.cells D51 #[.int .i64 4294967296, .int .i64 QV, .int .i64 pm16] 3, .cells D29 #[.int .i64 q26_0, .int .i64 q26_1, .int .i64 q26_2, .int .i64 q26_3] 39, .cells D19 #[.int .i64 pw16, .int .i64 ph16, .int .i64 x54, .slice pv16a ps16.length pv16c] 26, .own (.slice pv16a ps16.length pv16c) ps16, .tape K3, .cells (B + 1) #[.int .i64 r0, .int .i64 r1, .int .i64 r2, .int .i64 r3] 39, .cells B #[.int .i64 s0, .int .i64 s1, .int .i64 s2] 55] [] (w55.setCell ⟨D19, 2, none⟩ (.int .i64 x54)) from (H56.out.set 2 rfl 2 (.int .i64 x54)))
            go_simp
            refine hK.out _ _ ?_ (fun hHeld2 => ?_)
            focus ((try dsimp only); (exact ⟨H65.out.cell 2 rfl 0 rfl, H65.out.cell 2 rfl 1 rfl, H65.out.cell 2 rfl 3 rfl, H65.out.cell 5 rfl 0 rfl, H65.out.cell 5 rfl 1 rfl, H65.out.cell 5 rfl 2 rfl, H65.out.cell 5 rfl 3 rfl⟩))
            clear hK K hHeld
            try simp only [Act.put, List.getElem_toArray, List.getElem_cons_zero, List.getElem_cons_succ, List.setIfInBounds_toArray, List.set_cons_zero, List.set_cons_succ]
            clear z57 z58 z59 z60 z61 z62 z63 z64
            generalize (w55.setCell ⟨D19, 2, none⟩ (.int .i64 x54)) = k66 at *
            have hHeld := hHeld2
            clear hHeld2
            refine wpAnyH_ready (rs := [14]) (by kernel_rfl) (by simp) (AllReadyH.cons (o := _) rfl (fun K hK => ?_) AllReadyH.nil)
            have z67 := H65.out.cell 1 rfl 0 rfl
            have z68 := H65.out.free 1 rfl 0
            have z69 := H65.out.cell 1 rfl 1 rfl
            have z70 := H65.out.free 1 rfl 1
            have z71 := H65.out.cell 1 rfl 2 rfl
            have z72 := H65.out.free 1 rfl 2
            have z73 := H65.out.cell 1 rfl 3 rfl
            have z74 := H65.out.free 1 rfl 3
            have H75 := hid (show St B W [.cells D51 #[.int .i64 4294967296, .int .i64 QV, .int .i64 pm16] 3, .cells D29 #[.int .i64 r0, .int .i64 r1, .int .i64 r2, .int .i64 r3] 39, .cells D19 #[.int .i64 pw16, .int .i64 ph16, .int .i64 x54, .slice pv16a ps16.length pv16c] 26, .own (.slice pv16a ps16.length pv16c) ps16, .tape K3, .cells (B + 1) #[.int .i64 r0, .int .i64 r1, .int .i64 r2, .int .i64 r3] 39, .cells B #[.int .i64 s0, .int .i64 s1, .int .i64 s2] 55] [] ((((k66.setCell ⟨D29, 0, none⟩ (.int .i64 r0)).setCell ⟨D29, 1, none⟩ (.int .i64 r1)).setCell ⟨D29, 2, none⟩ (.int .i64 r2)).setCell ⟨D29, 3, none⟩ (.int .i64 r3)) from (H65.out.set4 1 rfl (.int .i64 r0) (.int .i64 r1) (.int .i64 r2) (.int .i64 r3)))
            go_simp
            refine hK.out _ _ ?_ (fun hHeld2 => ?_)
            focus ((try dsimp only); (exact ⟨H75.out.cell 2 rfl 0 rfl, H75.out.cell 2 rfl 1 rfl, H75.out.cell 2 rfl 3 rfl, H75.out.cell 5 rfl 0 rfl, H75.out.cell 5 rfl 1 rfl, H75.out.cell 5 rfl 2 rfl, H75.out.cell 5 rfl 3 rfl⟩))
            clear hK K hHeld
            try simp only [Act.put, List.getElem_toArray, List.getElem_cons_zero, List.getElem_cons_succ, List.setIfInBounds_toArray, List.set_cons_zero, List.set_cons_succ]
            clear z67 z68 z69 z70 z71 z72 z73 z74
            generalize ((((k66.setCell ⟨D29, 0, none⟩ (.int .i64 r0)).setCell ⟨D29, 1, none⟩ (.int .i64 r1)).setCell ⟨D29, 2, none⟩ (.int .i64 r2)).setCell ⟨D29, 3, none⟩ (.int .i64 r3)) = k76 at *
            have hHeld := hHeld2
            clear hHeld2
            refine wpAnyH_done (by kernel_rfl) ?_ _
            try clear hHeld
            go_wp2_with fail
            go_meet
            exact ⟨_, _, _, _, _, _, _, _, _, _, rfl, H75.out.pick [1, 2, 3, 4, 5, 6] rfl (by decide)⟩
          · skip
            have hN3 : ((j : Int) == 3) = false := by simp; omega
            clear hN
            go_wp2_with fail
            go_meet
            exact ⟨_, _, _, _, _, _, _, _, _, _, rfl, H30.out.pick [0, 1, 2, 3, 4, 5] rfl (by decide)⟩
      case rest =>
        obtain ⟨y0, y1, y2, y3, xw, xh, xm, xa, xc, xl, rfl, hst⟩ := hcut
        obtain ⟨u77, rfl⟩ : ∃ u77 : World, u77 = wc := ⟨_, rfl⟩
        have H78 := hid hst
        clear hst
        have z79 := H78.out.cell 1 rfl 0 rfl
        have z80 := H78.out.cell 1 rfl 1 rfl
        have z81 := H78.out.cell 1 rfl 2 rfl
        have z82 := H78.out.cell 1 rfl 3 rfl
        go_wp2_with fail
        clear z79 z80 z81 z82
        refine (iwhole_any _ _ _ _ _ _ xl _ (H78.out.slc 2 rfl)).mono ?_
        rintro e w83 ⟨v84, rfl, ho, hb⟩
        obtain ⟨l85, hl85⟩ : ∃ z, tList xw xh xm xl 0 0 xw xh (List.replicate xh.toNat 0) (List.replicate xw.toNat 0) 0 = z := ⟨_, rfl⟩
        rw [hl85] at ho
        have HNl85 := hid hl85
        clear hl85
        have H86 := hid (H78.out.grow hb ho)
        obtain ⟨v84a, v84c, rfl, _⟩ := ho.slc
        clear ho hb
        obtain ⟨t87, ht87⟩ : ∃ z, tIf xw xh xm xl 0 0 xw xh (List.replicate xh.toNat 0) (List.replicate xw.toNat 0) 0 (xw - 0) = z := ⟨_, rfl⟩
        rw [ht87]
        have HNt87 := hid ht87
        clear ht87
        obtain ⟨t88, ht88⟩ : ∃ z, tIf xw xh xm xl 0 0 xw xh (List.replicate xh.toNat 0) (List.replicate xw.toNat 0) 0 (xh - 0) = z := ⟨_, rfl⟩
        rw [ht88]
        have HNt88 := hid ht88
        clear ht88
        obtain ⟨t89, ht89⟩ : ∃ z, tIf xw xh xm xl 0 0 xw xh (List.replicate xh.toNat 0) (List.replicate xw.toNat 0) 0 (xw * xh * xm) = z := ⟨_, rfl⟩
        rw [ht89]
        have HNt89 := hid ht89
        clear ht89
        obtain ⟨c90, hc90⟩ : ∃ z, tCode xw xh xm xl 0 0 xw xh (List.replicate xh.toNat 0) (List.replicate xw.toNat 0) 0 = z := ⟨_, rfl⟩
        rw [hc90]
        have HNc90 := hid hc90
        clear hc90
        obtain ⟨D91, hD91⟩ : ∃ D, w83.heap.size = D := ⟨_, rfl⟩
        go_upto_region 15 with fail
        have H92 := hid (show St B W [.cells D91 #[.int .i64 t87, .int .i64 t88, .int .i64 t89, .slice v84a l85.length v84c] 26, .own (.slice v84a l85.length v84c) l85, .cells D29 #[.int .i64 y0, .int .i64 y1, .int .i64 y2, .int .i64 y3] 39, .cells D19 #[.int .i64 xw, .int .i64 xh, .int .i64 xm, .slice xa xl.length xc] 26, .own (.slice xa xl.length xc) xl, .tape K3, .cells (B + 1) #[.int .i64 r0, .int .i64 r1, .int .i64 r2, .int .i64 r3] 39, .cells B #[.int .i64 s0, .int .i64 s1, .int .i64 s2] 55] [] (w83.alloc (.cells #[.int .i64 t87, .int .i64 t88, .int .i64 t89, .slice v84a l85.length v84c] 26)) from (H86.out.alloc #[.int .i64 t87, .int .i64 t88, .int .i64 t89, .slice v84a l85.length v84c] 26 hD91))
        first | refine gen_code H92.out ?_ | refine gen_list H92.out ?_ | refine gen_calls H92.out ?_
        intro w93 hG
        clear H92
        have H92 := hid hG
        clear hG
        clear hD91
        have z94 := H92.out.cell 3 rfl 0 rfl
        have z95 := H92.out.cell 3 rfl 1 rfl
        have z96 := H92.out.cell 3 rfl 2 rfl
        have z97 := H92.out.cell 3 rfl 3 rfl
        go_wp2_with fail
        clear z94 z95 z96 z97
        refine (qwhole13_any _ _ _ _ _ _ xl _ (H92.out.slc 4 rfl)).mono ?_
        rintro e w98 ⟨v99, rfl, ho, hb⟩
        rw [HNl85.out] at ho
        have H100 := hid (H92.out.grow hb ho)
        obtain ⟨v99a, v99c, rfl, _⟩ := ho.slc
        clear ho hb
        rw [HNt87.out]
        rw [HNt88.out]
        rw [HNt89.out]
        rw [HNc90.out]
        obtain ⟨D101, hD101⟩ : ∃ D, w98.heap.size = D := ⟨_, rfl⟩
        go_upto_region 16 with fail
        have H102 := hid (show St B W [.cells D101 #[.int .i64 t87, .int .i64 t88, .int .i64 t89, .slice v99a l85.length v99c] 26, .own (.slice v99a l85.length v99c) l85, .cells D91 #[.int .i64 t87, .int .i64 t88, .int .i64 t89, .slice v84a l85.length v84c] 26, .own (.slice v84a l85.length v84c) l85, .cells D29 #[.int .i64 y0, .int .i64 y1, .int .i64 y2, .int .i64 y3] 39, .cells D19 #[.int .i64 xw, .int .i64 xh, .int .i64 xm, .slice xa xl.length xc] 26, .own (.slice xa xl.length xc) xl, .tape K3, .cells (B + 1) #[.int .i64 r0, .int .i64 r1, .int .i64 r2, .int .i64 r3] 39, .cells B #[.int .i64 s0, .int .i64 s1, .int .i64 s2] 55] [] (w98.alloc (.cells #[.int .i64 t87, .int .i64 t88, .int .i64 t89, .slice v99a l85.length v99c] 26)) from (H100.out.alloc #[.int .i64 t87, .int .i64 t88, .int .i64 t89, .slice v99a l85.length v99c] 26 hD101))
        first | refine gen_code H102.out ?_ | refine gen_list H102.out ?_ | refine gen_calls H102.out ?_
        intro w103 hG
        clear H102
        have H102 := hid hG
        clear hG
        clear hD101
        have z104 := H102.out.cell 5 rfl 0 rfl
        have z105 := H102.out.cell 5 rfl 1 rfl
        have z106 := H102.out.cell 5 rfl 2 rfl
        have z107 := H102.out.cell 5 rfl 3 rfl
        have z108 := H102.out.cell 4 rfl 0 rfl
        have z109 := H102.out.cell 4 rfl 1 rfl
        have z110 := H102.out.cell 4 rfl 2 rfl
        have z111 := H102.out.cell 4 rfl 3 rfl
        go_wp2_with fail
        clear z104 z105 z106 z107 z108 z109 z110 z111
        refine (isum_any _ _ _ _ _ _ xl _ _ _ _ _ (H102.out.slc 6 rfl)).mono ?_
        rintro e w112 ⟨rfl, hb⟩
        have H113 := hid (H102.out.call hb)
        clear hb
        obtain ⟨n114, hn114⟩ : ∃ z, sVal xw xh xm xl y0 y1 y2 y3 = z := ⟨_, rfl⟩
        rw [hn114]
        have HNn114 := hid hn114
        clear hn114
        obtain ⟨c115, hc115⟩ : ∃ z, sCode xw xh xm xl y0 y1 y2 y3 = z := ⟨_, rfl⟩
        rw [hc115]
        have HNc115 := hid hc115
        clear hc115
        have z116 := H113.out.cell 5 rfl 0 rfl
        have z117 := H113.out.cell 5 rfl 1 rfl
        have z118 := H113.out.cell 5 rfl 2 rfl
        have z119 := H113.out.cell 5 rfl 3 rfl
        have z120 := H113.out.cell 4 rfl 0 rfl
        have z121 := H113.out.cell 4 rfl 1 rfl
        have z122 := H113.out.cell 4 rfl 2 rfl
        have z123 := H113.out.cell 4 rfl 3 rfl
        go_wp2_with fail
        clear z116 z117 z118 z119 z120 z121 z122 z123
        refine (qsum_any _ _ _ _ _ _ xl _ _ _ _ _ (H113.out.slc 6 rfl)).mono ?_
        rintro e w124 ⟨rfl, hb⟩
        have H125 := hid (H113.out.call hb)
        clear hb
        rw [HNn114.out]
        rw [HNc115.out]
        have z126 := H125.out.cell 0 rfl 0 rfl
        have z127 := H125.out.cell 0 rfl 1 rfl
        have z128 := H125.out.cell 0 rfl 2 rfl
        have z129 := H125.out.cell 0 rfl 3 rfl
        have z130 := H125.out.cell 4 rfl 0 rfl
        have z131 := H125.out.cell 4 rfl 1 rfl
        have z132 := H125.out.cell 4 rfl 2 rfl
        have z133 := H125.out.cell 4 rfl 3 rfl
        go_wp2_with fail
        clear z126 z127 z128 z129 z130 z131 z132 z133
        refine (isum_any _ _ _ _ _ _ l85 _ _ _ _ _ (H125.out.slc 1 rfl)).mono ?_
        rintro e w134 ⟨rfl, hb⟩
        have H135 := hid (H125.out.call hb)
        clear hb
        obtain ⟨n136, hn136⟩ : ∃ z, sVal t87 t88 t89 l85 y0 y1 y2 y3 = z := ⟨_, rfl⟩
        rw [hn136]
        have HNn136 := hid hn136
        clear hn136
        obtain ⟨c137, hc137⟩ : ∃ z, sCode t87 t88 t89 l85 y0 y1 y2 y3 = z := ⟨_, rfl⟩
        rw [hc137]
        have HNc137 := hid hc137
        clear hc137
        have z138 := H135.out.cell 0 rfl 0 rfl
        have z139 := H135.out.cell 0 rfl 1 rfl
        have z140 := H135.out.cell 0 rfl 2 rfl
        have z141 := H135.out.cell 0 rfl 3 rfl
        have z142 := H135.out.cell 4 rfl 0 rfl
        have z143 := H135.out.cell 4 rfl 1 rfl
        have z144 := H135.out.cell 4 rfl 2 rfl
        have z145 := H135.out.cell 4 rfl 3 rfl
        go_wp2_with fail
        clear z138 z139 z140 z141 z142 z143 z144 z145
        refine (qsum_any _ _ _ _ _ _ l85 _ _ _ _ _ (H135.out.slc 1 rfl)).mono ?_
        rintro e w146 ⟨rfl, hb⟩
        have H147 := hid (H135.out.call hb)
        clear hb
        rw [HNn136.out]
        rw [HNc137.out]
        obtain ⟨D148, hD148⟩ : ∃ D, w146.heap.size = D := ⟨_, rfl⟩
        have z149 := H147.out.cell 5 rfl 0 rfl
        have z150 := H147.out.cell 5 rfl 1 rfl
        have z151 := H147.out.cell 5 rfl 2 rfl
        have z152 := H147.out.cell 5 rfl 3 rfl
        go_upto_region 21 with fail
        clear z149 z150 z151 z152
        have H153 := hid (show St B W [.cells D148 #[.int .i64 xw, .int .i64 xh, .int .i64 xm] 55, .cells D101 #[.int .i64 t87, .int .i64 t88, .int .i64 t89, .slice v99a l85.length v99c] 26, .own (.slice v99a l85.length v99c) l85, .cells D91 #[.int .i64 t87, .int .i64 t88, .int .i64 t89, .slice v84a l85.length v84c] 26, .own (.slice v84a l85.length v84c) l85, .cells D29 #[.int .i64 y0, .int .i64 y1, .int .i64 y2, .int .i64 y3] 39, .cells D19 #[.int .i64 xw, .int .i64 xh, .int .i64 xm, .slice xa xl.length xc] 26, .own (.slice xa xl.length xc) xl, .tape K3, .cells (B + 1) #[.int .i64 r0, .int .i64 r1, .int .i64 r2, .int .i64 r3] 39, .cells B #[.int .i64 s0, .int .i64 s1, .int .i64 s2] 55] [] (w146.alloc (.cells #[.int .i64 xw, .int .i64 xh, .int .i64 xm] 55)) from (H147.out.alloc #[.int .i64 xw, .int .i64 xh, .int .i64 xm] 55 hD148))
        first | refine gen_code H153.out ?_ | refine gen_list H153.out ?_ | refine gen_calls H153.out ?_
        intro w154 hG
        clear H153
        have H153 := hid hG
        clear hG
        clear hD148
        have H155 := hid H153.out.drew
        refine wp_region_held_drew (S := (fun w' => w'.cell? ⟨D91, 0, none⟩ = some (.int .i64 t87) ∧ w'.cell? ⟨D91, 1, none⟩ = some (.int .i64 t88) ∧ w'.cell? ⟨D91, 2, none⟩ = some (.int .i64 t89) ∧ w'.cell? ⟨D91, 3, none⟩ = some (.slice v84a l85.length v84c) ∧ w'.cell? ⟨D101, 0, none⟩ = some (.int .i64 t87) ∧ w'.cell? ⟨D101, 1, none⟩ = some (.int .i64 t88) ∧ w'.cell? ⟨D101, 2, none⟩ = some (.int .i64 t89) ∧ w'.cell? ⟨D101, 3, none⟩ = some (.slice v99a l85.length v99c) ∧ w'.cell? ⟨D148, 0, none⟩ = some (.int .i64 xw) ∧ w'.cell? ⟨D148, 1, none⟩ = some (.int .i64 xh) ∧ w'.cell? ⟨D148, 2, none⟩ = some (.int .i64 xm))) (by kernel_rfl) ⟨H155.out.cell 3 rfl 0 rfl, H155.out.cell 3 rfl 1 rfl, H155.out.cell 3 rfl 2 rfl, H155.out.cell 3 rfl 3 rfl, H155.out.cell 1 rfl 0 rfl, H155.out.cell 1 rfl 1 rfl, H155.out.cell 1 rfl 2 rfl, H155.out.cell 1 rfl 3 rfl, H155.out.cell 0 rfl 0 rfl, H155.out.cell 0 rfl 1 rfl, H155.out.cell 0 rfl 2 rfl⟩ (fun hHeld => ?_)
        generalize w154.drew = k156 at *
        refine wpAnyH_take (i := 0) (oi := _) (v := ?_) rfl (by kernel_rfl) (by kernel_rfl) (by kernel_rfl) (fun _ _ _ h => h) (Or.inl ⟨by rfl, ?_⟩) (by assumption) ?_
        rotate_left
        focus (intro wS hSw; (try dsimp only at hSw); go_simp; (try with_reducible rfl))
        try simp only [Act.put, List.getElem_toArray, List.getElem_cons_zero, List.getElem_cons_succ, List.setIfInBounds_toArray, List.set_cons_zero, List.set_cons_succ]
        refine wpAnyH_take (i := 1) (oi := _) (v := ?_) rfl (by kernel_rfl) (by kernel_rfl) (by kernel_rfl) (fun _ _ _ h => h) (Or.inl ⟨by rfl, ?_⟩) (by assumption) ?_
        rotate_left
        focus (intro wS hSw; (try dsimp only at hSw); go_simp; (try with_reducible rfl))
        try simp only [Act.put, List.getElem_toArray, List.getElem_cons_zero, List.getElem_cons_succ, List.setIfInBounds_toArray, List.set_cons_zero, List.set_cons_succ]
        refine wpAnyH_ready (rs := [2]) (by kernel_rfl) (by simp) (AllReadyH.cons (o := _) rfl (fun K hK => ?_) AllReadyH.nil)
        go_simp
        go_at_call 24
        refine (qequal_any _ _ _ _ _ _ l85 _ _ _ _ _ _ l85 _ (H155.out.slc 4 rfl) (H155.out.slc 2 rfl)).mono ?_
        rintro e w157 ⟨rfl, hb⟩
        have H158 := hid (H155.out.call hb)
        clear hb
        rw [show pEq t87 t88 t89 l85 t87 t88 t89 l85 = true from by simp [pEq]]
        refine hK.out _ _ ?_ (fun hHeld2 => ?_)
        focus ((try dsimp only); (exact ⟨H158.out.cell 3 rfl 0 rfl, H158.out.cell 3 rfl 1 rfl, H158.out.cell 3 rfl 2 rfl, H158.out.cell 3 rfl 3 rfl, H158.out.cell 1 rfl 0 rfl, H158.out.cell 1 rfl 1 rfl, H158.out.cell 1 rfl 2 rfl, H158.out.cell 1 rfl 3 rfl, H158.out.cell 0 rfl 0 rfl, H158.out.cell 0 rfl 1 rfl, H158.out.cell 0 rfl 2 rfl⟩))
        clear hK K
        try simp only [Act.put, List.getElem_toArray, List.getElem_cons_zero, List.getElem_cons_succ, List.setIfInBounds_toArray, List.set_cons_zero, List.set_cons_succ]
        clear hHeld
        have hHeld := hHeld2
        clear hHeld2
        refine wpAnyH_take (i := 3) (oi := _) (v := ?_) rfl (by kernel_rfl) (by kernel_rfl) (by kernel_rfl) (fun _ _ _ h => h) (Or.inl ⟨by rfl, ?_⟩) (by assumption) ?_
        rotate_left
        focus (intro wS hSw; (try dsimp only at hSw); go_simp; (try with_reducible rfl))
        try simp only [Act.put, List.getElem_toArray, List.getElem_cons_zero, List.getElem_cons_succ, List.setIfInBounds_toArray, List.set_cons_zero, List.set_cons_succ]
        refine wpAnyH_take (i := 4) (oi := _) (v := ?_) rfl (by kernel_rfl) (by kernel_rfl) (by kernel_rfl) (fun _ _ _ h => h) (Or.inl ⟨by rfl, ?_⟩) (by assumption) ?_
        rotate_left
        focus (intro wS hSw; (try dsimp only at hSw); go_simp; (try with_reducible rfl))
        try simp only [Act.put, List.getElem_toArray, List.getElem_cons_zero, List.getElem_cons_succ, List.setIfInBounds_toArray, List.set_cons_zero, List.set_cons_succ]
        refine wpAnyH_take (i := 5) (oi := _) (v := ?_) rfl (by kernel_rfl) (by kernel_rfl) (by kernel_rfl) (fun _ _ _ h => h) (Or.inl ⟨by rfl, ?_⟩) (by assumption) ?_
        rotate_left
        focus (intro wS hSw; (try dsimp only at hSw); go_simp; (try with_reducible rfl))
        try simp only [Act.put, List.getElem_toArray, List.getElem_cons_zero, List.getElem_cons_succ, List.setIfInBounds_toArray, List.set_cons_zero, List.set_cons_succ]
        refine wpAnyH_take (i := 6) (oi := _) (v := ?_) rfl (by kernel_rfl) (by kernel_rfl) (by kernel_rfl) (fun _ _ _ h => h) (Or.inl ⟨by rfl, ?_⟩) (by assumption) ?_
        rotate_left
        focus (intro wS hSw; (try dsimp only at hSw); go_simp; (try with_reducible rfl))
        try simp only [Act.put, List.getElem_toArray, List.getElem_cons_zero, List.getElem_cons_succ, List.setIfInBounds_toArray, List.set_cons_zero, List.set_cons_succ]
        refine wpAnyH_take (i := 7) (oi := _) (v := ?_) rfl (by kernel_rfl) (by kernel_rfl) (by kernel_rfl) (fun _ _ _ h => h) (Or.inl ⟨by rfl, ?_⟩) (by assumption) ?_
        rotate_left
        focus (intro wS hSw; (try dsimp only at hSw); go_simp; (try with_reducible rfl))
        try simp only [Act.put, List.getElem_toArray, List.getElem_cons_zero, List.getElem_cons_succ, List.setIfInBounds_toArray, List.set_cons_zero, List.set_cons_succ]
        refine wpAnyH_take (i := 8) (oi := _) (v := ?_) rfl (by kernel_rfl) (by kernel_rfl) (by kernel_rfl) (fun _ _ _ h => h) (Or.inl ⟨by rfl, ?_⟩) (by assumption) ?_
        rotate_left
        focus (intro wS hSw; (try dsimp only at hSw); go_simp; (try with_reducible rfl))
        try simp only [Act.put, List.getElem_toArray, List.getElem_cons_zero, List.getElem_cons_succ, List.setIfInBounds_toArray, List.set_cons_zero, List.set_cons_succ]
        refine wpAnyH_take (i := 9) (oi := _) (v := ?_) rfl (by kernel_rfl) (by kernel_rfl) (by kernel_rfl) (fun _ _ _ h => h) (Or.inl ⟨by rfl, ?_⟩) (by assumption) ?_
        rotate_left
        focus (intro wS hSw; (try dsimp only at hSw); go_simp; (try with_reducible rfl))
        try simp only [Act.put, List.getElem_toArray, List.getElem_cons_zero, List.getElem_cons_succ, List.setIfInBounds_toArray, List.set_cons_zero, List.set_cons_succ]
        refine wpAnyH_take (i := 10) (oi := _) (v := ?_) rfl (by kernel_rfl) (by kernel_rfl) (by kernel_rfl) (fun _ _ _ h => h) (Or.inl ⟨by rfl, ?_⟩) (by assumption) ?_
        rotate_left
        focus (intro wS hSw; (try dsimp only at hSw); go_simp; (try with_reducible rfl))
        try simp only [Act.put, List.getElem_toArray, List.getElem_cons_zero, List.getElem_cons_succ, List.setIfInBounds_toArray, List.set_cons_zero, List.set_cons_succ]
        refine wpAnyH_take (i := 11) (oi := _) (v := ?_) rfl (by kernel_rfl) (by kernel_rfl) (by kernel_rfl) (fun _ _ _ h => h) (Or.inl ⟨by rfl, ?_⟩) (by assumption) ?_
        rotate_left
        focus (intro wS hSw; (try dsimp only at hSw); go_simp; (try with_reducible rfl))
        try simp only [Act.put, List.getElem_toArray, List.getElem_cons_zero, List.getElem_cons_succ, List.setIfInBounds_toArray, List.set_cons_zero, List.set_cons_succ]
        refine wpAnyH_take (i := 12) (oi := _) (v := ?_) rfl (by kernel_rfl) (by kernel_rfl) (by kernel_rfl) (fun _ _ _ h => h) (Or.inl ⟨by rfl, ?_⟩) (by assumption) ?_
        rotate_left
        focus (intro wS hSw; (try dsimp only at hSw); go_simp; (try with_reducible rfl))
        try simp only [Act.put, List.getElem_toArray, List.getElem_cons_zero, List.getElem_cons_succ, List.setIfInBounds_toArray, List.set_cons_zero, List.set_cons_succ]
        refine wpAnyH_take (i := 13) (oi := _) (v := ?_) rfl (by kernel_rfl) (by kernel_rfl) (by kernel_rfl) (fun _ _ _ h => h) (Or.inl ⟨by rfl, ?_⟩) (by assumption) ?_
        rotate_left
        focus (intro wS hSw; (try dsimp only at hSw); go_simp; (try with_reducible rfl))
        try simp only [Act.put, List.getElem_toArray, List.getElem_cons_zero, List.getElem_cons_succ, List.setIfInBounds_toArray, List.set_cons_zero, List.set_cons_succ]
        refine wpAnyH_take (i := 14) (oi := _) (v := ?_) rfl (by kernel_rfl) (by kernel_rfl) (by kernel_rfl) (fun _ _ _ h => h) (Or.inl ⟨by rfl, ?_⟩) (by assumption) ?_
        rotate_left
        focus (intro wS hSw; (try dsimp only at hSw); go_simp; (try with_reducible rfl))
        try simp only [Act.put, List.getElem_toArray, List.getElem_cons_zero, List.getElem_cons_succ, List.setIfInBounds_toArray, List.set_cons_zero, List.set_cons_succ]
        refine wpAnyH_take (i := 15) (oi := _) (v := ?_) rfl (by kernel_rfl) (by kernel_rfl) (by kernel_rfl) (fun _ _ _ h => h) (Or.inl ⟨by rfl, ?_⟩) (by assumption) ?_
        rotate_left
        focus (intro wS hSw; (try dsimp only at hSw); go_simp; (try with_reducible rfl))
        try simp only [Act.put, List.getElem_toArray, List.getElem_cons_zero, List.getElem_cons_succ, List.setIfInBounds_toArray, List.set_cons_zero, List.set_cons_succ]
        refine wpAnyH_take (i := 16) (oi := _) (v := ?_) rfl (by kernel_rfl) (by kernel_rfl) (by kernel_rfl) (fun _ _ _ h => h) (Or.inl ⟨by rfl, ?_⟩) (by assumption) ?_
        rotate_left
        focus (intro wS hSw; (try dsimp only at hSw); go_simp; (try with_reducible rfl))
        try simp only [Act.put, List.getElem_toArray, List.getElem_cons_zero, List.getElem_cons_succ, List.setIfInBounds_toArray, List.set_cons_zero, List.set_cons_succ]
        refine wpAnyH_take (i := 17) (oi := _) (v := ?_) rfl (by kernel_rfl) (by kernel_rfl) (by kernel_rfl) (fun _ _ _ h => h) (Or.inl ⟨by rfl, ?_⟩) (by assumption) ?_
        rotate_left
        focus (intro wS hSw; (try dsimp only at hSw); go_simp; (try with_reducible rfl))
        try simp only [Act.put, List.getElem_toArray, List.getElem_cons_zero, List.getElem_cons_succ, List.setIfInBounds_toArray, List.set_cons_zero, List.set_cons_succ]
        refine wpAnyH_take (i := 18) (oi := _) (v := ?_) rfl (by kernel_rfl) (by kernel_rfl) (by kernel_rfl) (fun _ _ _ h => h) (Or.inl ⟨by rfl, ?_⟩) (by assumption) ?_
        rotate_left
        focus (intro wS hSw; (try dsimp only at hSw); go_simp; (try with_reducible rfl))
        try simp only [Act.put, List.getElem_toArray, List.getElem_cons_zero, List.getElem_cons_succ, List.setIfInBounds_toArray, List.set_cons_zero, List.set_cons_succ]
        refine wpAnyH_take (i := 19) (oi := _) (v := ?_) rfl (by kernel_rfl) (by kernel_rfl) (by kernel_rfl) (fun _ _ _ h => h) (Or.inl ⟨by rfl, ?_⟩) (by assumption) ?_
        rotate_left
        focus (intro wS hSw; (try dsimp only at hSw); go_simp; (try with_reducible rfl))
        try simp only [Act.put, List.getElem_toArray, List.getElem_cons_zero, List.getElem_cons_succ, List.setIfInBounds_toArray, List.set_cons_zero, List.set_cons_succ]
        refine wpAnyH_take (i := 20) (oi := _) (v := ?_) rfl (by kernel_rfl) (by kernel_rfl) (by kernel_rfl) (fun _ _ _ h => h) (Or.inl ⟨by rfl, ?_⟩) (by assumption) ?_
        rotate_left
        focus (intro wS hSw; (try dsimp only at hSw); go_simp; (try with_reducible rfl))
        try simp only [Act.put, List.getElem_toArray, List.getElem_cons_zero, List.getElem_cons_succ, List.setIfInBounds_toArray, List.set_cons_zero, List.set_cons_succ]
        refine wpAnyH_take (i := 21) (oi := _) (v := ?_) rfl (by kernel_rfl) (by kernel_rfl) (by kernel_rfl) (fun _ _ _ h => h) (Or.inl ⟨by rfl, ?_⟩) (by assumption) ?_
        rotate_left
        focus (intro wS hSw; (try dsimp only at hSw); go_simp; (try with_reducible rfl))
        try simp only [Act.put, List.getElem_toArray, List.getElem_cons_zero, List.getElem_cons_succ, List.setIfInBounds_toArray, List.set_cons_zero, List.set_cons_succ]
        refine wpAnyH_take (i := 22) (oi := _) (v := ?_) rfl (by kernel_rfl) (by kernel_rfl) (by kernel_rfl) (fun _ _ _ h => h) (Or.inl ⟨by rfl, ?_⟩) (by assumption) ?_
        rotate_left
        focus (intro wS hSw; (try dsimp only at hSw); go_simp; (try with_reducible rfl))
        try simp only [Act.put, List.getElem_toArray, List.getElem_cons_zero, List.getElem_cons_succ, List.setIfInBounds_toArray, List.set_cons_zero, List.set_cons_succ]
        refine wpAnyH_take (i := 23) (oi := _) (v := ?_) rfl (by kernel_rfl) (by kernel_rfl) (by kernel_rfl) (fun _ _ _ h => h) (Or.inl ⟨by rfl, ?_⟩) (by assumption) ?_
        rotate_left
        focus (intro wS hSw; (try dsimp only at hSw); go_simp; (try with_reducible rfl))
        try simp only [Act.put, List.getElem_toArray, List.getElem_cons_zero, List.getElem_cons_succ, List.setIfInBounds_toArray, List.set_cons_zero, List.set_cons_succ]
        refine wpAnyH_take (i := 24) (oi := _) (v := ?_) rfl (by kernel_rfl) (by kernel_rfl) (by kernel_rfl) (fun _ _ _ h => h) (Or.inl ⟨by rfl, ?_⟩) (by assumption) ?_
        rotate_left
        focus (intro wS hSw; (try dsimp only at hSw); go_simp; (try with_reducible rfl))
        try simp only [Act.put, List.getElem_toArray, List.getElem_cons_zero, List.getElem_cons_succ, List.setIfInBounds_toArray, List.set_cons_zero, List.set_cons_succ]
        refine wpAnyH_take (i := 25) (oi := _) (v := ?_) rfl (by kernel_rfl) (by kernel_rfl) (by kernel_rfl) (fun _ _ _ h => h) (Or.inl ⟨by rfl, ?_⟩) (by assumption) ?_
        rotate_left
        focus (intro wS hSw; (try dsimp only at hSw); go_simp; (try with_reducible rfl))
        try simp only [Act.put, List.getElem_toArray, List.getElem_cons_zero, List.getElem_cons_succ, List.setIfInBounds_toArray, List.set_cons_zero, List.set_cons_succ]
        refine wpAnyH_take (i := 26) (oi := _) (v := ?_) rfl (by kernel_rfl) (by kernel_rfl) (by kernel_rfl) (fun _ _ _ h => h) (Or.inl ⟨by rfl, ?_⟩) (by assumption) ?_
        rotate_left
        focus (intro wS hSw; (try dsimp only at hSw); go_simp; (try with_reducible rfl))
        try simp only [Act.put, List.getElem_toArray, List.getElem_cons_zero, List.getElem_cons_succ, List.setIfInBounds_toArray, List.set_cons_zero, List.set_cons_succ]
        refine wpAnyH_take (i := 27) (oi := _) (v := ?_) rfl (by kernel_rfl) (by kernel_rfl) (by kernel_rfl) (fun _ _ _ h => h) (Or.inl ⟨by rfl, ?_⟩) (by assumption) ?_
        rotate_left
        focus (intro wS hSw; (try dsimp only at hSw); go_simp; (try with_reducible rfl))
        try simp only [Act.put, List.getElem_toArray, List.getElem_cons_zero, List.getElem_cons_succ, List.setIfInBounds_toArray, List.set_cons_zero, List.set_cons_succ]
        refine wpAnyH_take (i := 28) (oi := _) (v := ?_) rfl (by kernel_rfl) (by kernel_rfl) (by kernel_rfl) (fun _ _ _ h => h) (Or.inl ⟨by rfl, ?_⟩) (by assumption) ?_
        rotate_left
        focus (intro wS hSw; (try dsimp only at hSw); go_simp; (try with_reducible rfl))
        try simp only [Act.put, List.getElem_toArray, List.getElem_cons_zero, List.getElem_cons_succ, List.setIfInBounds_toArray, List.set_cons_zero, List.set_cons_succ]
        refine wpAnyH_take (i := 29) (oi := _) (v := ?_) rfl (by kernel_rfl) (by kernel_rfl) (by kernel_rfl) (fun _ _ _ h => h) (Or.inl ⟨by rfl, ?_⟩) (by assumption) ?_
        rotate_left
        focus (intro wS hSw; (try dsimp only at hSw); go_simp; (try with_reducible rfl))
        try simp only [Act.put, List.getElem_toArray, List.getElem_cons_zero, List.getElem_cons_succ, List.setIfInBounds_toArray, List.set_cons_zero, List.set_cons_succ]
        refine wpAnyH_take (i := 30) (oi := _) (v := ?_) rfl (by kernel_rfl) (by kernel_rfl) (by kernel_rfl) (fun _ _ _ h => h) (Or.inl ⟨by rfl, ?_⟩) (by assumption) ?_
        rotate_left
        focus (intro wS hSw; (try dsimp only at hSw); go_simp; (try with_reducible rfl))
        try simp only [Act.put, List.getElem_toArray, List.getElem_cons_zero, List.getElem_cons_succ, List.setIfInBounds_toArray, List.set_cons_zero, List.set_cons_succ]
        refine wpAnyH_take (i := 32) (oi := _) (v := ?_) rfl (by kernel_rfl) (by kernel_rfl) (by kernel_rfl) (fun _ _ _ h => h) (Or.inl ⟨by rfl, ?_⟩) (by assumption) ?_
        rotate_left
        focus (intro wS hSw; (try dsimp only at hSw); go_simp; (try with_reducible rfl))
        try simp only [Act.put, List.getElem_toArray, List.getElem_cons_zero, List.getElem_cons_succ, List.setIfInBounds_toArray, List.set_cons_zero, List.set_cons_succ]
        refine wpAnyH_ready (rs := [31]) (by kernel_rfl) (by simp) (AllReadyH.cons (o := _) rfl (fun K hK => ?_) AllReadyH.nil)
        go_simp
        go_at_call 40
        refine (icheck_any _ _ _ _).mono ?_
        rintro e w159 ⟨rfl, hb⟩
        have H160 := hid (H158.out.call hb)
        clear hb
        obtain ⟨c161, hc161⟩ : ∃ z, iCode xw xh xm = z := ⟨_, rfl⟩
        rw [hc161]
        have HNc161 := hid hc161
        clear hc161
        refine hK.out _ _ ?_ (fun hHeld2 => ?_)
        focus ((try dsimp only); (exact ⟨H160.out.cell 3 rfl 0 rfl, H160.out.cell 3 rfl 1 rfl, H160.out.cell 3 rfl 2 rfl, H160.out.cell 3 rfl 3 rfl, H160.out.cell 1 rfl 0 rfl, H160.out.cell 1 rfl 1 rfl, H160.out.cell 1 rfl 2 rfl, H160.out.cell 1 rfl 3 rfl, H160.out.cell 0 rfl 0 rfl, H160.out.cell 0 rfl 1 rfl, H160.out.cell 0 rfl 2 rfl⟩))
        clear hK K
        try simp only [Act.put, List.getElem_toArray, List.getElem_cons_zero, List.getElem_cons_succ, List.setIfInBounds_toArray, List.set_cons_zero, List.set_cons_succ]
        clear hHeld
        have hHeld := hHeld2
        clear hHeld2
        refine wpAnyH_ready (rs := [33]) (by kernel_rfl) (by simp) (AllReadyH.cons (o := _) rfl (fun K hK => ?_) AllReadyH.nil)
        go_simp
        go_at_call 41
        refine (qicheck_any _ _ _ _).mono ?_
        rintro e w162 ⟨rfl, hb⟩
        have H163 := hid (H160.out.call hb)
        clear hb
        rw [HNc161.out]
        refine hK.out _ _ ?_ (fun hHeld2 => ?_)
        focus ((try dsimp only); (exact ⟨H163.out.cell 3 rfl 0 rfl, H163.out.cell 3 rfl 1 rfl, H163.out.cell 3 rfl 2 rfl, H163.out.cell 3 rfl 3 rfl, H163.out.cell 1 rfl 0 rfl, H163.out.cell 1 rfl 1 rfl, H163.out.cell 1 rfl 2 rfl, H163.out.cell 1 rfl 3 rfl, H163.out.cell 0 rfl 0 rfl, H163.out.cell 0 rfl 1 rfl, H163.out.cell 0 rfl 2 rfl⟩))
        clear hK K
        try simp only [Act.put, List.getElem_toArray, List.getElem_cons_zero, List.getElem_cons_succ, List.setIfInBounds_toArray, List.set_cons_zero, List.set_cons_succ]
        clear hHeld
        have hHeld := hHeld2
        clear hHeld2
        refine wpAnyH_take (i := 34) (oi := _) (v := ?_) rfl (by kernel_rfl) (by kernel_rfl) (by kernel_rfl) (fun _ _ _ h => h) (Or.inl ⟨by rfl, ?_⟩) (by assumption) ?_
        rotate_left
        focus (intro wS hSw; (try dsimp only at hSw); go_simp; (try with_reducible rfl))
        try simp only [Act.put, List.getElem_toArray, List.getElem_cons_zero, List.getElem_cons_succ, List.setIfInBounds_toArray, List.set_cons_zero, List.set_cons_succ]
        refine wpAnyH_take (i := 35) (oi := _) (v := ?_) rfl (by kernel_rfl) (by kernel_rfl) (by kernel_rfl) (fun _ _ _ h => h) (Or.inl ⟨by rfl, ?_⟩) (by assumption) ?_
        rotate_left
        focus (intro wS hSw; (try dsimp only at hSw); go_simp; (try with_reducible rfl))
        try simp only [Act.put, List.getElem_toArray, List.getElem_cons_zero, List.getElem_cons_succ, List.setIfInBounds_toArray, List.set_cons_zero, List.set_cons_succ]
        refine wpAnyH_done (by kernel_rfl) ?_ _
        try clear hHeld
        go_wp2_with fail
        go_roundw
        case rel => exact ⟨j + 1, by omega, by go_num, H163.out.pick [8, 9, 10] rfl (by decide)⟩
        case measure => simp [intOf]; omega
    · skip
      go_wp2_with fail
      refine (sane13 _).mono ?_
      rintro e w164 ⟨rfl, hb⟩
      have H165 := hid (H14.out.call hb)
      clear hb
      go_wp2_with fail
      go_ret
      exact ⟨rfl, by first | exact H165.out.below | exact H165.out.below'⟩
end Go.Proofs.Ytoojiabdgaflgaa
