/-
  The walk of PlaneReads: the pixels of planes, also outside of them, are those of the reference.
-/
import Derived.Test.YtoojiabdgaflgaaSane4
import Derived.Test.YtoojiabdgaflgaaTRect
import Derived.Test.YtoojiabdgaflgaaNear
import Derived.Test.YtoojiabdgaflgaaSpoil
namespace Go.Proofs.Ytoojiabdgaflgaa
open Go.RowKit
attribute [local go_sem ↓] Go.wp_at_zero Go.wp_at_succ
set_option linter.unusedVariables false
set_option linter.unusedSimpArgs false

set_option maxRecDepth 100000 in
set_option maxHeartbeats 12800000 in
theorem walk_PlaneReads (a : Option Addr) (n c : Nat) (zs : List Int) (x y e0 e1 : Int) (W : World) (hr : RowIn .i64 W a n c zs) (_ : I64 x) (_ : I64 y) (_ : I64 e0) (_ : I64 e1) :
    Calls Try.prog 14 #[.slice a n c, .int .i64 x, .int .i64 y, .agg #[.int .i64 e0, .int .i64 e1]] W fun e w' => e = .returned (.bool true) ∧ Below W.heap.size W w' := by
  obtain ⟨B, hB⟩ : ∃ B, W.heap.size = B := ⟨_, rfl⟩
  have HI0 := hid (St.init hB)
  have HN := hid (nearRow hr hB)
  have HR := hid hr
  clear hr
  go_enter Try.func14, Try.ntmps14
  go_upto_region 1 with fail
  have H1 := hid (show St B W [.cells B #[.int .i64 e0, .int .i64 e1] 72] [] (W.alloc (.cells #[.int .i64 e0, .int .i64 e1] 72)) from (HI0.out.alloc #[.int .i64 e0, .int .i64 e1] 72 hB))
  first | refine gen_code H1.out ?_ | refine gen_list H1.out ?_ | refine gen_calls H1.out ?_
  intro w2 hG
  clear H1
  have H1 := hid hG
  clear hG
  go_wp2_with fail
  obtain ⟨K3, hK3⟩ : ∃ D, w2.heap.size = D := ⟨_, rfl⟩
  refine (newB_any B _ _ _ _ _ HR.out.len (H1.out.oldRow HR.out.row) HN.out H1.out.size).mono ?_
  rintro e w4 ⟨rfl, ht, hb, hs⟩
  rw [hK3] at ht ⊢
  have H5 := hid (H1.out.newTape ht hb hK3)
  clear ht hb hs hK3
  go_wp2_with fail
  refine (plane_any B K3 _ (H5.out.tapeAt 0 rfl)).mono ?_
  rintro e w7 ⟨pw6, ph6, pw61, pw62, ph61, ph62, pm6, pv6, ps6, rfl, hv, hm, ho, ht, hg⟩
  have H8 := hid (H5.out.add (H5.out.next 0 rfl ht hg) ho)
  have HVps6 := hid hv
  have HMps6 := hid hm
  obtain ⟨pv6a, pv6c, rfl, _⟩ := ho.slc
  clear hv hm ho ht hg
  obtain ⟨D9, hD9⟩ : ∃ D, w7.heap.size = D := ⟨_, rfl⟩
  go_upto_region 3 with fail
  have H10 := hid (show St B W [.cells D9 #[.int .i64 pw6, .int .i64 ph6, .int .i64 pm6, .slice pv6a ps6.length pv6c] 26, .own (.slice pv6a ps6.length pv6c) ps6, .tape K3, .cells B #[.int .i64 e0, .int .i64 e1] 72] [] (w7.alloc (.cells #[.int .i64 pw6, .int .i64 ph6, .int .i64 pm6, .slice pv6a ps6.length pv6c] 26)) from (H8.out.alloc #[.int .i64 pw6, .int .i64 ph6, .int .i64 pm6, .slice pv6a ps6.length pv6c] 26 hD9))
  first | refine gen_code H10.out ?_ | refine gen_list H10.out ?_ | refine gen_calls H10.out ?_
  intro w11 hG
  clear H10
  have H10 := hid hG
  clear hG
  clear hD9
  go_wp2_with fail
  refine (nextB_any B K3 _ _ (by omega) (H10.out.tapeAt 2 rfl)).mono ?_
  rintro e w13 ⟨x12, rfl, x12a, x12b, htn, hgn, hsn⟩
  have H14 := hid (H10.out.next 2 rfl htn hgn)
  clear htn hgn hsn
  go_upto_if 21 with fail
  go_cut [] (fun wx => ∃ (xw xh xm : Int) (xa : Option Addr) (xc : Nat) (xl : List Int), St B W [.cells D9 #[.int .i64 xw, .int .i64 xh, .int .i64 xm, .slice xa xl.length xc] 26, .own (.slice xa xl.length xc) xl, .tape K3, .cells B #[.int .i64 e0, .int .i64 e1] 72] [] wx)
  case first =>
    by_cases c15 : (x12 : Int) = 7
    · obtain ⟨c15c, c15d⟩ : (x12 : Int) ≤ 7 ∧ (7 : Int) ≤ x12 := by omega
      have c15a : ((x12 : Int) == (7)) = true := by simpa using c15
      have c15b : ((x12 : Int) != (7)) = false := by simpa using c15
      have c15h := hid c15
      clear c15
      have z16 := H14.out.cell 0 rfl 0 rfl
      have z17 := H14.out.cell 0 rfl 1 rfl
      have z18 := H14.out.cell 0 rfl 2 rfl
      have z19 := H14.out.cell 0 rfl 3 rfl
      go_wp2_with fail
      clear z16 z17 z18 z19
      refine (spoil_any B K3 _ _ _ _ _ _ _ _ (H14.out.slc 1 rfl) (H14.out.farSlc 1 2 rfl rfl (by decide) rfl) HVps6.out (H14.out.tapeAt 2 rfl)).mono ?_
      rintro e w21 ⟨pw20, ph20, pm20, pv20, ps20, rfl, ho, ht, hg⟩
      have H22 := hid (H14.out.add (H14.out.next 2 rfl ht hg) ho)
      obtain ⟨pv20a, pv20c, rfl, _⟩ := ho.slc
      clear ho ht hg
      have z23 := H22.out.cell 1 rfl 0 rfl
      have z24 := H22.out.free 1 rfl 0
      have z25 := H22.out.cell 1 rfl 1 rfl
      have z26 := H22.out.free 1 rfl 1
      have z27 := H22.out.cell 1 rfl 2 rfl
      have z28 := H22.out.free 1 rfl 2
      have z29 := H22.out.cell 1 rfl 3 rfl
      have z30 := H22.out.free 1 rfl 3
      go_wp2_with fail
      clear z23 z24 z25 z26 z27 z28 z29 z30
      have H31 := hid (show St B W [.own (.slice pv20a ps20.length pv20c) ps20, .cells D9 #[.int .i64 pw20, .int .i64 ph20, .int .i64 pm20, .slice pv20a ps20.length pv20c] 26, .own (.slice pv6a ps6.length pv6c) ps6, .tape K3, .cells B #[.int .i64 e0, .int .i64 e1] 72] [] ((((w21.setCell ⟨D9, 0, none⟩ (.int .i64 pw20)).setCell ⟨D9, 1, none⟩ (.int .i64 ph20)).setCell ⟨D9, 2, none⟩ (.int .i64 pm20)).setCell ⟨D9, 3, none⟩ (.slice pv20a ps20.length pv20c)) from (H22.out.set4 1 rfl (.int .i64 pw20) (.int .i64 ph20) (.int .i64 pm20) (.slice pv20a ps20.length pv20c)))
      go_meet
      exact ⟨_, _, _, _, _, _, H31.out.pick [1, 0, 3, 4] rfl (by decide)⟩
    · have c15a : ((x12 : Int) == (7)) = false := by simpa using c15
      have c15b : ((x12 : Int) != (7)) = true := by simpa using c15
      have c15h := hid c15
      clear c15
      go_wp2_with fail
      go_meet
      exact ⟨_, _, _, _, _, _, H14.out.pick [0, 1, 2, 3] rfl (by decide)⟩
  case rest =>
    obtain ⟨xw, xh, xm, xa, xc, xl, hst⟩ := hcut
    obtain ⟨u32, rfl⟩ : ∃ u32 : World, u32 = wc := ⟨_, rfl⟩
    have H33 := hid hst
    clear hst
    go_wp2_with fail
    go_loopw [11] (fun i wr => ∃ j : Nat, j ≤ 8 ∧ i = .int .i64 j ∧ St B W [.cells D9 #[.int .i64 xw, .int .i64 xh, .int .i64 xm, .slice xa xl.length xc] 26, .own (.slice xa xl.length xc) xl, .tape K3, .cells B #[.int .i64 e0, .int .i64 e1] 72] [] wr) (fun i _ => 8 - (intOf i).toNat)
    case atStart => exact ⟨0, by omega, rfl, H33.out⟩
    case round =>
      obtain ⟨j, hj, rfl, hst⟩ := hrel
      obtain ⟨u34, rfl⟩ : ∃ u34 : World, u34 = wr := ⟨_, rfl⟩
      have H35 := hid hst
      clear hst
      by_cases c36 : (j : Int) < 8
      · skip
        have z37 := H35.out.cell 0 rfl 0 rfl
        have z38 := H35.out.cell 0 rfl 1 rfl
        have z39 := H35.out.cell 0 rfl 2 rfl
        have z40 := H35.out.cell 0 rfl 3 rfl
        go_wp2_with fail
        clear z37 z38 z39 z40
        refine (edge_any B K3 _ _ (H35.out.tapeAt 2 rfl)).mono ?_
        rintro e w42 ⟨e41_0, e41_1, rfl, ht, hg⟩
        have H43 := hid (H35.out.next 2 rfl ht hg)
        clear ht hg
        go_wp2_with fail
        refine (nextB_any B K3 _ _ (by omega) (H43.out.tapeAt 2 rfl)).mono ?_
        rintro e w45 ⟨x44, rfl, x44a, x44b, htn, hgn, hsn⟩
        have H46 := hid (H43.out.next 2 rfl htn hgn)
        clear htn hgn hsn
        go_wp2_with fail
        refine (nextB_any B K3 _ _ (by omega) (H46.out.tapeAt 2 rfl)).mono ?_
        rintro e w48 ⟨x47, rfl, x47a, x47b, htn, hgn, hsn⟩
        have H49 := hid (H46.out.next 2 rfl htn hgn)
        clear htn hgn hsn
        obtain ⟨D50, hD50⟩ : ∃ D, w48.heap.size = D := ⟨_, rfl⟩
        go_upto_region 9 with fail
        have H51 := hid (show St B W [.cells D50 #[.int .i64 e41_0, .int .i64 e41_1] 72, .cells D9 #[.int .i64 xw, .int .i64 xh, .int .i64 xm, .slice xa xl.length xc] 26, .own (.slice xa xl.length xc) xl, .tape K3, .cells B #[.int .i64 e0, .int .i64 e1] 72] [] (w48.alloc (.cells #[.int .i64 e41_0, .int .i64 e41_1] 72)) from (H49.out.alloc #[.int .i64 e41_0, .int .i64 e41_1] 72 hD50))
        first | refine gen_code H51.out ?_ | refine gen_list H51.out ?_ | refine gen_calls H51.out ?_
        intro w52 hG
        clear H51
        have H51 := hid hG
        clear hG
        clear hD50
        go_upto_if 40 with fail
        go_cut [11, 13, 14] (fun s s1 s2 wx => ∃ (cu cv : Int), s = .int .i64 j ∧ s1 = .int .i64 cu ∧ s2 = .int .i64 cv ∧ St B W [.cells D50 #[.int .i64 e41_0, .int .i64 e41_1] 72, .cells D9 #[.int .i64 xw, .int .i64 xh, .int .i64 xm, .slice xa xl.length xc] 26, .own (.slice xa xl.length xc) xl, .tape K3, .cells B #[.int .i64 e0, .int .i64 e1] 72] [] wx)
        case first =>
          by_cases hn5 : 5 < j
          · skip
            have hg5 : (5 : Int) < j := by omega
            go_wp2_with fail
            go_meet
            exact ⟨_, _, rfl, rfl, rfl, H51.out⟩
          · skip
            have hg5 : ¬ ((5 : Int) < j) := by omega
            go_wp2_with fail
            go_meet
            exact ⟨_, _, rfl, rfl, rfl, H51.out⟩
        case rest =>
          obtain ⟨cu, cv, rfl, rfl, rfl, hst⟩ := hcut
          obtain ⟨u53, rfl⟩ : ∃ u53 : World, u53 = wc := ⟨_, rfl⟩
          have H54 := hid hst
          clear hst
          go_upto_if 44 with fail
          go_cut [11] (fun s wx => ∃ (f0 f1 : Int), s = .int .i64 j ∧ St B W [.cells D50 #[.int .i64 f0, .int .i64 f1] 72, .cells D9 #[.int .i64 xw, .int .i64 xh, .int .i64 xm, .slice xa xl.length xc] 26, .own (.slice xa xl.length xc) xl, .tape K3, .cells B #[.int .i64 e0, .int .i64 e1] 72] [] wx)
          case first =>
            by_cases hN : j = 7
            · skip
              subst hN
              have z55 := H54.out.cell 4 rfl 0 rfl
              have z56 := H54.out.cell 4 rfl 1 rfl
              have z57 := H54.out.cell 0 rfl 0 rfl
              have z58 := H54.out.free 0 rfl 0
              have z59 := H54.out.cell 0 rfl 1 rfl
              have z60 := H54.out.free 0 rfl 1
              go_wp2_with fail
              clear z55 z56 z57 z58 z59 z60
              have H61 := hid (show St B W [.cells D50 #[.int .i64 e0, .int .i64 e1] 72, .cells D9 #[.int .i64 xw, .int .i64 xh, .int .i64 xm, .slice xa xl.length xc] 26, .own (.slice xa xl.length xc) xl, .tape K3, .cells B #[.int .i64 e0, .int .i64 e1] 72] [] ((u53.setCell ⟨D50, 0, none⟩ (.int .i64 e0)).setCell ⟨D50, 1, none⟩ (.int .i64 e1)) from ((H54.out.set 0 rfl 0 (.int .i64 e0)).set 0 rfl 1 (.int .i64 e1)))
              go_meet
              exact ⟨_, _, rfl, H61.out⟩
            · skip
              have hN7 : ((j : Int) == 7) = false := by simp; omega
              clear hN
              go_wp2_with fail
              go_meet
              exact ⟨_, _, rfl, H54.out⟩
          case rest =>
            obtain ⟨f0, f1, rfl, hst⟩ := hcut
            obtain ⟨u62, rfl⟩ : ∃ u62 : World, u62 = wc := ⟨_, rfl⟩
            have H63 := hid hst
            clear hst
            go_upto_region 13 with fail
            have H64 := hid H63.out.drew
            refine wp_region_held_drew (S := (fun w' => w'.cell? ⟨D9, 0, none⟩ = some (.int .i64 xw) ∧ w'.cell? ⟨D9, 1, none⟩ = some (.int .i64 xh) ∧ w'.cell? ⟨D9, 2, none⟩ = some (.int .i64 xm) ∧ w'.cell? ⟨D9, 3, none⟩ = some (.slice xa xl.length xc) ∧ w'.cell? ⟨D50, 0, none⟩ = some (.int .i64 f0) ∧ w'.cell? ⟨D50, 1, none⟩ = some (.int .i64 f1))) (by kernel_rfl) ⟨H64.out.cell 1 rfl 0 rfl, H64.out.cell 1 rfl 1 rfl, H64.out.cell 1 rfl 2 rfl, H64.out.cell 1 rfl 3 rfl, H64.out.cell 0 rfl 0 rfl, H64.out.cell 0 rfl 1 rfl⟩ (fun hHeld => ?_)
            generalize u62.drew = k65 at *
            refine wpAnyH_take (i := 0) (oi := _) (v := ?_) rfl (by kernel_rfl) (by kernel_rfl) (by kernel_rfl) (fun _ _ _ h => h) (Or.inl ⟨by rfl, ?_⟩) (by assumption) ?_
            rotate_left
            focus (intro wS hSw; (try dsimp only at hSw); go_simp; (try with_reducible rfl))
            try simp only [Act.put, List.getElem_toArray, List.getElem_cons_zero, List.getElem_cons_succ, List.setIfInBounds_toArray, List.set_cons_zero, List.set_cons_succ]
            refine wpAnyH_take (i := 1) (oi := _) (v := ?_) rfl (by kernel_rfl) (by kernel_rfl) (by kernel_rfl) (fun _ _ _ h => h) (Or.inl ⟨by rfl, ?_⟩) (by assumption) ?_
            rotate_left
            focus (intro wS hSw; (try dsimp only at hSw); go_simp; (try with_reducible rfl))
            try simp only [Act.put, List.getElem_toArray, List.getElem_cons_zero, List.getElem_cons_succ, List.setIfInBounds_toArray, List.set_cons_zero, List.set_cons_succ]
            refine wpAnyH_take (i := 2) (oi := _) (v := ?_) rfl (by kernel_rfl) (by kernel_rfl) (by kernel_rfl) (fun _ _ _ h => h) (Or.inl ⟨by rfl, ?_⟩) (by assumption) ?_
            rotate_left
            focus (intro wS hSw; (try dsimp only at hSw); go_simp; (try with_reducible rfl))
            try simp only [Act.put, List.getElem_toArray, List.getElem_cons_zero, List.getElem_cons_succ, List.setIfInBounds_toArray, List.set_cons_zero, List.set_cons_succ]
            refine wpAnyH_take (i := 3) (oi := _) (v := ?_) rfl (by kernel_rfl) (by kernel_rfl) (by kernel_rfl) (fun _ _ _ h => h) (Or.inl ⟨by rfl, ?_⟩) (by assumption) ?_
            rotate_left
            focus (intro wS hSw; (try dsimp only at hSw); go_simp; (try with_reducible rfl))
            try simp only [Act.put, List.getElem_toArray, List.getElem_cons_zero, List.getElem_cons_succ, List.setIfInBounds_toArray, List.set_cons_zero, List.set_cons_succ]
            refine wpAnyH_take (i := 5) (oi := _) (v := ?_) rfl (by kernel_rfl) (by kernel_rfl) (by kernel_rfl) (fun _ _ _ h => h) (Or.inl ⟨by rfl, ?_⟩) (by assumption) ?_
            rotate_left
            focus (intro wS hSw; (try dsimp only at hSw); go_simp; (try with_reducible rfl))
            try simp only [Act.put, List.getElem_toArray, List.getElem_cons_zero, List.getElem_cons_succ, List.setIfInBounds_toArray, List.set_cons_zero, List.set_cons_succ]
            refine wpAnyH_take (i := 6) (oi := _) (v := ?_) rfl (by kernel_rfl) (by kernel_rfl) (by kernel_rfl) (fun _ _ _ h => h) (Or.inl ⟨by rfl, ?_⟩) (by assumption) ?_
            rotate_left
            focus (intro wS hSw; (try dsimp only at hSw); go_simp; (try with_reducible rfl))
            try simp only [Act.put, List.getElem_toArray, List.getElem_cons_zero, List.getElem_cons_succ, List.setIfInBounds_toArray, List.set_cons_zero, List.set_cons_succ]
            refine wpAnyH_take (i := 7) (oi := _) (v := ?_) rfl (by kernel_rfl) (by kernel_rfl) (by kernel_rfl) (fun _ _ _ h => h) (Or.inl ⟨by rfl, ?_⟩) (by assumption) ?_
            rotate_left
            focus (intro wS hSw; (try dsimp only at hSw); go_simp; (try with_reducible rfl))
            try simp only [Act.put, List.getElem_toArray, List.getElem_cons_zero, List.getElem_cons_succ, List.setIfInBounds_toArray, List.set_cons_zero, List.set_cons_succ]
            refine wpAnyH_take (i := 8) (oi := _) (v := ?_) rfl (by kernel_rfl) (by kernel_rfl) (by kernel_rfl) (fun _ _ _ h => h) (Or.inl ⟨by rfl, ?_⟩) (by assumption) ?_
            rotate_left
            focus (intro wS hSw; (try dsimp only at hSw); go_simp; (try with_reducible rfl))
            try simp only [Act.put, List.getElem_toArray, List.getElem_cons_zero, List.getElem_cons_succ, List.setIfInBounds_toArray, List.set_cons_zero, List.set_cons_succ]
            refine wpAnyH_ready (rs := [4]) (by kernel_rfl) (by simp) (AllReadyH.cons (o := _) rfl (fun K hK => ?_) AllReadyH.nil)
            go_simp
            go_at_call 58
            refine (pat_any _ _ _ _ _ _ xl _ _ _ _ _ (H64.out.slc 2 rfl)).mono ?_
            rintro e w66 ⟨rfl, hb⟩
            have H67 := hid (H64.out.call hb)
            clear hb
            obtain ⟨z68, hz68⟩ : ∃ z, pAt xw xh xm xl f0 f1 cu cv = z := ⟨_, rfl⟩
            rw [hz68]
            have HNz68 := hid hz68
            clear hz68
            refine hK.out _ _ ?_ (fun hHeld2 => ?_)
            focus ((try dsimp only); (exact ⟨H67.out.cell 1 rfl 0 rfl, H67.out.cell 1 rfl 1 rfl, H67.out.cell 1 rfl 2 rfl, H67.out.cell 1 rfl 3 rfl, H67.out.cell 0 rfl 0 rfl, H67.out.cell 0 rfl 1 rfl⟩))
            clear hK K
            try simp only [Act.put, List.getElem_toArray, List.getElem_cons_zero, List.getElem_cons_succ, List.setIfInBounds_toArray, List.set_cons_zero, List.set_cons_succ]
            clear hHeld
            have hHeld := hHeld2
            clear hHeld2
            refine wpAnyH_ready (rs := [9]) (by kernel_rfl) (by simp) (AllReadyH.cons (o := _) rfl (fun K hK => ?_) AllReadyH.nil)
            go_simp
            go_at_call 59
            refine (qat4_any _ _ _ _ _ _ xl _ _ _ _ _ (H67.out.slc 2 rfl)).mono ?_
            rintro e w69 ⟨rfl, hb⟩
            have H70 := hid (H67.out.call hb)
            clear hb
            rw [HNz68.out]
            refine hK.out _ _ ?_ (fun hHeld2 => ?_)
            focus ((try dsimp only); (exact ⟨H70.out.cell 1 rfl 0 rfl, H70.out.cell 1 rfl 1 rfl, H70.out.cell 1 rfl 2 rfl, H70.out.cell 1 rfl 3 rfl, H70.out.cell 0 rfl 0 rfl, H70.out.cell 0 rfl 1 rfl⟩))
            clear hK K
            try simp only [Act.put, List.getElem_toArray, List.getElem_cons_zero, List.getElem_cons_succ, List.setIfInBounds_toArray, List.set_cons_zero, List.set_cons_succ]
            clear hHeld
            have hHeld := hHeld2
            clear hHeld2
            refine wpAnyH_take (i := 10) (oi := _) (v := ?_) rfl (by kernel_rfl) (by kernel_rfl) (by kernel_rfl) (fun _ _ _ h => h) (Or.inl ⟨by rfl, ?_⟩) (by assumption) ?_
            rotate_left
            focus (intro wS hSw; (try dsimp only at hSw); go_simp; (try with_reducible rfl))
            try simp only [Act.put, List.getElem_toArray, List.getElem_cons_zero, List.getElem_cons_succ, List.setIfInBounds_toArray, List.set_cons_zero, List.set_cons_succ]
            refine wpAnyH_done (by kernel_rfl) ?_ _
            try clear hHeld
            go_wp2_with fail
            go_roundw
            case rel => exact ⟨j + 1, by omega, by go_num, H70.out.pick [1, 2, 3, 4] rfl (by decide)⟩
            case measure => first | (simp [intOf]; omega) | (simp [intOf]; done)
      · skip
        go_wp2_with fail
        refine (sane4 _).mono ?_
        rintro e w71 ⟨rfl, hb⟩
        have H72 := hid (H35.out.call hb)
        clear hb
        go_wp2_with fail
        go_ret
        exact ⟨rfl, by first | exact H72.out.below | exact H72.out.below'⟩
end Go.Proofs.Ytoojiabdgaflgaa
