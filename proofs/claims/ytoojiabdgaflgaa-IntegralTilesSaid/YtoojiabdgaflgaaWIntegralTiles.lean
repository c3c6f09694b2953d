/-
  The walk of IntegralTiles: the tiles of integral planes of the program are those of the reference.
-/
import Derived.Test.YtoojiabdgaflgaaSane13
import Derived.Test.YtoojiabdgaflgaaEqual
namespace Go.Proofs.Ytoojiabdgaflgaa
open Go.RowKit
attribute [local go_sem ↓] Go.wp_at_zero Go.wp_at_succ
set_option linter.unusedVariables false
set_option linter.unusedSimpArgs false

set_option maxRecDepth 100000 in
set_option maxHeartbeats 12800000 in
theorem walk_IntegralTiles (a : Option Addr) (n c : Nat) (zs : List Int) (la : Option Addr) (ln lc : Nat) (left : List Int) (ta : Option Addr) (tn tc : Nat) (top : List Int) (cor : Int) (W : World) (hr : RowIn .i64 W a n c zs) (hl : RowIn .i64 W la ln lc left) (ht : RowIn .i64 W ta tn tc top) (_ : I64 cor) :
    Calls Try.prog 9 #[.slice a n c, .slice la ln lc, .slice ta tn tc, .int .i64 cor] W fun e w' => e = .returned (.bool true) ∧ Below W.heap.size W w' := by
  obtain ⟨B, hB⟩ : ∃ B, W.heap.size = B := ⟨_, rfl⟩
  have HI0 := hid (St.init hB)
  have HN := hid (near_of_row hr hB)
  have HR := hid hr
  have HL := hid (show Slc W la ln lc left from ⟨hl.row, hl.nc, hl.cap⟩)
  have HT := hid (show Slc W ta tn tc top from ⟨ht.row, ht.nc, ht.cap⟩)
  clear hr hl ht
  go_enter Try.func9, Try.ntmps9
  go_wp2_with fail
  obtain ⟨K1, hK1⟩ : ∃ D, W.heap.size = D := ⟨_, rfl⟩
  refine (newB_any B _ _ _ _ _ HR.out.len (HI0.out.oldRow HR.out.row) HN.out HI0.out.size).mono ?_
  rintro e w2 ⟨rfl, ht, hb, hs⟩
  rw [hK1] at ht ⊢
  have H3 := hid (HI0.out.newTape ht hb hK1)
  clear ht hb hs hK1
  go_wp2_with fail
  go_loopw [10] (fun i wr => ∃ j : Nat, j ≤ 4 ∧ i = .int .i64 j ∧ St B W [.tape K1] [] wr) (fun i _ => 4 - (intOf i).toNat)
  case atStart => exact ⟨0, by omega, rfl, H3.out⟩
  case round =>
    obtain ⟨j, hj, rfl, hst⟩ := hrel
    obtain ⟨u4, rfl⟩ : ∃ u4 : World, u4 = wr := ⟨_, rfl⟩
    have H5 := hid hst
    clear hst
    by_cases c6 : (j : Int) < 4
    · skip
      go_wp2_with fail
      refine (plane_any B K1 _ (H5.out.tapeAt 0 rfl)).mono ?_
      rintro e w8 ⟨pw7, ph7, pw71, pw72, ph71, ph72, pm7, pv7, ps7, rfl, hv, hm, ho, ht, hg⟩
      have H9 := hid (H5.out.add (H5.out.next 0 rfl ht hg) ho)
      have HVps7 := hid hv
      have HMps7 := hid hm
      obtain ⟨pv7a, pv7c, rfl, _⟩ := ho.slc
      clear hv hm ho ht hg
      obtain ⟨D10, hD10⟩ : ∃ D, w8.heap.size = D := ⟨_, rfl⟩
      go_upto_region 6 with fail
      have H11 := hid (show St B W [.cells D10 #[.int .i64 pw7, .int .i64 ph7, .int .i64 pm7, .slice pv7a ps7.length pv7c] 26, .own (.slice pv7a ps7.length pv7c) ps7, .tape K1] [] (w8.alloc (.cells #[.int .i64 pw7, .int .i64 ph7, .int .i64 pm7, .slice pv7a ps7.length pv7c] 26)) from (H9.out.alloc #[.int .i64 pw7, .int .i64 ph7, .int .i64 pm7, .slice pv7a ps7.length pv7c] 26 hD10))
      first | refine gen_code H11.out ?_ | refine gen_list H11.out ?_ | refine gen_calls H11.out ?_
      intro w12 hG
      clear H11
      have H11 := hid hG
      clear hG
      clear hD10
      have z13 := H11.out.cell 0 rfl 0 rfl
      have z14 := H11.out.cell 0 rfl 1 rfl
      have z15 := H11.out.cell 0 rfl 2 rfl
      have z16 := H11.out.cell 0 rfl 3 rfl
      go_wp2_with fail
      clear z13 z14 z15 z16
      refine (within_any B K1 _ _ _ (by omega) (by omega) (by omega) (by omega) (H11.out.tapeAt 2 rfl)).mono ?_
      rintro e w18 ⟨q17_0, q17_1, q17_2, q17_3, rfl, hq17, ht, hg⟩
      have H19 := hid (H11.out.next 2 rfl ht hg)
      have HWq17 := hid hq17
      clear hq17 ht hg
      obtain ⟨D20, hD20⟩ : ∃ D, w18.heap.size = D := ⟨_, rfl⟩
      go_upto_region 7 with fail
      have H21 := hid (show St B W [.cells D20 #[.int .i64 q17_0, .int .i64 q17_1, .int .i64 q17_2, .int .i64 q17_3] 39, .cells D10 #[.int .i64 pw7, .int .i64 ph7, .int .i64 pm7, .slice pv7a ps7.length pv7c] 26, .own (.slice pv7a ps7.length pv7c) ps7, .tape K1] [] (w18.alloc (.cells #[.int .i64 q17_0, .int .i64 q17_1, .int .i64 q17_2, .int .i64 q17_3] 39)) from (H19.out.alloc #[.int .i64 q17_0, .int .i64 q17_1, .int .i64 q17_2, .int .i64 q17_3] 39 hD20))
      first | refine gen_code H21.out ?_ | refine gen_list H21.out ?_ | refine gen_calls H21.out ?_
      intro w22 hG
      clear H21
      have H21 := hid hG
      clear hG
      clear hD20
      have z23 := H21.out.cell 0 rfl 0 rfl
      have z24 := H21.out.cell 0 rfl 1 rfl
      have z25 := H21.out.cell 0 rfl 2 rfl
      have z26 := H21.out.cell 0 rfl 3 rfl
      go_wp2_with fail
      clear z23 z24 z25 z26
      obtain ⟨hq0, hq1, hq2, hq3, hq4, hq5⟩ := HWq17.out
      have H27 := hid (show St B W [.own (.slice none 0 0) ([]), .cells D20 #[.int .i64 q17_0, .int .i64 q17_1, .int .i64 q17_2, .int .i64 q17_3] 39, .cells D10 #[.int .i64 pw7, .int .i64 ph7, .int .i64 pm7, .slice pv7a ps7.length pv7c] 26, .own (.slice pv7a ps7.length pv7c) ps7, .tape K1] [] w22 from H21.out.grow (Below.refl _ _) (Own.nil _ _))
      go_loopw [13, 15] (fun v i wr => ∃ (j' : Int) (ya : Option Addr) (yc : Nat) (yl : List Int), q17_1 ≤ j' ∧ j' ≤ q17_3 + 1 ∧ (yl.length : Int) = j' - q17_1 ∧ v = .slice ya yl.length yc ∧ i = .int .i64 j' ∧ St B W [.own (.slice ya yl.length yc) yl, .cells D20 #[.int .i64 q17_0, .int .i64 q17_1, .int .i64 q17_2, .int .i64 q17_3] 39, .cells D10 #[.int .i64 pw7, .int .i64 ph7, .int .i64 pm7, .slice pv7a ps7.length pv7c] 26, .own (.slice pv7a ps7.length pv7c) ps7, .tape K1] [] wr) (fun _ i _ => (q17_3 + 2 - intOf i).toNat)
      case atStart => exact ⟨q17_1, _, _, [], by omega, by omega, by simp, rfl, rfl, H27.out⟩
      case round =>
        obtain ⟨j', ya, yc, yl, jr1, jr2, hyl, rfl, rfl, hst⟩ := hrel
        obtain ⟨u28, rfl⟩ : ∃ u28 : World, u28 = wr := ⟨_, rfl⟩
        have H29 := hid hst
        clear hst
        have HYL := hid hyl
        have hyl2 : yl.length ≤ 200 := by omega
        clear hyl
        go_upto_region 9 with fail
        have H30 := hid H29.out.drew
        refine wp_region_held_drew (S := (fun w' => w'.cell? ⟨D20, 0, none⟩ = some (.int .i64 q17_0) ∧ w'.cell? ⟨D20, 1, none⟩ = some (.int .i64 q17_1) ∧ w'.cell? ⟨D20, 2, none⟩ = some (.int .i64 q17_2) ∧ w'.cell? ⟨D20, 3, none⟩ = some (.int .i64 q17_3))) (by kernel_rfl) ⟨H30.out.cell 1 rfl 0 rfl, H30.out.cell 1 rfl 1 rfl, H30.out.cell 1 rfl 2 rfl, H30.out.cell 1 rfl 3 rfl⟩ (fun hHeld => ?_)
        generalize u28.drew = k31 at *
        refine wpAnyH_take (i := 0) (oi := _) (v := ?_) rfl (by kernel_rfl) (by kernel_rfl) (by kernel_rfl) (fun _ _ _ h => h) (Or.inl ⟨by rfl, ?_⟩) (by assumption) ?_
        rotate_left
        focus (intro wS hSw; (try dsimp only at hSw); go_simp; (try with_reducible rfl))
        try simp only [Act.put, List.getElem_toArray, List.getElem_cons_zero, List.getElem_cons_succ, List.setIfInBounds_toArray, List.set_cons_zero, List.set_cons_succ]
        refine wpAnyH_take (i := 1) (oi := _) (v := ?_) rfl (by kernel_rfl) (by kernel_rfl) (by kernel_rfl) (fun _ _ _ h => h) (Or.inl ⟨by rfl, ?_⟩) (by assumption) ?_
        rotate_left
        focus (intro wS hSw; (try dsimp only at hSw); go_simp; (try with_reducible rfl))
        try simp only [Act.put, List.getElem_toArray, List.getElem_cons_zero, List.getElem_cons_succ, List.setIfInBounds_toArray, List.set_cons_zero, List.set_cons_succ]
        refine wpAnyH_take (i := 2) (oi := _) (v := ?_) rfl (by kernel_rfl) (by kernel_rfl) (by kernel_rfl) (fun _ _ _ h => h) (Or.inl ⟨by rfl, ?_⟩) (by assumption) ?_
        rotate_left
        focus (intro wS hSw; (try dsimp only at hSw); go_simp; (try with_reducible rfl))
        try simp only [Act.put, List.getElem_toArray, List.getElem_cons_zero, List.getElem_cons_succ, List.setIfInBounds_toArray, List.set_cons_zero, List.set_cons_succ]
        refine wpAnyH_take (i := 3) (oi := _) (v := ?_) rfl (by kernel_rfl) (by kernel_rfl) (by kernel_rfl) (fun _ _ _ h => h) (Or.inl ⟨by rfl, ?_⟩) (by assumption) ?_
        rotate_left
        focus (intro wS hSw; (try dsimp only at hSw); go_simp; (try with_reducible rfl))
        try simp only [Act.put, List.getElem_toArray, List.getElem_cons_zero, List.getElem_cons_succ, List.setIfInBounds_toArray, List.set_cons_zero, List.set_cons_succ]
        refine wpAnyH_ready (rs := [4]) (by kernel_rfl) (by simp) (AllReadyH.cons (o := _) rfl (fun K hK => ?_) AllReadyH.nil)
        go_simp
        go_at_call 20
        refine (nextB_any B K1 _ _ (by omega) (H30.out.tapeAt 4 rfl)).mono ?_
        rintro e w33 ⟨x32, rfl, x32a, x32b, htn, hgn, hsn⟩
        have H34 := hid (H30.out.next 4 rfl htn hgn)
        clear htn hgn hsn
        obtain ⟨dd, hdd⟩ : ∃ q, Int.tdiv x32 11 = q := ⟨_, rfl⟩
        obtain ⟨dd1, dd2⟩ : 0 ≤ dd ∧ dd ≤ 1 := by
          rw [← hdd, Int.tdiv_eq_ediv_of_nonneg (by omega)]
          omega
        have wd1 : IntKind.i64.wrap dd = dd := IntWalk.i64_in _ (by omega)
        have wd2 : IntKind.i64.wrap (q17_3 + dd) = q17_3 + dd := IntWalk.i64_in _ (by omega)
        refine hK.out _ _ ?_ (fun hHeld2 => ?_)
        focus ((try dsimp only); (exact ⟨H34.out.cell 1 rfl 0 rfl, H34.out.cell 1 rfl 1 rfl, H34.out.cell 1 rfl 2 rfl, H34.out.cell 1 rfl 3 rfl⟩))
        clear hK K
        try simp only [Act.put, List.getElem_toArray, List.getElem_cons_zero, List.getElem_cons_succ, List.setIfInBounds_toArray, List.set_cons_zero, List.set_cons_succ]
        clear hHeld
        have hHeld := hHeld2
        clear hHeld2
        refine wpAnyH_take (i := 5) (oi := _) (v := ?_) rfl (by kernel_rfl) (by kernel_rfl) (by kernel_rfl) (fun _ _ _ h => h) (Or.inl ⟨by rfl, ?_⟩) (by assumption) ?_
        rotate_left
        focus (intro wS hSw; (try dsimp only at hSw); go_simp; (try with_reducible rfl))
        try simp only [Act.put, List.getElem_toArray, List.getElem_cons_zero, List.getElem_cons_succ, List.setIfInBounds_toArray, List.set_cons_zero, List.set_cons_succ]
        refine wpAnyH_take (i := 6) (oi := _) (v := ?_) rfl (by kernel_rfl) (by kernel_rfl) (by kernel_rfl) (fun _ _ _ h => h) (Or.inl ⟨by rfl, ?_⟩) (by assumption) ?_
        rotate_left
        focus (intro wS hSw; (try dsimp only at hSw); go_simp; (try with_reducible rfl))
        try simp only [Act.put, List.getElem_toArray, List.getElem_cons_zero, List.getElem_cons_succ, List.setIfInBounds_toArray, List.set_cons_zero, List.set_cons_succ]
        refine wpAnyH_take (i := 7) (oi := _) (v := ?_) rfl (by kernel_rfl) (by kernel_rfl) (by kernel_rfl) (fun _ _ _ h => h) (Or.inl ⟨by rfl, ?_⟩) (by assumption) ?_
        rotate_left
        focus (intro wS hSw; (try dsimp only at hSw); go_simp; (try with_reducible rfl))
        try simp only [Act.put, List.getElem_toArray, List.getElem_cons_zero, List.getElem_cons_succ, List.setIfInBounds_toArray, List.set_cons_zero, List.set_cons_succ]
        refine wpAnyH_done (by kernel_rfl) ?_ _
        try clear hHeld
        by_cases c35 : (j' : Int) < q17_3 + dd
        · skip
          go_wp2_with fail
          refine (nextB_any B K1 _ _ (by omega) (H34.out.tapeAt 4 rfl)).mono ?_
          rintro e w37 ⟨x36, rfl, x36a, x36b, htn, hgn, hsn⟩
          have H38 := hid (H34.out.next 4 rfl htn hgn)
          clear htn hgn hsn
          obtain ⟨D39, hD39⟩ : ∃ D, w37.heap.size = D := ⟨_, rfl⟩
          have H40 := hid (show St B W [.cells D39 #[.int .i64 x36] 3, .own (.slice ya yl.length yc) yl, .cells D20 #[.int .i64 q17_0, .int .i64 q17_1, .int .i64 q17_2, .int .i64 q17_3] 39, .cells D10 #[.int .i64 pw7, .int .i64 ph7, .int .i64 pm7, .slice pv7a ps7.length pv7c] 26, .own (.slice pv7a ps7.length pv7c) ps7, .tape K1] [] (w37.alloc (.cells #[.int .i64 x36] 3)) from (H38.out.alloc #[.int .i64 x36] 3 hD39))
          go_upto_region 10 with (at_builtin; refine append_int rfl _ _ rfl B _ yl x36 D39 1 rfl rfl (H40.out.own 1 rfl) (H40.out.cell 0 rfl 0 rfl) (by omega) H40.out.size ?_; intro v43 w44 ho hg hv; have H41 := hid (H40.out.append 1 rfl ho hg hv); clear ho hg hv)
          clear H40
          obtain ⟨v43a, v43c, hva, _⟩ := (H41.out.own 1 rfl).slc
          subst hva
          have H42 := hid (show St B W [.own (.slice v43a ((yl ++ [x36]).length) v43c) (yl ++ [x36]), .cells D20 #[.int .i64 q17_0, .int .i64 q17_1, .int .i64 q17_2, .int .i64 q17_3] 39, .cells D10 #[.int .i64 pw7, .int .i64 ph7, .int .i64 pm7, .slice pv7a ps7.length pv7c] 26, .own (.slice pv7a ps7.length pv7c) ps7, .tape K1] [] w44 from H41.out.pick [1, 2, 3, 4, 5] rfl (by decide))
          clear hD39
          go_wp2_with fail
          go_roundw
          case rel => exact ⟨j' + 1, _, _, _, by omega, by omega, by have := HYL.out; simp; omega, rfl, rfl, H42.out⟩
          case measure => first | (simp [intOf]; omega) | (simp [intOf]; done)
        · skip
          have z45 := H34.out.cell 1 rfl 0 rfl
          have z46 := H34.out.cell 1 rfl 1 rfl
          have z47 := H34.out.cell 1 rfl 2 rfl
          have z48 := H34.out.cell 1 rfl 3 rfl
          go_wp2_with fail
          clear z45 z46 z47 z48
          have H49 := hid (show St B W [.own (.slice none 0 0) ([]), .own (.slice ya yl.length yc) yl, .cells D20 #[.int .i64 q17_0, .int .i64 q17_1, .int .i64 q17_2, .int .i64 q17_3] 39, .cells D10 #[.int .i64 pw7, .int .i64 ph7, .int .i64 pm7, .slice pv7a ps7.length pv7c] 26, .own (.slice pv7a ps7.length pv7c) ps7, .tape K1] [] w33 from H34.out.grow (Below.refl _ _) (Own.nil _ _))
          go_loopw [14, 16] (fun v i wr => ∃ (j' : Int) (xa : Option Addr) (xc : Nat) (xl : List Int), q17_0 ≤ j' ∧ j' ≤ q17_2 ∧ (xl.length : Int) = j' - q17_0 ∧ v = .slice xa xl.length xc ∧ i = .int .i64 j' ∧ St B W [.own (.slice xa xl.length xc) xl, .own (.slice ya yl.length yc) yl, .cells D20 #[.int .i64 q17_0, .int .i64 q17_1, .int .i64 q17_2, .int .i64 q17_3] 39, .cells D10 #[.int .i64 pw7, .int .i64 ph7, .int .i64 pm7, .slice pv7a ps7.length pv7c] 26, .own (.slice pv7a ps7.length pv7c) ps7, .tape K1] [] wr) (fun _ i _ => (q17_2 + 1 - intOf i).toNat)
          case atStart => exact ⟨q17_0, _, _, [], by omega, by omega, by simp, rfl, rfl, H49.out⟩
          case round =>
            obtain ⟨j', xa, xc, xl, jx1, jx2, hxl, rfl, rfl, hst⟩ := hrel
            obtain ⟨u50, rfl⟩ : ∃ u50 : World, u50 = wr := ⟨_, rfl⟩
            have H51 := hid hst
            clear hst
            have HXL := hid hxl
            have hxl2 : xl.length ≤ 200 := by omega
            clear hxl
            by_cases c52 : (j' : Int) < q17_2
            · skip
              have z53 := H51.out.cell 2 rfl 0 rfl
              have z54 := H51.out.cell 2 rfl 1 rfl
              have z55 := H51.out.cell 2 rfl 2 rfl
              have z56 := H51.out.cell 2 rfl 3 rfl
              go_wp2_with fail
              clear z53 z54 z55 z56
              refine (nextB_any B K1 _ _ (by omega) (H51.out.tapeAt 5 rfl)).mono ?_
              rintro e w58 ⟨x57, rfl, x57a, x57b, htn, hgn, hsn⟩
              have H59 := hid (H51.out.next 5 rfl htn hgn)
              clear htn hgn hsn
              obtain ⟨D60, hD60⟩ : ∃ D, w58.heap.size = D := ⟨_, rfl⟩
              have H61 := hid (show St B W [.cells D60 #[.int .i64 x57] 3, .own (.slice xa xl.length xc) xl, .own (.slice ya yl.length yc) yl, .cells D20 #[.int .i64 q17_0, .int .i64 q17_1, .int .i64 q17_2, .int .i64 q17_3] 39, .cells D10 #[.int .i64 pw7, .int .i64 ph7, .int .i64 pm7, .slice pv7a ps7.length pv7c] 26, .own (.slice pv7a ps7.length pv7c) ps7, .tape K1] [] (w58.alloc (.cells #[.int .i64 x57] 3)) from (H59.out.alloc #[.int .i64 x57] 3 hD60))
              go_upto_region 14 with (at_builtin; refine append_int rfl _ _ rfl B _ xl x57 D60 1 rfl rfl (H61.out.own 1 rfl) (H61.out.cell 0 rfl 0 rfl) (by omega) H61.out.size ?_; intro v64 w65 ho hg hv; have H62 := hid (H61.out.append 1 rfl ho hg hv); clear ho hg hv)
              clear H61
              obtain ⟨v64a, v64c, hva, _⟩ := (H62.out.own 1 rfl).slc
              subst hva
              have H63 := hid (show St B W [.own (.slice v64a ((xl ++ [x57]).length) v64c) (xl ++ [x57]), .own (.slice ya yl.length yc) yl, .cells D20 #[.int .i64 q17_0, .int .i64 q17_1, .int .i64 q17_2, .int .i64 q17_3] 39, .cells D10 #[.int .i64 pw7, .int .i64 ph7, .int .i64 pm7, .slice pv7a ps7.length pv7c] 26, .own (.slice pv7a ps7.length pv7c) ps7, .tape K1] [] w65 from H62.out.pick [1, 2, 3, 4, 5, 6] rfl (by decide))
              clear hD60
              go_wp2_with fail
              go_roundw
              case rel => exact ⟨j' + 1, _, _, _, by omega, by omega, by have := HXL.out; simp; omega, rfl, rfl, H63.out⟩
              case measure => first | (simp [intOf]; omega) | (simp [intOf]; done)
            · skip
              have z66 := H51.out.cell 2 rfl 0 rfl
              have z67 := H51.out.cell 2 rfl 1 rfl
              have z68 := H51.out.cell 2 rfl 2 rfl
              have z69 := H51.out.cell 2 rfl 3 rfl
              go_wp2_with fail
              clear z66 z67 z68 z69
              refine (nextB_any B K1 _ _ (by omega) (H51.out.tapeAt 5 rfl)).mono ?_
              rintro e w71 ⟨x70, rfl, x70a, x70b, htn, hgn, hsn⟩
              have H72 := hid (H51.out.next 5 rfl htn hgn)
              clear htn hgn hsn
              obtain ⟨D73, hD73⟩ : ∃ D, w71.heap.size = D := ⟨_, rfl⟩
              go_wp2_with fail
              have H74 := hid (show St B W [.cells D73 #[.int .i64 0, .int .i64 x70, .int .i64 (-1)] 3, .own (.slice xa xl.length xc) xl, .own (.slice ya yl.length yc) yl, .cells D20 #[.int .i64 q17_0, .int .i64 q17_1, .int .i64 q17_2, .int .i64 q17_3] 39, .cells D10 #[.int .i64 pw7, .int .i64 ph7, .int .i64 pm7, .slice pv7a ps7.length pv7c] 26, .own (.slice pv7a ps7.length pv7c) ps7, .tape K1] [] (w71.alloc (.cells #[.int .i64 0, .int .i64 x70, .int .i64 (-1)] 3)) from (H72.out.alloc #[.int .i64 0, .int .i64 x70, .int .i64 (-1)] 3 hD73))
              first | refine gen_code H74.out ?_ | refine gen_list H74.out ?_ | refine gen_calls H74.out ?_
              intro w75 hG
              clear H74
              have H74 := hid hG
              clear hG
              clear hD73
              refine (pickB_any B K1 _ 3 3 [0, x70, (-1)] _ (by omega) (by omega) (H74.out.tapeAt 6 rfl) (H74.out.lit 0 [0, x70, (-1)] rfl (by simp)).row (.inr ⟨_, rfl, H74.out.ne 0 6 rfl rfl (by decide) rfl rfl⟩)).mono ?_
              rintro e w77 ⟨x76, rfl, hx76, htn, hgn, hsn⟩
              have H78 := hid (H74.out.next 6 rfl htn hgn)
              clear htn hgn hsn
              clear hx76
              by_cases hN : j = 3
              · skip
                subst hN
                have z79 := H78.out.cell 4 rfl 0 rfl
                have z80 := H78.out.cell 4 rfl 1 rfl
                have z81 := H78.out.cell 4 rfl 2 rfl
                have z82 := H78.out.cell 4 rfl 3 rfl
                have z83 := H78.out.cell 3 rfl 0 rfl
                have z84 := H78.out.cell 3 rfl 1 rfl
                have z85 := H78.out.cell 3 rfl 2 rfl
                have z86 := H78.out.cell 3 rfl 3 rfl
                go_wp2_with fail
                clear z79 z80 z81 z82 z83 z84 z85 z86
                refine (itile_any _ _ _ _ _ _ ps7 _ _ _ _ _ _ _ left _ _ _ top _ _ (H78.out.slc 5 rfl) (H78.out.old HL.out) (H78.out.old HT.out)).mono ?_
                rintro e w87 ⟨v88, rfl, ho, hb⟩
                obtain ⟨l89, hl89⟩ : ∃ z, tList pw7 ph7 pm7 ps7 q17_0 q17_1 q17_2 q17_3 left top cor = z := ⟨_, rfl⟩
                rw [hl89] at ho
                have HNl89 := hid hl89
                clear hl89
                have H90 := hid (H78.out.grow hb ho)
                obtain ⟨v88a, v88c, rfl, _⟩ := ho.slc
                clear ho hb
                obtain ⟨t91, ht91⟩ : ∃ z, tIf pw7 ph7 pm7 ps7 q17_0 q17_1 q17_2 q17_3 left top cor (q17_2 - q17_0) = z := ⟨_, rfl⟩
                rw [ht91]
                have HNt91 := hid ht91
                clear ht91
                obtain ⟨t92, ht92⟩ : ∃ z, tIf pw7 ph7 pm7 ps7 q17_0 q17_1 q17_2 q17_3 left top cor (q17_3 - q17_1) = z := ⟨_, rfl⟩
                rw [ht92]
                have HNt92 := hid ht92
                clear ht92
                obtain ⟨t93, ht93⟩ : ∃ z, tIf pw7 ph7 pm7 ps7 q17_0 q17_1 q17_2 q17_3 left top cor (pw7 * ph7 * pm7) = z := ⟨_, rfl⟩
                rw [ht93]
                have HNt93 := hid ht93
                clear ht93
                obtain ⟨c94, hc94⟩ : ∃ z, tCode pw7 ph7 pm7 ps7 q17_0 q17_1 q17_2 q17_3 left top cor = z := ⟨_, rfl⟩
                rw [hc94]
                have HNc94 := hid hc94
                clear hc94
                obtain ⟨D95, hD95⟩ : ∃ D, w87.heap.size = D := ⟨_, rfl⟩
                go_upto_region 20 with fail
                have H96 := hid (show St B W [.cells D95 #[.int .i64 t91, .int .i64 t92, .int .i64 t93, .slice v88a l89.length v88c] 26, .own (.slice v88a l89.length v88c) l89, .cells D73 #[.int .i64 0, .int .i64 x70, .int .i64 (-1)] 3, .own (.slice xa xl.length xc) xl, .own (.slice ya yl.length yc) yl, .cells D20 #[.int .i64 q17_0, .int .i64 q17_1, .int .i64 q17_2, .int .i64 q17_3] 39, .cells D10 #[.int .i64 pw7, .int .i64 ph7, .int .i64 pm7, .slice pv7a ps7.length pv7c] 26, .own (.slice pv7a ps7.length pv7c) ps7, .tape K1] [] (w87.alloc (.cells #[.int .i64 t91, .int .i64 t92, .int .i64 t93, .slice v88a l89.length v88c] 26)) from (H90.out.alloc #[.int .i64 t91, .int .i64 t92, .int .i64 t93, .slice v88a l89.length v88c] 26 hD95))
                first | refine gen_code H96.out ?_ | refine gen_list H96.out ?_ | refine gen_calls H96.out ?_
                intro w97 hG
                clear H96
                have H96 := hid hG
                clear hG
                clear hD95
                have z98 := H96.out.cell 6 rfl 0 rfl
                have z99 := H96.out.cell 6 rfl 1 rfl
                have z100 := H96.out.cell 6 rfl 2 rfl
                have z101 := H96.out.cell 6 rfl 3 rfl
                have z102 := H96.out.cell 5 rfl 0 rfl
                have z103 := H96.out.cell 5 rfl 1 rfl
                have z104 := H96.out.cell 5 rfl 2 rfl
                have z105 := H96.out.cell 5 rfl 3 rfl
                go_wp2_with fail
                clear z98 z99 z100 z101 z102 z103 z104 z105
                refine (qtile_any _ _ _ _ _ _ ps7 _ _ _ _ _ _ _ left _ _ _ top _ _ (H96.out.slc 7 rfl) (H96.out.old HL.out) (H96.out.old HT.out)).mono ?_
                rintro e w106 ⟨v107, rfl, ho, hb⟩
                rw [HNl89.out] at ho
                have H108 := hid (H96.out.grow hb ho)
                obtain ⟨v107a, v107c, rfl, _⟩ := ho.slc
                clear ho hb
                rw [HNt91.out]
                rw [HNt92.out]
                rw [HNt93.out]
                rw [HNc94.out]
                obtain ⟨D109, hD109⟩ : ∃ D, w106.heap.size = D := ⟨_, rfl⟩
                go_upto_region 21 with fail
                have H110 := hid (show St B W [.cells D109 #[.int .i64 t91, .int .i64 t92, .int .i64 t93, .slice v107a l89.length v107c] 26, .own (.slice v107a l89.length v107c) l89, .cells D95 #[.int .i64 t91, .int .i64 t92, .int .i64 t93, .slice v88a l89.length v88c] 26, .own (.slice v88a l89.length v88c) l89, .cells D73 #[.int .i64 0, .int .i64 x70, .int .i64 (-1)] 3, .own (.slice xa xl.length xc) xl, .own (.slice ya yl.length yc) yl, .cells D20 #[.int .i64 q17_0, .int .i64 q17_1, .int .i64 q17_2, .int .i64 q17_3] 39, .cells D10 #[.int .i64 pw7, .int .i64 ph7, .int .i64 pm7, .slice pv7a ps7.length pv7c] 26, .own (.slice pv7a ps7.length pv7c) ps7, .tape K1] [] (w106.alloc (.cells #[.int .i64 t91, .int .i64 t92, .int .i64 t93, .slice v107a l89.length v107c] 26)) from (H108.out.alloc #[.int .i64 t91, .int .i64 t92, .int .i64 t93, .slice v107a l89.length v107c] 26 hD109))
                first | refine gen_code H110.out ?_ | refine gen_list H110.out ?_ | refine gen_calls H110.out ?_
                intro w111 hG
                clear H110
                have H110 := hid hG
                clear hG
                clear hD109
                have z112 := H110.out.cell 2 rfl 0 rfl
                have z113 := H110.out.cell 2 rfl 1 rfl
                have z114 := H110.out.cell 2 rfl 2 rfl
                have z115 := H110.out.cell 2 rfl 3 rfl
                have z116 := H110.out.cell 0 rfl 0 rfl
                have z117 := H110.out.cell 0 rfl 1 rfl
                have z118 := H110.out.cell 0 rfl 2 rfl
                have z119 := H110.out.cell 0 rfl 3 rfl
                go_wp2_with fail
                clear z112 z113 z114 z115 z116 z117 z118 z119
                refine (qequal_any _ _ _ _ _ _ l89 _ _ _ _ _ _ l89 _ (H110.out.slc 3 rfl) (H110.out.slc 1 rfl)).mono ?_
                rintro e w120 ⟨rfl, hb⟩
                have H121 := hid (H110.out.call hb)
                clear hb
                rw [show pEq t91 t92 t93 l89 t91 t92 t93 l89 = true from by simp [pEq]]
                go_wp2_with fail
                go_roundw
                case rel => exact ⟨4, by omega, by first | rfl | go_num, H121.out.pick [10] rfl (by decide)⟩
                case measure => first | (simp [intOf]; omega) | (simp [intOf]; done)
              · skip
                have hN3 : ((j : Int) == 3) = false := by simp; omega
                clear hN
                have z122 := H78.out.cell 4 rfl 0 rfl
                have z123 := H78.out.cell 4 rfl 1 rfl
                have z124 := H78.out.cell 4 rfl 2 rfl
                have z125 := H78.out.cell 4 rfl 3 rfl
                have z126 := H78.out.cell 3 rfl 0 rfl
                have z127 := H78.out.cell 3 rfl 1 rfl
                have z128 := H78.out.cell 3 rfl 2 rfl
                have z129 := H78.out.cell 3 rfl 3 rfl
                go_wp2_with fail
                clear z122 z123 z124 z125 z126 z127 z128 z129
                refine (itile_any _ _ _ _ _ _ ps7 _ _ _ _ _ _ _ yl _ _ _ xl _ _ (H78.out.slc 5 rfl) (H78.out.slc 2 rfl) (H78.out.slc 1 rfl)).mono ?_
                rintro e w130 ⟨v131, rfl, ho, hb⟩
                obtain ⟨l132, hl132⟩ : ∃ z, tList pw7 ph7 pm7 ps7 q17_0 q17_1 q17_2 q17_3 yl xl x76 = z := ⟨_, rfl⟩
                rw [hl132] at ho
                have HNl132 := hid hl132
                clear hl132
                have H133 := hid (H78.out.grow hb ho)
                obtain ⟨v131a, v131c, rfl, _⟩ := ho.slc
                clear ho hb
                obtain ⟨t134, ht134⟩ : ∃ z, tIf pw7 ph7 pm7 ps7 q17_0 q17_1 q17_2 q17_3 yl xl x76 (q17_2 - q17_0) = z := ⟨_, rfl⟩
                rw [ht134]
                have HNt134 := hid ht134
                clear ht134
                obtain ⟨t135, ht135⟩ : ∃ z, tIf pw7 ph7 pm7 ps7 q17_0 q17_1 q17_2 q17_3 yl xl x76 (q17_3 - q17_1) = z := ⟨_, rfl⟩
                rw [ht135]
                have HNt135 := hid ht135
                clear ht135
                obtain ⟨t136, ht136⟩ : ∃ z, tIf pw7 ph7 pm7 ps7 q17_0 q17_1 q17_2 q17_3 yl xl x76 (pw7 * ph7 * pm7) = z := ⟨_, rfl⟩
                rw [ht136]
                have HNt136 := hid ht136
                clear ht136
                obtain ⟨c137, hc137⟩ : ∃ z, tCode pw7 ph7 pm7 ps7 q17_0 q17_1 q17_2 q17_3 yl xl x76 = z := ⟨_, rfl⟩
                rw [hc137]
                have HNc137 := hid hc137
                clear hc137
                obtain ⟨D138, hD138⟩ : ∃ D, w130.heap.size = D := ⟨_, rfl⟩
                go_upto_region 20 with fail
                have H139 := hid (show St B W [.cells D138 #[.int .i64 t134, .int .i64 t135, .int .i64 t136, .slice v131a l132.length v131c] 26, .own (.slice v131a l132.length v131c) l132, .cells D73 #[.int .i64 0, .int .i64 x70, .int .i64 (-1)] 3, .own (.slice xa xl.length xc) xl, .own (.slice ya yl.length yc) yl, .cells D20 #[.int .i64 q17_0, .int .i64 q17_1, .int .i64 q17_2, .int .i64 q17_3] 39, .cells D10 #[.int .i64 pw7, .int .i64 ph7, .int .i64 pm7, .slice pv7a ps7.length pv7c] 26, .own (.slice pv7a ps7.length pv7c) ps7, .tape K1] [] (w130.alloc (.cells #[.int .i64 t134, .int .i64 t135, .int .i64 t136, .slice v131a l132.length v131c] 26)) from (H133.out.alloc #[.int .i64 t134, .int .i64 t135, .int .i64 t136, .slice v131a l132.length v131c] 26 hD138))
                first | refine gen_code H139.out ?_ | refine gen_list H139.out ?_ | refine gen_calls H139.out ?_
                intro w140 hG
                clear H139
                have H139 := hid hG
                clear hG
                clear hD138
                have z141 := H139.out.cell 6 rfl 0 rfl
                have z142 := H139.out.cell 6 rfl 1 rfl
                have z143 := H139.out.cell 6 rfl 2 rfl
                have z144 := H139.out.cell 6 rfl 3 rfl
                have z145 := H139.out.cell 5 rfl 0 rfl
                have z146 := H139.out.cell 5 rfl 1 rfl
                have z147 := H139.out.cell 5 rfl 2 rfl
                have z148 := H139.out.cell 5 rfl 3 rfl
                go_wp2_with fail
                clear z141 z142 z143 z144 z145 z146 z147 z148
                refine (qtile_any _ _ _ _ _ _ ps7 _ _ _ _ _ _ _ yl _ _ _ xl _ _ (H139.out.slc 7 rfl) (H139.out.slc 4 rfl) (H139.out.slc 3 rfl)).mono ?_
                rintro e w149 ⟨v150, rfl, ho, hb⟩
                rw [HNl132.out] at ho
                have H151 := hid (H139.out.grow hb ho)
                obtain ⟨v150a, v150c, rfl, _⟩ := ho.slc
                clear ho hb
                rw [HNt134.out]
                rw [HNt135.out]
                rw [HNt136.out]
                rw [HNc137.out]
                obtain ⟨D152, hD152⟩ : ∃ D, w149.heap.size = D := ⟨_, rfl⟩
                go_upto_region 21 with fail
                have H153 := hid (show St B W [.cells D152 #[.int .i64 t134, .int .i64 t135, .int .i64 t136, .slice v150a l132.length v150c] 26, .own (.slice v150a l132.length v150c) l132, .cells D138 #[.int .i64 t134, .int .i64 t135, .int .i64 t136, .slice v131a l132.length v131c] 26, .own (.slice v131a l132.length v131c) l132, .cells D73 #[.int .i64 0, .int .i64 x70, .int .i64 (-1)] 3, .own (.slice xa xl.length xc) xl, .own (.slice ya yl.length yc) yl, .cells D20 #[.int .i64 q17_0, .int .i64 q17_1, .int .i64 q17_2, .int .i64 q17_3] 39, .cells D10 #[.int .i64 pw7, .int .i64 ph7, .int .i64 pm7, .slice pv7a ps7.length pv7c] 26, .own (.slice pv7a ps7.length pv7c) ps7, .tape K1] [] (w149.alloc (.cells #[.int .i64 t134, .int .i64 t135, .int .i64 t136, .slice v150a l132.length v150c] 26)) from (H151.out.alloc #[.int .i64 t134, .int .i64 t135, .int .i64 t136, .slice v150a l132.length v150c] 26 hD152))
                first | refine gen_code H153.out ?_ | refine gen_list H153.out ?_ | refine gen_calls H153.out ?_
                intro w154 hG
                clear H153
                have H153 := hid hG
                clear hG
                clear hD152
                have z155 := H153.out.cell 2 rfl 0 rfl
                have z156 := H153.out.cell 2 rfl 1 rfl
                have z157 := H153.out.cell 2 rfl 2 rfl
                have z158 := H153.out.cell 2 rfl 3 rfl
                have z159 := H153.out.cell 0 rfl 0 rfl
                have z160 := H153.out.cell 0 rfl 1 rfl
                have z161 := H153.out.cell 0 rfl 2 rfl
                have z162 := H153.out.cell 0 rfl 3 rfl
                go_wp2_with fail
                clear z155 z156 z157 z158 z159 z160 z161 z162
                refine (qequal_any _ _ _ _ _ _ l132 _ _ _ _ _ _ l132 _ (H153.out.slc 3 rfl) (H153.out.slc 1 rfl)).mono ?_
                rintro e w163 ⟨rfl, hb⟩
                have H164 := hid (H153.out.call hb)
                clear hb
                rw [show pEq t134 t135 t136 l132 t134 t135 t136 l132 = true from by simp [pEq]]
                go_wp2_with fail
                go_roundw
                case rel => exact ⟨j + 1, by omega, by first | rfl | go_num, H164.out.pick [10] rfl (by decide)⟩
                case measure => first | (simp [intOf]; omega) | (simp [intOf]; done)
    · skip
      go_wp2_with fail
      refine (sane13 _).mono ?_
      rintro e w165 ⟨rfl, hb⟩
      have H166 := hid (H5.out.call hb)
      clear hb
      go_wp2_with fail
      go_ret
      exact ⟨rfl, by first | exact H166.out.below | exact H166.out.below'⟩
end Go.Proofs.Ytoojiabdgaflgaa
