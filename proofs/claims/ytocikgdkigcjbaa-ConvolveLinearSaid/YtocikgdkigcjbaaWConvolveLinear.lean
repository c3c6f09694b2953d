/-
  The walk of ConvolveLinear: the sum of two planes has the sum of the convolutions; the kernel 1 changes nothing.
-/
import Derived.Test.YtocikgdkigcjbaaSane9
import Derived.Test.YtocikgdkigcjbaaCvLin
import Derived.Test.YtocikgdkigcjbaaWeights
import Derived.Test.YtocikgdkigcjbaaKX
import Derived.Test.YtocikgdkigcjbaaHeldG
namespace Go.Proofs.Ytocikgdkigcjbaa
open Go.RowKit
attribute [local go_sem ↓] Go.wp_at_zero Go.wp_at_succ
set_option linter.unusedVariables false
set_option linter.unusedSimpArgs false

set_option maxRecDepth 100000 in
set_option maxHeartbeats 12800000 in
theorem walk_ConvolveLinear (a : Option Addr) (n c : Nat) (zs : List Int) (W : World) (hr : RowIn .i64 W a n c zs) :
    Calls Try.prog 6 #[.slice a n c] W fun e w' => e = .returned (.bool true) ∧ Below W.heap.size W w' := by
  obtain ⟨B, hB⟩ : ∃ B, W.heap.size = B := ⟨_, rfl⟩
  have HI0 := hid (St.init hB)
  have HN := hid (nearRow hr hB)
  have HR := hid hr
  clear hr
  go_enter Try.func6, Try.ntmps6
  go_wp2_with fail
  obtain ⟨K1, hK1⟩ : ∃ D, W.heap.size = D := ⟨_, rfl⟩
  refine (newB_any B _ _ _ _ _ HR.out.len (HI0.out.oldRow HR.out.row) HN.out HI0.out.size).mono ?_
  rintro e w2 ⟨rfl, ht, hb, hs⟩
  rw [hK1] at ht ⊢
  have H3 := hid (HI0.out.newTape ht hb hK1)
  clear ht hb hs hK1
  go_wp2_with fail
  refine (nextB_any B K1 _ _ (by omega) (H3.out.tapeAt 0 rfl)).mono ?_
  rintro e w5 ⟨x4, rfl, x4a, x4b, htn, hgn, hsn⟩
  have H6 := hid (H3.out.next 0 rfl htn hgn)
  clear htn hgn hsn
  go_wp2_with fail
  refine (nextB_any B K1 _ _ (by omega) (H6.out.tapeAt 0 rfl)).mono ?_
  rintro e w8 ⟨x7, rfl, x7a, x7b, htn, hgn, hsn⟩
  have H9 := hid (H6.out.next 0 rfl htn hgn)
  clear htn hgn hsn
  go_upto_region 3 with fail
  obtain ⟨nw, hnw⟩ : ∃ m : Nat, 1 + x4 = m := ⟨(1 + x4).toNat, by omega⟩
  obtain ⟨nw1, nw2⟩ : 1 ≤ nw ∧ nw ≤ 5 := by omega
  rw [hnw]
  clear hnw
  obtain ⟨nh, hnh⟩ : ∃ m : Nat, 1 + x7 = m := ⟨(1 + x7).toNat, by omega⟩
  obtain ⟨nh1, nh2⟩ : 1 ≤ nh ∧ nh ≤ 4 := by omega
  rw [hnh]
  clear hnh
  obtain ⟨NP, hNP⟩ : ∃ m : Nat, nw * nh = m := ⟨_, rfl⟩
  have hnp : (nw : Int) * (nh : Int) = (NP : Int) := by rw [← hNP]; simp
  have hnm := Nat.mul_le_mul (show nw ≤ 5 by omega) (show nh ≤ 4 by omega)
  rw [hNP] at hnm
  have wnp : IntKind.i64.wrap (NP : Int) = NP := IntWalk.i64_in _ (by omega)
  have HNP := hid hNP
  clear hNP
  go_wp2_with fail
  have H10 := hid (show St B W [.own (.slice none 0 0) ([]), .tape K1] [] w8 from H9.out.grow (Below.refl _ _) (Own.nil _ _))
  go_loopw [7, 6] (fun i v wr => ∃ (j : Nat) (la : Option Addr) (ln lc : Nat) (ll : List Int), j ≤ 9 ∧ ll.length = j ∧ (∀ i, 0 ≤ ll.getD i 0 ∧ ll.getD i 0 ≤ 4) ∧ i = .int .i64 j ∧ v = .slice la ln lc ∧ St B W [.own (.slice la ln lc) ll, .tape K1] [] wr) (fun i _ _ => 9 - (intOf i).toNat)
  case atStart => exact ⟨0, _, _, _, [], by omega, rfl, fun i => ⟨show (0 : Int) ≤ 0 by omega, show (0 : Int) ≤ 4 by omega⟩, rfl, rfl, H10.out⟩
  case round =>
    obtain ⟨j, la, ln, lc, ll, hj, hll, hli, rfl, rfl, hst⟩ := hrel
    obtain ⟨u11, rfl⟩ : ∃ u11 : World, u11 = wr := ⟨_, rfl⟩
    have H12 := hid hst
    clear hst
    have HLL := hid hll
    have HLI := hid hli
    have hll2 : ll.length ≤ 9 := by omega
    clear hll hli
    by_cases hj9' : j < 9
    · skip
      have hj9 : (j : Int) < 9 := by omega
      go_wp2_with fail
      refine (nextB_any B K1 _ _ (by omega) (H12.out.tapeAt 1 rfl)).mono ?_
      rintro e w14 ⟨x13, rfl, x13a, x13b, htn, hgn, hsn⟩
      have H15 := hid (H12.out.next 1 rfl htn hgn)
      clear htn hgn hsn
      have HZ := hid (show 0 ≤ x13 ∧ x13 ≤ 4 from by omega)
      obtain ⟨D16, hD16⟩ : ∃ D, w14.heap.size = D := ⟨_, rfl⟩
      have H17 := hid (show St B W [.cells D16 #[.int .i64 x13] 3, .own (.slice la ln lc) ll, .tape K1] [] (w14.alloc (.cells #[.int .i64 x13] 3)) from (H15.out.alloc #[.int .i64 x13] 3 hD16))
      go_upto_region 6 with (at_builtin; refine append_int rfl _ _ rfl B _ ll x13 D16 1 rfl rfl (H17.out.own 1 rfl) (H17.out.cell 0 rfl 0 rfl) (by omega) H17.out.size ?_; intro v20 w21 ho hg hv; have H18 := hid (H17.out.append 1 rfl ho hg hv); clear ho hg hv)
      clear H17
      obtain ⟨v20a, v20c, hva, _⟩ := (H18.out.own 1 rfl).slc
      subst hva
      have H19 := hid (show St B W [.own (.slice v20a ((ll ++ [x13]).length) v20c) (ll ++ [x13]), .tape K1] [] w21 from H18.out.pick [1, 2] rfl (by decide))
      clear hD16
      go_wp2_with fail
      go_roundw
      case rel => exact ⟨j + 1, _, _, _, _, by omega, by have := HLL.out; simp; omega, in_app HLI.out HZ.out (by omega), by go_num, rfl, H19.out.pick [0, 1] rfl (by decide)⟩
      case measure => first | (simp [intOf]; omega) | (simp [intOf]; done)
    · skip
      have hj9 : ¬ ((j : Int) < 9) := by omega
      have HLL9 := hid (show ll.length = 9 from by have := HLL.out; omega)
      obtain ⟨D22, hD22⟩ : ∃ D, u11.heap.size = D := ⟨_, rfl⟩
      go_upto_region 9 with fail
      have H23 := hid (show St B W [.cells (D22 + 1) #[.int .i64 nw, .int .i64 nh, .int .i64 1000, .slice none 0 0] 35, .cells D22 #[.int .i64 nw, .int .i64 nh, .int .i64 1000, .slice none 0 0] 35, .own (.slice la ln lc) ll, .tape K1] [] ((u11.alloc (.cells #[.int .i64 nw, .int .i64 nh, .int .i64 1000, .slice none 0 0] 35)).alloc (.cells #[.int .i64 nw, .int .i64 nh, .int .i64 1000, .slice none 0 0] 35)) from ((H12.out.alloc #[.int .i64 nw, .int .i64 nh, .int .i64 1000, .slice none 0 0] 35 hD22).alloc #[.int .i64 nw, .int .i64 nh, .int .i64 1000, .slice none 0 0] 35 (by first | exact hD22 | simp [hD22])))
      first | refine gen_code H23.out ?_ | refine gen_list H23.out ?_ | refine gen_calls H23.out ?_
      intro w24 hG
      clear H23
      have H23 := hid hG
      clear hG
      clear hD22
      obtain ⟨D25, hD25⟩ : ∃ D, w24.heap.size = D := ⟨_, rfl⟩
      have z26 := H23.out.cell 1 rfl 0 rfl
      have z27 := H23.out.cell 1 rfl 1 rfl
      have z28 := H23.out.cell 1 rfl 2 rfl
      have z29 := H23.out.cell 1 rfl 3 rfl
      go_upto_region 10 with fail
      clear z26 z27 z28 z29
      have H30 := hid (show St B W [.cells D25 #[.int .i64 nw, .int .i64 nh, .int .i64 1000, .slice none 0 0] 35, .cells (D22 + 1) #[.int .i64 nw, .int .i64 nh, .int .i64 1000, .slice none 0 0] 35, .cells D22 #[.int .i64 nw, .int .i64 nh, .int .i64 1000, .slice none 0 0] 35, .own (.slice la ln lc) ll, .tape K1] [] (w24.alloc (.cells #[.int .i64 nw, .int .i64 nh, .int .i64 1000, .slice none 0 0] 35)) from (H23.out.alloc #[.int .i64 nw, .int .i64 nh, .int .i64 1000, .slice none 0 0] 35 hD25))
      first | refine gen_code H30.out ?_ | refine gen_list H30.out ?_ | refine gen_calls H30.out ?_
      intro w31 hG
      clear H30
      have H30 := hid hG
      clear hG
      clear hD25
      go_wp2_with fail
      have H32 := hid (show St B W [.own (.slice none 0 0) ([]), .cells D25 #[.int .i64 nw, .int .i64 nh, .int .i64 1000, .slice none 0 0] 35, .cells (D22 + 1) #[.int .i64 nw, .int .i64 nh, .int .i64 1000, .slice none 0 0] 35, .cells D22 #[.int .i64 nw, .int .i64 nh, .int .i64 1000, .slice none 0 0] 35, .own (.slice la ln lc) ll, .tape K1] [] w31 from H30.out.grow (Below.refl _ _) (Own.nil _ _))
      have H33 := hid (show St B W [.own (.slice none 0 0) ([]), .own (.slice none 0 0) ([]), .cells D25 #[.int .i64 nw, .int .i64 nh, .int .i64 1000, .slice none 0 0] 35, .cells (D22 + 1) #[.int .i64 nw, .int .i64 nh, .int .i64 1000, .slice none 0 0] 35, .cells D22 #[.int .i64 nw, .int .i64 nh, .int .i64 1000, .slice none 0 0] 35, .own (.slice la ln lc) ll, .tape K1] [] w31 from H32.out.grow (Below.refl _ _) (Own.nil _ _))
      have H34 := hid (show St B W [.own (.slice none 0 0) ([]), .own (.slice none 0 0) ([]), .own (.slice none 0 0) ([]), .cells D25 #[.int .i64 nw, .int .i64 nh, .int .i64 1000, .slice none 0 0] 35, .cells (D22 + 1) #[.int .i64 nw, .int .i64 nh, .int .i64 1000, .slice none 0 0] 35, .cells D22 #[.int .i64 nw, .int .i64 nh, .int .i64 1000, .slice none 0 0] 35, .own (.slice la ln lc) ll, .tape K1] [] w31 from H33.out.grow (Below.refl _ _) (Own.nil _ _))
      go_loopw [11] (fun i wr => ∃ (j : Nat) (pa : Option Addr) (pn pc : Nat) (pl : List Int) (qa : Option Addr) (qn qc : Nat) (ql : List Int) (sa : Option Addr) (sn sc : Nat) (sl : List Int), j ≤ NP ∧ pl.length = j ∧ ql.length = j ∧ sl.length = j ∧ (∀ i, 0 ≤ pl.getD i 0 ∧ pl.getD i 0 ≤ 399) ∧ (∀ i, 0 ≤ ql.getD i 0 ∧ ql.getD i 0 ≤ 399) ∧ (∀ i, sl.getD i 0 = pl.getD i 0 + ql.getD i 0) ∧ i = .int .i64 j ∧ St B W [.own (.slice pa pn pc) pl, .own (.slice qa qn qc) ql, .own (.slice sa sn sc) sl, .cells D22 #[.int .i64 nw, .int .i64 nh, .int .i64 1000, .slice pa pn pc] 35, .cells (D22 + 1) #[.int .i64 nw, .int .i64 nh, .int .i64 1000, .slice qa qn qc] 35, .cells D25 #[.int .i64 nw, .int .i64 nh, .int .i64 1000, .slice sa sn sc] 35, .own (.slice la ln lc) ll, .tape K1] [] wr) (fun i _ => NP - (intOf i).toNat)
      case atStart => exact ⟨0, _, _, _, [], _, _, _, [], _, _, _, [], by omega, rfl, rfl, rfl, fun i => ⟨show (0 : Int) ≤ 0 by omega, show (0 : Int) ≤ 399 by omega⟩, fun i => ⟨show (0 : Int) ≤ 0 by omega, show (0 : Int) ≤ 399 by omega⟩, fun i => rfl, rfl, H34.out.pick [0, 1, 2, 5, 4, 3, 6, 7] rfl (by decide)⟩
      case round =>
        obtain ⟨j, pa, pn, pc, pl, qa, qn, qc, ql, sa, sn, sc, sl, hj, hpl, hql, hsl, hpi, hqi, hsi, rfl, hst⟩ := hrel
        obtain ⟨u35, rfl⟩ : ∃ u35 : World, u35 = wr := ⟨_, rfl⟩
        have H36 := hid hst
        clear hst
        have HPL := hid hpl
        have HQL := hid hql
        have HSL := hid hsl
        have HPI := hid hpi
        have HQI := hid hqi
        have HSI := hid hsi
        obtain ⟨pl2, ql2, sl2⟩ : pl.length ≤ 100 ∧ ql.length ≤ 100 ∧ sl.length ≤ 100 := by omega
        clear hpl hql hsl hpi hqi hsi
        by_cases hjn : j < NP
        · skip
          have hjn' : (j : Int) < NP := by omega
          go_wp2_with fail
          refine (nextB_any B K1 _ _ (by omega) (H36.out.tapeAt 7 rfl)).mono ?_
          rintro e w38 ⟨x37, rfl, x37a, x37b, htn, hgn, hsn⟩
          have H39 := hid (H36.out.next 7 rfl htn hgn)
          clear htn hgn hsn
          have HA := hid (show 0 ≤ x37 ∧ x37 ≤ 399 from by omega)
          go_wp2_with fail
          refine (nextB_any B K1 _ _ (by omega) (H39.out.tapeAt 7 rfl)).mono ?_
          rintro e w41 ⟨x40, rfl, x40a, x40b, htn, hgn, hsn⟩
          have H42 := hid (H39.out.next 7 rfl htn hgn)
          clear htn hgn hsn
          have HB := hid (show 0 ≤ x40 ∧ x40 ≤ 399 from by omega)
          go_upto_region 14 with fail
          have hza := HA.out
          have hzb := HB.out
          have wab : IntKind.i64.wrap (x37 + x40) = x37 + x40 := IntWalk.i64_in _ (by omega)
          have H43 := hid H42.out.drew
          refine wp_region_G [(18, fun w' : World => w'.cell? ⟨D22, 3, none⟩ = some (.slice pa pn pc)), (20, fun w' : World => w'.cell? ⟨D22 + 1, 3, none⟩ = some (.slice qa qn qc)), (22, fun w' : World => w'.cell? ⟨D25, 3, none⟩ = some (.slice sa sn sc))] (by kernel_rfl) (Sx.cons (fun _ => H43.out.cell 3 rfl 3 rfl) (Sx.cons (fun _ => H43.out.cell 4 rfl 3 rfl) (Sx.cons (fun _ => H43.out.cell 5 rfl 3 rfl) (Sx.nil _ _)))) (fun hHeld => ?_)
          generalize w41.drew = k44 at *
          refine tgP 0 hHeld (fun hHeld => ?_)
          try simp only [Act.put, p1, p2, p3, p4, p5, p6] at hHeld ⊢
          refine tgL 1 0 hHeld (fun hHeld => ?_)
          try simp only [Act.put, p1, p2, p3, p4, p5, p6] at hHeld ⊢
          refine tgP 2 hHeld (fun hHeld => ?_)
          try simp only [Act.put, p1, p2, p3, p4, p5, p6] at hHeld ⊢
          refine tgP 5 hHeld (fun hHeld => ?_)
          try simp only [Act.put, p1, p2, p3, p4, p5, p6] at hHeld ⊢
          refine tgL 6 1 hHeld (fun hHeld => ?_)
          try simp only [Act.put, p1, p2, p3, p4, p5, p6] at hHeld ⊢
          refine tgP 7 hHeld (fun hHeld => ?_)
          try simp only [Act.put, p1, p2, p3, p4, p5, p6] at hHeld ⊢
          refine tgP 10 hHeld (fun hHeld => ?_)
          try simp only [Act.put, p1, p2, p3, p4, p5, p6] at hHeld ⊢
          refine tgL 11 2 hHeld (fun hHeld => ?_)
          try simp only [Act.put, p1, p2, p3, p4, p5, p6] at hHeld ⊢
          refine tgP 12 hHeld (fun hHeld => ?_)
          try simp only [Act.put, p1, p2, p3, p4, p5, p6] at hHeld ⊢
          refine tgP 13 hHeld (fun hHeld => ?_)
          try simp only [Act.put, p1, p2, p3, p4, p5, p6] at hHeld ⊢
          refine tgP 14 hHeld (fun hHeld => ?_)
          try simp only [Act.put, p1, p2, p3, p4, p5, p6] at hHeld ⊢
          refine wpAnyG_ready (rs := [3, 8, 15]) (by kernel_rfl) (by simp) (AllReadyG.cons (o := _) rfl (fun K hK => ?_) (AllReadyG.cons (o := _) rfl (fun K hK => ?_) (AllReadyG.cons (o := _) rfl (fun K hK => ?_) AllReadyG.nil)))
          · obtain ⟨D45, hD45⟩ : ∃ D, k44.heap.size = D := ⟨_, rfl⟩
            have H46 := hid (H43.out.alloc #[.int .i64 x37] 3 hD45)
            go_simp
            refine hK.out _ _ ?_ (fun hHeld2 => ?_)
            focus ((try dsimp only); (exact (Sx.cons (fun _ => H46.out.cell 4 rfl 3 rfl) (Sx.cons (fun _ => H46.out.cell 5 rfl 3 rfl) (Sx.cons (fun _ => H46.out.cell 6 rfl 3 rfl) (Sx.nil _ _))))))
            clear hK K hHeld
            try simp only [Act.put, p1, p2, p3, p4, p5, p6]
            clear hD45
            generalize (k44.alloc (.cells #[.int .i64 x37] 3)) = k47 at *
            have hHeld := hHeld2
            clear hHeld2
            try simp only [Act.put, p1, p2, p3, p4, p5, p6] at hHeld
            refine wpAnyG_ready (rs := [4, 8, 15]) (by kernel_rfl) (by simp) (AllReadyG.cons (o := _) rfl (fun K hK => ?_) (AllReadyG.cons (o := _) rfl (fun K hK => ?_) (AllReadyG.cons (o := _) rfl (fun K hK => ?_) AllReadyG.nil)))
            · rw [if_pos (by rfl)]
              refine oper_append_int _ _ rfl B _ pl x37 D45 1 rfl rfl (H46.out.own 1 rfl) (H46.out.cell 0 rfl 0 rfl) (by omega) H46.out.size ?_
              intro v50 k49 ho hg hv
              have H48 := hid (H46.out.append 1 rfl ho hg hv)
              clear hg hv
              obtain ⟨lv50, qv50⟩ : ∃ l, l = pl ++ [x37] := ⟨_, rfl⟩
              rw [← qv50] at H48 ho
              have Qv50 := hid qv50
              clear qv50
              obtain ⟨v50a, v50c, hva, _⟩ := ho.slc
              subst hva
              clear ho
              refine hK.out _ _ ?_ (fun hHeld2 => ?_)
              focus ((try dsimp only); (exact (Sx.cons (fun _ => H48.out.cell 4 rfl 3 rfl) (Sx.cons (fun _ => H48.out.cell 5 rfl 3 rfl) (Sx.cons (fun _ => H48.out.cell 6 rfl 3 rfl) (Sx.nil _ _))))))
              clear hK K
              try simp only [Act.put, p1, p2, p3, p4, p5, p6]
              clear hHeld
              have hHeld := hHeld2
              clear hHeld2
              try simp only [Act.put, p1, p2, p3, p4, p5, p6] at hHeld
              refine tgP 17 hHeld (fun hHeld => ?_)
              try simp only [Act.put, p1, p2, p3, p4, p5, p6] at hHeld ⊢
              refine wpAnyG_ready (rs := [8, 15]) (by kernel_rfl) (by simp) (AllReadyG.cons (o := _) rfl (fun K hK => ?_) (AllReadyG.cons (o := _) rfl (fun K hK => ?_) AllReadyG.nil))
              · obtain ⟨D51, hD51⟩ : ∃ D, k49.heap.size = D := ⟨_, rfl⟩
                have H52 := hid (H48.out.alloc #[.int .i64 x40] 3 hD51)
                go_simp
                refine hK.out _ _ ?_ (fun hHeld2 => ?_)
                focus ((try dsimp only); (exact (Sx.cons (fun _ => H52.out.cell 5 rfl 3 rfl) (Sx.cons (fun _ => H52.out.cell 6 rfl 3 rfl) (Sx.cons (fun _ => H52.out.cell 7 rfl 3 rfl) (Sx.nil _ _))))))
                clear hK K hHeld
                try simp only [Act.put, p1, p2, p3, p4, p5, p6]
                clear hD51
                generalize (k49.alloc (.cells #[.int .i64 x40] 3)) = k53 at *
                have hHeld := hHeld2
                clear hHeld2
                try simp only [Act.put, p1, p2, p3, p4, p5, p6] at hHeld
                refine wpAnyG_ready (rs := [9, 15]) (by kernel_rfl) (by simp) (AllReadyG.cons (o := _) rfl (fun K hK => ?_) (AllReadyG.cons (o := _) rfl (fun K hK => ?_) AllReadyG.nil))
                · rw [if_pos (by rfl)]
                  refine oper_append_int _ _ rfl B _ ql x40 D51 1 rfl rfl (H52.out.own 3 rfl) (H52.out.cell 0 rfl 0 rfl) (by omega) H52.out.size ?_
                  intro v56 k55 ho hg hv
                  have H54 := hid (H52.out.append 3 rfl ho hg hv)
                  clear hg hv
                  obtain ⟨lv56, qv56⟩ : ∃ l, l = ql ++ [x40] := ⟨_, rfl⟩
                  rw [← qv56] at H54 ho
                  have Qv56 := hid qv56
                  clear qv56
                  obtain ⟨v56a, v56c, hva, _⟩ := ho.slc
                  subst hva
                  clear ho
                  refine hK.out _ _ ?_ (fun hHeld2 => ?_)
                  focus ((try dsimp only); (exact (Sx.cons (fun _ => H54.out.cell 5 rfl 3 rfl) (Sx.cons (fun _ => H54.out.cell 6 rfl 3 rfl) (Sx.cons (fun _ => H54.out.cell 7 rfl 3 rfl) (Sx.nil _ _))))))
                  clear hK K
                  try simp only [Act.put, p1, p2, p3, p4, p5, p6]
                  clear hHeld
                  have hHeld := hHeld2
                  clear hHeld2
                  try simp only [Act.put, p1, p2, p3, p4, p5, p6] at hHeld
                  refine wpAnyG_ready (rs := [15]) (by kernel_rfl) (by simp) (AllReadyG.cons (o := _) rfl (fun K hK => ?_) AllReadyG.nil)
                  obtain ⟨D57, hD57⟩ : ∃ D, k55.heap.size = D := ⟨_, rfl⟩
                  have H58 := hid (H54.out.alloc #[.int .i64 (x37 + x40)] 3 hD57)
                  go_simp
                  refine hK.out _ _ ?_ (fun hHeld2 => ?_)
                  focus ((try dsimp only); (exact (Sx.cons (fun _ => H58.out.cell 6 rfl 3 rfl) (Sx.cons (fun _ => H58.out.cell 7 rfl 3 rfl) (Sx.cons (fun _ => H58.out.cell 8 rfl 3 rfl) (Sx.nil _ _))))))
                  clear hK K hHeld
                  try simp only [Act.put, p1, p2, p3, p4, p5, p6]
                  clear hD57
                  generalize (k55.alloc (.cells #[.int .i64 (x37 + x40)] 3)) = k59 at *
                  have hHeld := hHeld2
                  clear hHeld2
                  try simp only [Act.put, p1, p2, p3, p4, p5, p6] at hHeld
                  refine wpAnyG_ready (rs := [16]) (by kernel_rfl) (by simp) (AllReadyG.cons (o := _) rfl (fun K hK => ?_) AllReadyG.nil)
                  rw [if_pos (by rfl)]
                  refine oper_append_int _ _ rfl B _ sl (x37 + x40) D57 1 rfl rfl (H58.out.own 5 rfl) (H58.out.cell 0 rfl 0 rfl) (by omega) H58.out.size ?_
                  intro v62 k61 ho hg hv
                  have H60 := hid (H58.out.append 5 rfl ho hg hv)
                  clear hg hv
                  obtain ⟨lv62, qv62⟩ : ∃ l, l = sl ++ [x37 + x40] := ⟨_, rfl⟩
                  rw [← qv62] at H60 ho
                  have Qv62 := hid qv62
                  clear qv62
                  obtain ⟨v62a, v62c, hva, _⟩ := ho.slc
                  subst hva
                  clear ho
                  refine hK.out _ _ ?_ (fun hHeld2 => ?_)
                  focus ((try dsimp only); (exact (Sx.cons (fun _ => H60.out.cell 6 rfl 3 rfl) (Sx.cons (fun _ => H60.out.cell 7 rfl 3 rfl) (Sx.cons (fun _ => H60.out.cell 8 rfl 3 rfl) (Sx.nil _ _))))))
                  clear hK K
                  try simp only [Act.put, p1, p2, p3, p4, p5, p6]
                  clear hHeld
                  have hHeld := hHeld2
                  clear hHeld2
                  try simp only [Act.put, p1, p2, p3, p4, p5, p6] at hHeld
                  refine wpAnyG_ready (rs := [18]) (by kernel_rfl) (by simp) (AllReadyG.cons (o := _) rfl (fun K hK => ?_) AllReadyG.nil)
                  have z63 := H60.out.cell 6 rfl 0 rfl
                  have z64 := H60.out.free 6 rfl 0
                  have z65 := H60.out.cell 6 rfl 1 rfl
                  have z66 := H60.out.free 6 rfl 1
                  have z67 := H60.out.cell 6 rfl 2 rfl
                  have z68 := H60.out.free 6 rfl 2
                  have z69 := H60.out.cell 6 rfl 3 rfl
                  have z70 := H60.out.free 6 rfl 3
                  have H71 := hid (show St B W [.cells D57 #[.int .i64 (x37 + x40)] 3, .cells D51 #[.int .i64 x40] 3, .cells D45 #[.int .i64 x37] 3, .own (.slice v50a ((lv50).length) v50c) lv50, .own (.slice v56a ((lv56).length) v56c) lv56, .own (.slice v62a ((lv62).length) v62c) lv62, .cells D22 #[.int .i64 nw, .int .i64 nh, .int .i64 1000, .slice v50a ((lv50).length) v50c] 35, .cells (D22 + 1) #[.int .i64 nw, .int .i64 nh, .int .i64 1000, .slice qa qn qc] 35, .cells D25 #[.int .i64 nw, .int .i64 nh, .int .i64 1000, .slice sa sn sc] 35, .own (.slice la ln lc) ll, .tape K1] [] (k61.setCell ⟨D22, 3, none⟩ (.slice v50a ((lv50).length) v50c)) from (H60.out.set 6 rfl 3 (.slice v50a ((lv50).length) v50c)))
                  go_simp
                  refine hK.out _ _ ?_ (fun hHeld2 => ?_)
                  focus ((try dsimp only); (exact (Sx.cons (fun h => Bool.noConfusion (h.symm.trans (by kernel_rfl) : false = true)) (Sx.cons (fun _ => H71.out.cell 7 rfl 3 rfl) (Sx.cons (fun _ => H71.out.cell 8 rfl 3 rfl) (Sx.nil _ _))))))
                  clear hK K hHeld
                  try simp only [Act.put, p1, p2, p3, p4, p5, p6]
                  clear z63 z64 z65 z66 z67 z68 z69 z70
                  generalize (k61.setCell ⟨D22, 3, none⟩ (.slice v50a ((lv50).length) v50c)) = k72 at *
                  have hHeld := hHeld2
                  clear hHeld2
                  try simp only [Act.put, p1, p2, p3, p4, p5, p6] at hHeld
                  refine tgP 19 hHeld (fun hHeld => ?_)
                  try simp only [Act.put, p1, p2, p3, p4, p5, p6] at hHeld ⊢
                  refine wpAnyG_ready (rs := [20]) (by kernel_rfl) (by simp) (AllReadyG.cons (o := _) rfl (fun K hK => ?_) AllReadyG.nil)
                  have z73 := H71.out.cell 7 rfl 0 rfl
                  have z74 := H71.out.free 7 rfl 0
                  have z75 := H71.out.cell 7 rfl 1 rfl
                  have z76 := H71.out.free 7 rfl 1
                  have z77 := H71.out.cell 7 rfl 2 rfl
                  have z78 := H71.out.free 7 rfl 2
                  have z79 := H71.out.cell 7 rfl 3 rfl
                  have z80 := H71.out.free 7 rfl 3
                  have H81 := hid (show St B W [.cells D57 #[.int .i64 (x37 + x40)] 3, .cells D51 #[.int .i64 x40] 3, .cells D45 #[.int .i64 x37] 3, .own (.slice v50a ((lv50).length) v50c) lv50, .own (.slice v56a ((lv56).length) v56c) lv56, .own (.slice v62a ((lv62).length) v62c) lv62, .cells D22 #[.int .i64 nw, .int .i64 nh, .int .i64 1000, .slice v50a ((lv50).length) v50c] 35, .cells (D22 + 1) #[.int .i64 nw, .int .i64 nh, .int .i64 1000, .slice v56a ((lv56).length) v56c] 35, .cells D25 #[.int .i64 nw, .int .i64 nh, .int .i64 1000, .slice sa sn sc] 35, .own (.slice la ln lc) ll, .tape K1] [] (k72.setCell ⟨D22 + 1, 3, none⟩ (.slice v56a ((lv56).length) v56c)) from (H71.out.set 7 rfl 3 (.slice v56a ((lv56).length) v56c)))
                  go_simp
                  refine hK.out _ _ ?_ (fun hHeld2 => ?_)
                  focus ((try dsimp only); (exact (Sx.cons (fun h => Bool.noConfusion (h.symm.trans (by kernel_rfl) : false = true)) (Sx.cons (fun h => Bool.noConfusion (h.symm.trans (by kernel_rfl) : false = true)) (Sx.cons (fun _ => H81.out.cell 8 rfl 3 rfl) (Sx.nil _ _))))))
                  clear hK K hHeld
                  try simp only [Act.put, p1, p2, p3, p4, p5, p6]
                  clear z73 z74 z75 z76 z77 z78 z79 z80
                  generalize (k72.setCell ⟨D22 + 1, 3, none⟩ (.slice v56a ((lv56).length) v56c)) = k82 at *
                  have hHeld := hHeld2
                  clear hHeld2
                  try simp only [Act.put, p1, p2, p3, p4, p5, p6] at hHeld
                  refine tgP 21 hHeld (fun hHeld => ?_)
                  try simp only [Act.put, p1, p2, p3, p4, p5, p6] at hHeld ⊢
                  refine wpAnyG_ready (rs := [22]) (by kernel_rfl) (by simp) (AllReadyG.cons (o := _) rfl (fun K hK => ?_) AllReadyG.nil)
                  have z83 := H81.out.cell 8 rfl 0 rfl
                  have z84 := H81.out.free 8 rfl 0
                  have z85 := H81.out.cell 8 rfl 1 rfl
                  have z86 := H81.out.free 8 rfl 1
                  have z87 := H81.out.cell 8 rfl 2 rfl
                  have z88 := H81.out.free 8 rfl 2
                  have z89 := H81.out.cell 8 rfl 3 rfl
                  have z90 := H81.out.free 8 rfl 3
                  have H91 := hid (show St B W [.cells D57 #[.int .i64 (x37 + x40)] 3, .cells D51 #[.int .i64 x40] 3, .cells D45 #[.int .i64 x37] 3, .own (.slice v50a ((lv50).length) v50c) lv50, .own (.slice v56a ((lv56).length) v56c) lv56, .own (.slice v62a ((lv62).length) v62c) lv62, .cells D22 #[.int .i64 nw, .int .i64 nh, .int .i64 1000, .slice v50a ((lv50).length) v50c] 35, .cells (D22 + 1) #[.int .i64 nw, .int .i64 nh, .int .i64 1000, .slice v56a ((lv56).length) v56c] 35, .cells D25 #[.int .i64 nw, .int .i64 nh, .int .i64 1000, .slice v62a ((lv62).length) v62c] 35, .own (.slice la ln lc) ll, .tape K1] [] (k82.setCell ⟨D25, 3, none⟩ (.slice v62a ((lv62).length) v62c)) from (H81.out.set 8 rfl 3 (.slice v62a ((lv62).length) v62c)))
                  go_simp
                  refine hK.out _ _ ?_ (fun hHeld2 => ?_)
                  focus ((try dsimp only); (exact (Sx.cons (fun h => Bool.noConfusion (h.symm.trans (by kernel_rfl) : false = true)) (Sx.cons (fun h => Bool.noConfusion (h.symm.trans (by kernel_rfl) : false = true)) (Sx.cons (fun h => Bool.noConfusion (h.symm.trans (by kernel_rfl) : false = true)) (Sx.nil _ _))))))
                  clear hK K hHeld
                  try simp only [Act.put, p1, p2, p3, p4, p5, p6]
                  clear z83 z84 z85 z86 z87 z88 z89 z90
                  generalize (k82.setCell ⟨D25, 3, none⟩ (.slice v62a ((lv62).length) v62c)) = k92 at *
                  have hHeld := hHeld2
                  clear hHeld2
                  try simp only [Act.put, p1, p2, p3, p4, p5, p6] at hHeld
                  refine wpAnyG_done (by kernel_rfl) ?_ _
                  try clear hHeld
                  clear wab hza hzb
                  go_wp2_with fail
                  go_roundw
                  case rel => exact ⟨j + 1, _, _, _, _, _, _, _, _, _, _, _, _, by omega, by have := HPL.out; rw [Qv50.out]; simp; omega, by have := HQL.out; rw [Qv56.out]; simp; omega, by have := HSL.out; rw [Qv62.out]; simp; omega, by rw [Qv50.out]; exact in_app HPI.out HA.out (by omega), by rw [Qv56.out]; exact in_app HQI.out HB.out (by omega), by rw [Qv50.out, Qv56.out, Qv62.out]; exact app_sum _ _ (HPL.out.trans HSL.out.symm) (HQL.out.trans HSL.out.symm) HSI.out, by go_num, H91.out.pick [3, 4, 5, 6, 7, 8, 9, 10] rfl (by decide)⟩
                  case measure => first | (simp [intOf]; omega) | (simp [intOf]; done)
                · obtain ⟨D93, hD93⟩ : ∃ D, k53.heap.size = D := ⟨_, rfl⟩
                  have H94 := hid (H52.out.alloc #[.int .i64 (x37 + x40)] 3 hD93)
                  go_simp
                  refine hK.out _ _ ?_ (fun hHeld2 => ?_)
                  focus ((try dsimp only); (exact (Sx.cons (fun _ => H94.out.cell 6 rfl 3 rfl) (Sx.cons (fun _ => H94.out.cell 7 rfl 3 rfl) (Sx.cons (fun _ => H94.out.cell 8 rfl 3 rfl) (Sx.nil _ _))))))
                  clear hK K hHeld
                  try simp only [Act.put, p1, p2, p3, p4, p5, p6]
                  clear hD93
                  generalize (k53.alloc (.cells #[.int .i64 (x37 + x40)] 3)) = k95 at *
                  have hHeld := hHeld2
                  clear hHeld2
                  try simp only [Act.put, p1, p2, p3, p4, p5, p6] at hHeld
                  refine wpAnyG_ready (rs := [9]) (by kernel_rfl) (by simp) (AllReadyG.cons (o := _) rfl (fun K hK => ?_) AllReadyG.nil)
                  rw [if_pos (by rfl)]
                  refine oper_append_int _ _ rfl B _ ql x40 D51 1 rfl rfl (H94.out.own 4 rfl) (H94.out.cell 1 rfl 0 rfl) (by omega) H94.out.size ?_
                  intro v98 k97 ho hg hv
                  have H96 := hid (H94.out.append 4 rfl ho hg hv)
                  clear hg hv
                  obtain ⟨lv98, qv98⟩ : ∃ l, l = ql ++ [x40] := ⟨_, rfl⟩
                  rw [← qv98] at H96 ho
                  have Qv98 := hid qv98
                  clear qv98
                  obtain ⟨v98a, v98c, hva, _⟩ := ho.slc
                  subst hva
                  clear ho
                  refine hK.out _ _ ?_ (fun hHeld2 => ?_)
                  focus ((try dsimp only); (exact (Sx.cons (fun _ => H96.out.cell 6 rfl 3 rfl) (Sx.cons (fun _ => H96.out.cell 7 rfl 3 rfl) (Sx.cons (fun _ => H96.out.cell 8 rfl 3 rfl) (Sx.nil _ _))))))
                  clear hK K
                  try simp only [Act.put, p1, p2, p3, p4, p5, p6]
                  clear hHeld
                  have hHeld := hHeld2
                  clear hHeld2
                  try simp only [Act.put, p1, p2, p3, p4, p5, p6] at hHeld
                  refine wpAnyG_ready (rs := [16]) (by kernel_rfl) (by simp) (AllReadyG.cons (o := _) rfl (fun K hK => ?_) AllReadyG.nil)
                  rw [if_pos (by rfl)]
                  refine oper_append_int _ _ rfl B _ sl (x37 + x40) D93 1 rfl rfl (H96.out.own 5 rfl) (H96.out.cell 0 rfl 0 rfl) (by omega) H96.out.size ?_
                  intro v101 k100 ho hg hv
                  have H99 := hid (H96.out.append 5 rfl ho hg hv)
                  clear hg hv
                  obtain ⟨lv101, qv101⟩ : ∃ l, l = sl ++ [x37 + x40] := ⟨_, rfl⟩
                  rw [← qv101] at H99 ho
                  have Qv101 := hid qv101
                  clear qv101
                  obtain ⟨v101a, v101c, hva, _⟩ := ho.slc
                  subst hva
                  clear ho
                  refine hK.out _ _ ?_ (fun hHeld2 => ?_)
                  focus ((try dsimp only); (exact (Sx.cons (fun _ => H99.out.cell 6 rfl 3 rfl) (Sx.cons (fun _ => H99.out.cell 7 rfl 3 rfl) (Sx.cons (fun _ => H99.out.cell 8 rfl 3 rfl) (Sx.nil _ _))))))
                  clear hK K
                  try simp only [Act.put, p1, p2, p3, p4, p5, p6]
                  clear hHeld
                  have hHeld := hHeld2
                  clear hHeld2
                  try simp only [Act.put, p1, p2, p3, p4, p5, p6] at hHeld
                  refine wpAnyG_ready (rs := [18]) (by kernel_rfl) (by simp) (AllReadyG.cons (o := _) rfl (fun K hK => ?_) AllReadyG.nil)
                  have z102 := H99.out.cell 6 rfl 0 rfl
                  have z103 := H99.out.free 6 rfl 0
                  have z104 := H99.out.cell 6 rfl 1 rfl
                  have z105 := H99.out.free 6 rfl 1
                  have z106 := H99.out.cell 6 rfl 2 rfl
                  have z107 := H99.out.free 6 rfl 2
                  have z108 := H99.out.cell 6 rfl 3 rfl
                  have z109 := H99.out.free 6 rfl 3
                  have H110 := hid (show St B W [.cells D93 #[.int .i64 (x37 + x40)] 3, .cells D51 #[.int .i64 x40] 3, .cells D45 #[.int .i64 x37] 3, .own (.slice v50a ((lv50).length) v50c) lv50, .own (.slice v98a ((lv98).length) v98c) lv98, .own (.slice v101a ((lv101).length) v101c) lv101, .cells D22 #[.int .i64 nw, .int .i64 nh, .int .i64 1000, .slice v50a ((lv50).length) v50c] 35, .cells (D22 + 1) #[.int .i64 nw, .int .i64 nh, .int .i64 1000, .slice qa qn qc] 35, .cells D25 #[.int .i64 nw, .int .i64 nh, .int .i64 1000, .slice sa sn sc] 35, .own (.slice la ln lc) ll, .tape K1] [] (k100.setCell ⟨D22, 3, none⟩ (.slice v50a ((lv50).length) v50c)) from (H99.out.set 6 rfl 3 (.slice v50a ((lv50).length) v50c)))
                  go_simp
                  refine hK.out _ _ ?_ (fun hHeld2 => ?_)
                  focus ((try dsimp only); (exact (Sx.cons (fun h => Bool.noConfusion (h.symm.trans (by kernel_rfl) : false = true)) (Sx.cons (fun _ => H110.out.cell 7 rfl 3 rfl) (Sx.cons (fun _ => H110.out.cell 8 rfl 3 rfl) (Sx.nil _ _))))))
                  clear hK K hHeld
                  try simp only [Act.put, p1, p2, p3, p4, p5, p6]
                  clear z102 z103 z104 z105 z106 z107 z108 z109
                  generalize (k100.setCell ⟨D22, 3, none⟩ (.slice v50a ((lv50).length) v50c)) = k111 at *
                  have hHeld := hHeld2
                  clear hHeld2
                  try simp only [Act.put, p1, p2, p3, p4, p5, p6] at hHeld
                  refine tgP 19 hHeld (fun hHeld => ?_)
                  try simp only [Act.put, p1, p2, p3, p4, p5, p6] at hHeld ⊢
                  refine wpAnyG_ready (rs := [20]) (by kernel_rfl) (by simp) (AllReadyG.cons (o := _) rfl (fun K hK => ?_) AllReadyG.nil)
                  have z112 := H110.out.cell 7 rfl 0 rfl
                  have z113 := H110.out.free 7 rfl 0
                  have z114 := H110.out.cell 7 rfl 1 rfl
                  have z115 := H110.out.free 7 rfl 1
                  have z116 := H110.out.cell 7 rfl 2 rfl
                  have z117 := H110.out.free 7 rfl 2
                  have z118 := H110.out.cell 7 rfl 3 rfl
                  have z119 := H110.out.free 7 rfl 3
                  have H120 := hid (show St B W [.cells D93 #[.int .i64 (x37 + x40)] 3, .cells D51 #[.int .i64 x40] 3, .cells D45 #[.int .i64 x37] 3, .own (.slice v50a ((lv50).length) v50c) lv50, .own (.slice v98a ((lv98).length) v98c) lv98, .own (.slice v101a ((lv101).length) v101c) lv101, .cells D22 #[.int .i64 nw, .int .i64 nh, .int .i64 1000, .slice v50a ((lv50).length) v50c] 35, .cells (D22 + 1) #[.int .i64 nw, .int .i64 nh, .int .i64 1000, .slice v98a ((lv98).length) v98c] 35, .cells D25 #[.int .i64 nw, .int .i64 nh, .int .i64 1000, .slice sa sn sc] 35, .own (.slice la ln lc) ll, .tape K1] [] (k111.setCell ⟨D22 + 1, 3, none⟩ (.slice v98a ((lv98).length) v98c)) from (H110.out.set 7 rfl 3 (.slice v98a ((lv98).length) v98c)))
                  go_simp
                  refine hK.out _ _ ?_ (fun hHeld2 => ?_)
                  focus ((try dsimp only); (exact (Sx.cons (fun h => Bool.noConfusion (h.symm.trans (by kernel_rfl) : false = true)) (Sx.cons (fun h => Bool.noConfusion (h.symm.trans (by kernel_rfl) : false = true)) (Sx.cons (fun _ => H120.out.cell 8 rfl 3 rfl) (Sx.nil _ _))))))
                  clear hK K hHeld
                  try simp only [Act.put, p1, p2, p3, p4, p5, p6]
                  clear z112 z113 z114 z115 z116 z117 z118 z119
                  generalize (k111.setCell ⟨D22 + 1, 3, none⟩ (.slice v98a ((lv98).length) v98c)) = k121 at *
                  have hHeld := hHeld2
                  clear hHeld2
                  try simp only [Act.put, p1, p2, p3, p4, p5, p6] at hHeld
                  refine tgP 21 hHeld (fun hHeld => ?_)
                  try simp only [Act.put, p1, p2, p3, p4, p5, p6] at hHeld ⊢
                  refine wpAnyG_ready (rs := [22]) (by kernel_rfl) (by simp) (AllReadyG.cons (o := _) rfl (fun K hK => ?_) AllReadyG.nil)
                  have z122 := H120.out.cell 8 rfl 0 rfl
                  have z123 := H120.out.free 8 rfl 0
                  have z124 := H120.out.cell 8 rfl 1 rfl
                  have z125 := H120.out.free 8 rfl 1
                  have z126 := H120.out.cell 8 rfl 2 rfl
                  have z127 := H120.out.free 8 rfl 2
                  have z128 := H120.out.cell 8 rfl 3 rfl
                  have z129 := H120.out.free 8 rfl 3
                  have H130 := hid (show St B W [.cells D93 #[.int .i64 (x37 + x40)] 3, .cells D51 #[.int .i64 x40] 3, .cells D45 #[.int .i64 x37] 3, .own (.slice v50a ((lv50).length) v50c) lv50, .own (.slice v98a ((lv98).length) v98c) lv98, .own (.slice v101a ((lv101).length) v101c) lv101, .cells D22 #[.int .i64 nw, .int .i64 nh, .int .i64 1000, .slice v50a ((lv50).length) v50c] 35, .cells (D22 + 1) #[.int .i64 nw, .int .i64 nh, .int .i64 1000, .slice v98a ((lv98).length) v98c] 35, .cells D25 #[.int .i64 nw, .int .i64 nh, .int .i64 1000, .slice v101a ((lv101).length) v101c] 35, .own (.slice la ln lc) ll, .tape K1] [] (k121.setCell ⟨D25, 3, none⟩ (.slice v101a ((lv101).length) v101c)) from (H120.out.set 8 rfl 3 (.slice v101a ((lv101).length) v101c)))
                  go_simp
                  refine hK.out _ _ ?_ (fun hHeld2 => ?_)
                  focus ((try dsimp only); (exact (Sx.cons (fun h => Bool.noConfusion (h.symm.trans (by kernel_rfl) : false = true)) (Sx.cons (fun h => Bool.noConfusion (h.symm.trans (by kernel_rfl) : false = true)) (Sx.cons (fun h => Bool.noConfusion (h.symm.trans (by kernel_rfl) : false = true)) (Sx.nil _ _))))))
                  clear hK K hHeld
                  try simp only [Act.put, p1, p2, p3, p4, p5, p6]
                  clear z122 z123 z124 z125 z126 z127 z128 z129
                  generalize (k121.setCell ⟨D25, 3, none⟩ (.slice v101a ((lv101).length) v101c)) = k131 at *
                  have hHeld := hHeld2
                  clear hHeld2
                  try simp only [Act.put, p1, p2, p3, p4, p5, p6] at hHeld
                  refine wpAnyG_done (by kernel_rfl) ?_ _
                  try clear hHeld
                  clear wab hza hzb
                  go_wp2_with fail
                  go_roundw
                  case rel => exact ⟨j + 1, _, _, _, _, _, _, _, _, _, _, _, _, by omega, by have := HPL.out; rw [Qv50.out]; simp; omega, by have := HQL.out; rw [Qv98.out]; simp; omega, by have := HSL.out; rw [Qv101.out]; simp; omega, by rw [Qv50.out]; exact in_app HPI.out HA.out (by omega), by rw [Qv98.out]; exact in_app HQI.out HB.out (by omega), by rw [Qv50.out, Qv98.out, Qv101.out]; exact app_sum _ _ (HPL.out.trans HSL.out.symm) (HQL.out.trans HSL.out.symm) HSI.out, by go_num, H130.out.pick [3, 4, 5, 6, 7, 8, 9, 10] rfl (by decide)⟩
                  case measure => first | (simp [intOf]; omega) | (simp [intOf]; done)
              · obtain ⟨D132, hD132⟩ : ∃ D, k49.heap.size = D := ⟨_, rfl⟩
                have H133 := hid (H48.out.alloc #[.int .i64 (x37 + x40)] 3 hD132)
                go_simp
                refine hK.out _ _ ?_ (fun hHeld2 => ?_)
                focus ((try dsimp only); (exact (Sx.cons (fun _ => H133.out.cell 5 rfl 3 rfl) (Sx.cons (fun _ => H133.out.cell 6 rfl 3 rfl) (Sx.cons (fun _ => H133.out.cell 7 rfl 3 rfl) (Sx.nil _ _))))))
                clear hK K hHeld
                try simp only [Act.put, p1, p2, p3, p4, p5, p6]
                clear hD132
                generalize (k49.alloc (.cells #[.int .i64 (x37 + x40)] 3)) = k134 at *
                have hHeld := hHeld2
                clear hHeld2
                try simp only [Act.put, p1, p2, p3, p4, p5, p6] at hHeld
                refine wpAnyG_ready (rs := [8]) (by kernel_rfl) (by simp) (AllReadyG.cons (o := _) rfl (fun K hK => ?_) AllReadyG.nil)
                obtain ⟨D135, hD135⟩ : ∃ D, k134.heap.size = D := ⟨_, rfl⟩
                have H136 := hid (H133.out.alloc #[.int .i64 x40] 3 hD135)
                go_simp
                refine hK.out _ _ ?_ (fun hHeld2 => ?_)
                focus ((try dsimp only); (exact (Sx.cons (fun _ => H136.out.cell 6 rfl 3 rfl) (Sx.cons (fun _ => H136.out.cell 7 rfl 3 rfl) (Sx.cons (fun _ => H136.out.cell 8 rfl 3 rfl) (Sx.nil _ _))))))
                clear hK K hHeld
                try simp only [Act.put, p1, p2, p3, p4, p5, p6]
                clear hD135
                generalize (k134.alloc (.cells #[.int .i64 x40] 3)) = k137 at *
                have hHeld := hHeld2
                clear hHeld2
                try simp only [Act.put, p1, p2, p3, p4, p5, p6] at hHeld
                refine wpAnyG_ready (rs := [9]) (by kernel_rfl) (by simp) (AllReadyG.cons (o := _) rfl (fun K hK => ?_) AllReadyG.nil)
                rw [if_pos (by rfl)]
                refine oper_append_int _ _ rfl B _ ql x40 D135 1 rfl rfl (H136.out.own 4 rfl) (H136.out.cell 0 rfl 0 rfl) (by omega) H136.out.size ?_
                intro v140 k139 ho hg hv
                have H138 := hid (H136.out.append 4 rfl ho hg hv)
                clear hg hv
                obtain ⟨lv140, qv140⟩ : ∃ l, l = ql ++ [x40] := ⟨_, rfl⟩
                rw [← qv140] at H138 ho
                have Qv140 := hid qv140
                clear qv140
                obtain ⟨v140a, v140c, hva, _⟩ := ho.slc
                subst hva
                clear ho
                refine hK.out _ _ ?_ (fun hHeld2 => ?_)
                focus ((try dsimp only); (exact (Sx.cons (fun _ => H138.out.cell 6 rfl 3 rfl) (Sx.cons (fun _ => H138.out.cell 7 rfl 3 rfl) (Sx.cons (fun _ => H138.out.cell 8 rfl 3 rfl) (Sx.nil _ _))))))
                clear hK K
                try simp only [Act.put, p1, p2, p3, p4, p5, p6]
                clear hHeld
                have hHeld := hHeld2
                clear hHeld2
                try simp only [Act.put, p1, p2, p3, p4, p5, p6] at hHeld
                refine wpAnyG_ready (rs := [16]) (by kernel_rfl) (by simp) (AllReadyG.cons (o := _) rfl (fun K hK => ?_) AllReadyG.nil)
                rw [if_pos (by rfl)]
                refine oper_append_int _ _ rfl B _ sl (x37 + x40) D132 1 rfl rfl (H138.out.own 5 rfl) (H138.out.cell 1 rfl 0 rfl) (by omega) H138.out.size ?_
                intro v143 k142 ho hg hv
                have H141 := hid (H138.out.append 5 rfl ho hg hv)
                clear hg hv
                obtain ⟨lv143, qv143⟩ : ∃ l, l = sl ++ [x37 + x40] := ⟨_, rfl⟩
                rw [← qv143] at H141 ho
                have Qv143 := hid qv143
                clear qv143
                obtain ⟨v143a, v143c, hva, _⟩ := ho.slc
                subst hva
                clear ho
                refine hK.out _ _ ?_ (fun hHeld2 => ?_)
                focus ((try dsimp only); (exact (Sx.cons (fun _ => H141.out.cell 6 rfl 3 rfl) (Sx.cons (fun _ => H141.out.cell 7 rfl 3 rfl) (Sx.cons (fun _ => H141.out.cell 8 rfl 3 rfl) (Sx.nil _ _))))))
                clear hK K
                try simp only [Act.put, p1, p2, p3, p4, p5, p6]
                clear hHeld
                have hHeld := hHeld2
                clear hHeld2
                try simp only [Act.put, p1, p2, p3, p4, p5, p6] at hHeld
                refine wpAnyG_ready (rs := [18]) (by kernel_rfl) (by simp) (AllReadyG.cons (o := _) rfl (fun K hK => ?_) AllReadyG.nil)
                have z144 := H141.out.cell 6 rfl 0 rfl
                have z145 := H141.out.free 6 rfl 0
                have z146 := H141.out.cell 6 rfl 1 rfl
                have z147 := H141.out.free 6 rfl 1
                have z148 := H141.out.cell 6 rfl 2 rfl
                have z149 := H141.out.free 6 rfl 2
                have z150 := H141.out.cell 6 rfl 3 rfl
                have z151 := H141.out.free 6 rfl 3
                have H152 := hid (show St B W [.cells D135 #[.int .i64 x40] 3, .cells D132 #[.int .i64 (x37 + x40)] 3, .cells D45 #[.int .i64 x37] 3, .own (.slice v50a ((lv50).length) v50c) lv50, .own (.slice v140a ((lv140).length) v140c) lv140, .own (.slice v143a ((lv143).length) v143c) lv143, .cells D22 #[.int .i64 nw, .int .i64 nh, .int .i64 1000, .slice v50a ((lv50).length) v50c] 35, .cells (D22 + 1) #[.int .i64 nw, .int .i64 nh, .int .i64 1000, .slice qa qn qc] 35, .cells D25 #[.int .i64 nw, .int .i64 nh, .int .i64 1000, .slice sa sn sc] 35, .own (.slice la ln lc) ll, .tape K1] [] (k142.setCell ⟨D22, 3, none⟩ (.slice v50a ((lv50).length) v50c)) from (H141.out.set 6 rfl 3 (.slice v50a ((lv50).length) v50c)))
                go_simp
                refine hK.out _ _ ?_ (fun hHeld2 => ?_)
                focus ((try dsimp only); (exact (Sx.cons (fun h => Bool.noConfusion (h.symm.trans (by kernel_rfl) : false = true)) (Sx.cons (fun _ => H152.out.cell 7 rfl 3 rfl) (Sx.cons (fun _ => H152.out.cell 8 rfl 3 rfl) (Sx.nil _ _))))))
                clear hK K hHeld
                try simp only [Act.put, p1, p2, p3, p4, p5, p6]
                clear z144 z145 z146 z147 z148 z149 z150 z151
                generalize (k142.setCell ⟨D22, 3, none⟩ (.slice v50a ((lv50).length) v50c)) = k153 at *
                have hHeld := hHeld2
                clear hHeld2
                try simp only [Act.put, p1, p2, p3, p4, p5, p6] at hHeld
                refine tgP 19 hHeld (fun hHeld => ?_)
                try simp only [Act.put, p1, p2, p3, p4, p5, p6] at hHeld ⊢
                refine wpAnyG_ready (rs := [20]) (by kernel_rfl) (by simp) (AllReadyG.cons (o := _) rfl (fun K hK => ?_) AllReadyG.nil)
                have z154 := H152.out.cell 7 rfl 0 rfl
                have z155 := H152.out.free 7 rfl 0
                have z156 := H152.out.cell 7 rfl 1 rfl
                have z157 := H152.out.free 7 rfl 1
                have z158 := H152.out.cell 7 rfl 2 rfl
                have z159 := H152.out.free 7 rfl 2
                have z160 := H152.out.cell 7 rfl 3 rfl
                have z161 := H152.out.free 7 rfl 3
                have H162 := hid (show St B W [.cells D135 #[.int .i64 x40] 3, .cells D132 #[.int .i64 (x37 + x40)] 3, .cells D45 #[.int .i64 x37] 3, .own (.slice v50a ((lv50).length) v50c) lv50, .own (.slice v140a ((lv140).length) v140c) lv140, .own (.slice v143a ((lv143).length) v143c) lv143, .cells D22 #[.int .i64 nw, .int .i64 nh, .int .i64 1000, .slice v50a ((lv50).length) v50c] 35, .cells (D22 + 1) #[.int .i64 nw, .int .i64 nh, .int .i64 1000, .slice v140a ((lv140).length) v140c] 35, .cells D25 #[.int .i64 nw, .int .i64 nh, .int .i64 1000, .slice sa sn sc] 35, .own (.slice la ln lc) ll, .tape K1] [] (k153.setCell ⟨D22 + 1, 3, none⟩ (.slice v140a ((lv140).length) v140c)) from (H152.out.set 7 rfl 3 (.slice v140a ((lv140).length) v140c)))
                go_simp
                refine hK.out _ _ ?_ (fun hHeld2 => ?_)
                focus ((try dsimp only); (exact (Sx.cons (fun h => Bool.noConfusion (h.symm.trans (by kernel_rfl) : false = true)) (Sx.cons (fun h => Bool.noConfusion (h.symm.trans (by kernel_rfl) : false = true)) (Sx.cons (fun _ => H162.out.cell 8 rfl 3 rfl) (Sx.nil _ _))))))
                clear hK K hHeld
                try simp only [Act.put, p1, p2, p3, p4, p5, p6]
                clear z154 z155 z156 z157 z158 z159 z160 z161
                generalize (k153.setCell ⟨D22 + 1, 3, none⟩ (.slice v140a ((lv140).length) v140c)) = k163 at *
                have hHeld := hHeld2
                clear hHeld2
                try simp only [Act.put, p1, p2, p3, p4, p5, p6] at hHeld
                refine tgP 21 hHeld (fun hHeld => ?_)
                try simp only [Act.put, p1, p2, p3, p4, p5, p6] at hHeld ⊢
                refine wpAnyG_ready (rs := [22]) (by kernel_rfl) (by simp) (AllReadyG.cons (o := _) rfl (fun K hK => ?_) AllReadyG.nil)
                have z164 := H162.out.cell 8 rfl 0 rfl
                have z165 := H162.out.free 8 rfl 0
                have z166 := H162.out.cell 8 rfl 1 rfl
                have z167 := H162.out.free 8 rfl 1
                have z168 := H162.out.cell 8 rfl 2 rfl
                have z169 := H162.out.free 8 rfl 2
                have z170 := H162.out.cell 8 rfl 3 rfl
                have z171 := H162.out.free 8 rfl 3
                have H172 := hid (show St B W [.cells D135 #[.int .i64 x40] 3, .cells D132 #[.int .i64 (x37 + x40)] 3, .cells D45 #[.int .i64 x37] 3, .own (.slice v50a ((lv50).length) v50c) lv50, .own (.slice v140a ((lv140).length) v140c) lv140, .own (.slice v143a ((lv143).length) v143c) lv143, .cells D22 #[.int .i64 nw, .int .i64 nh, .int .i64 1000, .slice v50a ((lv50).length) v50c] 35, .cells (D22 + 1) #[.int .i64 nw, .int .i64 nh, .int .i64 1000, .slice v140a ((lv140).length) v140c] 35, .cells D25 #[.int .i64 nw, .int .i64 nh, .int .i64 1000, .slice v143a ((lv143).length) v143c] 35, .own (.slice la ln lc) ll, .tape K1] [] (k163.setCell ⟨D25, 3, none⟩ (.slice v143a ((lv143).length) v143c)) from (H162.out.set 8 rfl 3 (.slice v143a ((lv143).length) v143c)))
                go_simp
                refine hK.out _ _ ?_ (fun hHeld2 => ?_)
                focus ((try dsimp only); (exact (Sx.cons (fun h => Bool.noConfusion (h.symm.trans (by kernel_rfl) : false = true)) (Sx.cons (fun h => Bool.noConfusion (h.symm.trans (by kernel_rfl) : false = true)) (Sx.cons (fun h => Bool.noConfusion (h.symm.trans (by kernel_rfl) : false = true)) (Sx.nil _ _))))))
                clear hK K hHeld
                try simp only [Act.put, p1, p2, p3, p4, p5, p6]
                clear z164 z165 z166 z167 z168 z169 z170 z171
                generalize (k163.setCell ⟨D25, 3, none⟩ (.slice v143a ((lv143).length) v143c)) = k173 at *
                have hHeld := hHeld2
                clear hHeld2
                try simp only [Act.put, p1, p2, p3, p4, p5, p6] at hHeld
                refine wpAnyG_done (by kernel_rfl) ?_ _
                try clear hHeld
                clear wab hza hzb
                go_wp2_with fail
                go_roundw
                case rel => exact ⟨j + 1, _, _, _, _, _, _, _, _, _, _, _, _, by omega, by have := HPL.out; rw [Qv50.out]; simp; omega, by have := HQL.out; rw [Qv140.out]; simp; omega, by have := HSL.out; rw [Qv143.out]; simp; omega, by rw [Qv50.out]; exact in_app HPI.out HA.out (by omega), by rw [Qv140.out]; exact in_app HQI.out HB.out (by omega), by rw [Qv50.out, Qv140.out, Qv143.out]; exact app_sum _ _ (HPL.out.trans HSL.out.symm) (HQL.out.trans HSL.out.symm) HSI.out, by go_num, H172.out.pick [3, 4, 5, 6, 7, 8, 9, 10] rfl (by decide)⟩
                case measure => first | (simp [intOf]; omega) | (simp [intOf]; done)
            · obtain ⟨D174, hD174⟩ : ∃ D, k47.heap.size = D := ⟨_, rfl⟩
              have H175 := hid (H46.out.alloc #[.int .i64 x40] 3 hD174)
              go_simp
              refine hK.out _ _ ?_ (fun hHeld2 => ?_)
              focus ((try dsimp only); (exact (Sx.cons (fun _ => H175.out.cell 5 rfl 3 rfl) (Sx.cons (fun _ => H175.out.cell 6 rfl 3 rfl) (Sx.cons (fun _ => H175.out.cell 7 rfl 3 rfl) (Sx.nil _ _))))))
              clear hK K hHeld
              try simp only [Act.put, p1, p2, p3, p4, p5, p6]
              clear hD174
              generalize (k47.alloc (.cells #[.int .i64 x40] 3)) = k176 at *
              have hHeld := hHeld2
              clear hHeld2
              try simp only [Act.put, p1, p2, p3, p4, p5, p6] at hHeld
              refine wpAnyG_ready (rs := [4, 15]) (by kernel_rfl) (by simp) (AllReadyG.cons (o := _) rfl (fun K hK => ?_) (AllReadyG.cons (o := _) rfl (fun K hK => ?_) AllReadyG.nil))
              · rw [if_pos (by rfl)]
                refine oper_append_int _ _ rfl B _ pl x37 D45 1 rfl rfl (H175.out.own 2 rfl) (H175.out.cell 1 rfl 0 rfl) (by omega) H175.out.size ?_
                intro v179 k178 ho hg hv
                have H177 := hid (H175.out.append 2 rfl ho hg hv)
                clear hg hv
                obtain ⟨lv179, qv179⟩ : ∃ l, l = pl ++ [x37] := ⟨_, rfl⟩
                rw [← qv179] at H177 ho
                have Qv179 := hid qv179
                clear qv179
                obtain ⟨v179a, v179c, hva, _⟩ := ho.slc
                subst hva
                clear ho
                refine hK.out _ _ ?_ (fun hHeld2 => ?_)
                focus ((try dsimp only); (exact (Sx.cons (fun _ => H177.out.cell 5 rfl 3 rfl) (Sx.cons (fun _ => H177.out.cell 6 rfl 3 rfl) (Sx.cons (fun _ => H177.out.cell 7 rfl 3 rfl) (Sx.nil _ _))))))
                clear hK K
                try simp only [Act.put, p1, p2, p3, p4, p5, p6]
                clear hHeld
                have hHeld := hHeld2
                clear hHeld2
                try simp only [Act.put, p1, p2, p3, p4, p5, p6] at hHeld
                refine tgP 17 hHeld (fun hHeld => ?_)
                try simp only [Act.put, p1, p2, p3, p4, p5, p6] at hHeld ⊢
                refine wpAnyG_ready (rs := [9, 15]) (by kernel_rfl) (by simp) (AllReadyG.cons (o := _) rfl (fun K hK => ?_) (AllReadyG.cons (o := _) rfl (fun K hK => ?_) AllReadyG.nil))
                · rw [if_pos (by rfl)]
                  refine oper_append_int _ _ rfl B _ ql x40 D174 1 rfl rfl (H177.out.own 3 rfl) (H177.out.cell 0 rfl 0 rfl) (by omega) H177.out.size ?_
                  intro v182 k181 ho hg hv
                  have H180 := hid (H177.out.append 3 rfl ho hg hv)
                  clear hg hv
                  obtain ⟨lv182, qv182⟩ : ∃ l, l = ql ++ [x40] := ⟨_, rfl⟩
                  rw [← qv182] at H180 ho
                  have Qv182 := hid qv182
                  clear qv182
                  obtain ⟨v182a, v182c, hva, _⟩ := ho.slc
                  subst hva
                  clear ho
                  refine hK.out _ _ ?_ (fun hHeld2 => ?_)
                  focus ((try dsimp only); (exact (Sx.cons (fun _ => H180.out.cell 5 rfl 3 rfl) (Sx.cons (fun _ => H180.out.cell 6 rfl 3 rfl) (Sx.cons (fun _ => H180.out.cell 7 rfl 3 rfl) (Sx.nil _ _))))))
                  clear hK K
                  try simp only [Act.put, p1, p2, p3, p4, p5, p6]
                  clear hHeld
                  have hHeld := hHeld2
                  clear hHeld2
                  try simp only [Act.put, p1, p2, p3, p4, p5, p6] at hHeld
                  refine wpAnyG_ready (rs := [15]) (by kernel_rfl) (by simp) (AllReadyG.cons (o := _) rfl (fun K hK => ?_) AllReadyG.nil)
                  obtain ⟨D183, hD183⟩ : ∃ D, k181.heap.size = D := ⟨_, rfl⟩
                  have H184 := hid (H180.out.alloc #[.int .i64 (x37 + x40)] 3 hD183)
                  go_simp
                  refine hK.out _ _ ?_ (fun hHeld2 => ?_)
                  focus ((try dsimp only); (exact (Sx.cons (fun _ => H184.out.cell 6 rfl 3 rfl) (Sx.cons (fun _ => H184.out.cell 7 rfl 3 rfl) (Sx.cons (fun _ => H184.out.cell 8 rfl 3 rfl) (Sx.nil _ _))))))
                  clear hK K hHeld
                  try simp only [Act.put, p1, p2, p3, p4, p5, p6]
                  clear hD183
                  generalize (k181.alloc (.cells #[.int .i64 (x37 + x40)] 3)) = k185 at *
                  have hHeld := hHeld2
                  clear hHeld2
                  try simp only [Act.put, p1, p2, p3, p4, p5, p6] at hHeld
                  refine wpAnyG_ready (rs := [16]) (by kernel_rfl) (by simp) (AllReadyG.cons (o := _) rfl (fun K hK => ?_) AllReadyG.nil)
                  rw [if_pos (by rfl)]
                  refine oper_append_int _ _ rfl B _ sl (x37 + x40) D183 1 rfl rfl (H184.out.own 5 rfl) (H184.out.cell 0 rfl 0 rfl) (by omega) H184.out.size ?_
                  intro v188 k187 ho hg hv
                  have H186 := hid (H184.out.append 5 rfl ho hg hv)
                  clear hg hv
                  obtain ⟨lv188, qv188⟩ : ∃ l, l = sl ++ [x37 + x40] := ⟨_, rfl⟩
                  rw [← qv188] at H186 ho
                  have Qv188 := hid qv188
                  clear qv188
                  obtain ⟨v188a, v188c, hva, _⟩ := ho.slc
                  subst hva
                  clear ho
                  refine hK.out _ _ ?_ (fun hHeld2 => ?_)
                  focus ((try dsimp only); (exact (Sx.cons (fun _ => H186.out.cell 6 rfl 3 rfl) (Sx.cons (fun _ => H186.out.cell 7 rfl 3 rfl) (Sx.cons (fun _ => H186.out.cell 8 rfl 3 rfl) (Sx.nil _ _))))))
                  clear hK K
                  try simp only [Act.put, p1, p2, p3, p4, p5, p6]
                  clear hHeld
                  have hHeld := hHeld2
                  clear hHeld2
                  try simp only [Act.put, p1, p2, p3, p4, p5, p6] at hHeld
                  refine wpAnyG_ready (rs := [18]) (by kernel_rfl) (by simp) (AllReadyG.cons (o := _) rfl (fun K hK => ?_) AllReadyG.nil)
                  have z189 := H186.out.cell 6 rfl 0 rfl
                  have z190 := H186.out.free 6 rfl 0
                  have z191 := H186.out.cell 6 rfl 1 rfl
                  have z192 := H186.out.free 6 rfl 1
                  have z193 := H186.out.cell 6 rfl 2 rfl
                  have z194 := H186.out.free 6 rfl 2
                  have z195 := H186.out.cell 6 rfl 3 rfl
                  have z196 := H186.out.free 6 rfl 3
                  have H197 := hid (show St B W [.cells D183 #[.int .i64 (x37 + x40)] 3, .cells D174 #[.int .i64 x40] 3, .cells D45 #[.int .i64 x37] 3, .own (.slice v179a ((lv179).length) v179c) lv179, .own (.slice v182a ((lv182).length) v182c) lv182, .own (.slice v188a ((lv188).length) v188c) lv188, .cells D22 #[.int .i64 nw, .int .i64 nh, .int .i64 1000, .slice v179a ((lv179).length) v179c] 35, .cells (D22 + 1) #[.int .i64 nw, .int .i64 nh, .int .i64 1000, .slice qa qn qc] 35, .cells D25 #[.int .i64 nw, .int .i64 nh, .int .i64 1000, .slice sa sn sc] 35, .own (.slice la ln lc) ll, .tape K1] [] (k187.setCell ⟨D22, 3, none⟩ (.slice v179a ((lv179).length) v179c)) from (H186.out.set 6 rfl 3 (.slice v179a ((lv179).length) v179c)))
                  go_simp
                  refine hK.out _ _ ?_ (fun hHeld2 => ?_)
                  focus ((try dsimp only); (exact (Sx.cons (fun h => Bool.noConfusion (h.symm.trans (by kernel_rfl) : false = true)) (Sx.cons (fun _ => H197.out.cell 7 rfl 3 rfl) (Sx.cons (fun _ => H197.out.cell 8 rfl 3 rfl) (Sx.nil _ _))))))
                  clear hK K hHeld
                  try simp only [Act.put, p1, p2, p3, p4, p5, p6]
                  clear z189 z190 z191 z192 z193 z194 z195 z196
                  generalize (k187.setCell ⟨D22, 3, none⟩ (.slice v179a ((lv179).length) v179c)) = k198 at *
                  have hHeld := hHeld2
                  clear hHeld2
                  try simp only [Act.put, p1, p2, p3, p4, p5, p6] at hHeld
                  refine tgP 19 hHeld (fun hHeld => ?_)
                  try simp only [Act.put, p1, p2, p3, p4, p5, p6] at hHeld ⊢
                  refine wpAnyG_ready (rs := [20]) (by kernel_rfl) (by simp) (AllReadyG.cons (o := _) rfl (fun K hK => ?_) AllReadyG.nil)
                  have z199 := H197.out.cell 7 rfl 0 rfl
                  have z200 := H197.out.free 7 rfl 0
                  have z201 := H197.out.cell 7 rfl 1 rfl
                  have z202 := H197.out.free 7 rfl 1
                  have z203 := H197.out.cell 7 rfl 2 rfl
                  have z204 := H197.out.free 7 rfl 2
                  have z205 := H197.out.cell 7 rfl 3 rfl
                  have z206 := H197.out.free 7 rfl 3
                  have H207 := hid (show St B W [.cells D183 #[.int .i64 (x37 + x40)] 3, .cells D174 #[.int .i64 x40] 3, .cells D45 #[.int .i64 x37] 3, .own (.slice v179a ((lv179).length) v179c) lv179, .own (.slice v182a ((lv182).length) v182c) lv182, .own (.slice v188a ((lv188).length) v188c) lv188, .cells D22 #[.int .i64 nw, .int .i64 nh, .int .i64 1000, .slice v179a ((lv179).length) v179c] 35, .cells (D22 + 1) #[.int .i64 nw, .int .i64 nh, .int .i64 1000, .slice v182a ((lv182).length) v182c] 35, .cells D25 #[.int .i64 nw, .int .i64 nh, .int .i64 1000, .slice sa sn sc] 35, .own (.slice la ln lc) ll, .tape K1] [] (k198.setCell ⟨D22 + 1, 3, none⟩ (.slice v182a ((lv182).length) v182c)) from (H197.out.set 7 rfl 3 (.slice v182a ((lv182).length) v182c)))
                  go_simp
                  refine hK.out _ _ ?_ (fun hHeld2 => ?_)
                  focus ((try dsimp only); (exact (Sx.cons (fun h => Bool.noConfusion (h.symm.trans (by kernel_rfl) : false = true)) (Sx.cons (fun h => Bool.noConfusion (h.symm.trans (by kernel_rfl) : false = true)) (Sx.cons (fun _ => H207.out.cell 8 rfl 3 rfl) (Sx.nil _ _))))))
                  clear hK K hHeld
                  try simp only [Act.put, p1, p2, p3, p4, p5, p6]
                  clear z199 z200 z201 z202 z203 z204 z205 z206
                  generalize (k198.setCell ⟨D22 + 1, 3, none⟩ (.slice v182a ((lv182).length) v182c)) = k208 at *
                  have hHeld := hHeld2
                  clear hHeld2
                  try simp only [Act.put, p1, p2, p3, p4, p5, p6] at hHeld
                  refine tgP 21 hHeld (fun hHeld => ?_)
                  try simp only [Act.put, p1, p2, p3, p4, p5, p6] at hHeld ⊢
                  refine wpAnyG_ready (rs := [22]) (by kernel_rfl) (by simp) (AllReadyG.cons (o := _) rfl (fun K hK => ?_) AllReadyG.nil)
                  have z209 := H207.out.cell 8 rfl 0 rfl
                  have z210 := H207.out.free 8 rfl 0
                  have z211 := H207.out.cell 8 rfl 1 rfl
                  have z212 := H207.out.free 8 rfl 1
                  have z213 := H207.out.cell 8 rfl 2 rfl
                  have z214 := H207.out.free 8 rfl 2
                  have z215 := H207.out.cell 8 rfl 3 rfl
                  have z216 := H207.out.free 8 rfl 3
                  have H217 := hid (show St B W [.cells D183 #[.int .i64 (x37 + x40)] 3, .cells D174 #[.int .i64 x40] 3, .cells D45 #[.int .i64 x37] 3, .own (.slice v179a ((lv179).length) v179c) lv179, .own (.slice v182a ((lv182).length) v182c) lv182, .own (.slice v188a ((lv188).length) v188c) lv188, .cells D22 #[.int .i64 nw, .int .i64 nh, .int .i64 1000, .slice v179a ((lv179).length) v179c] 35, .cells (D22 + 1) #[.int .i64 nw, .int .i64 nh, .int .i64 1000, .slice v182a ((lv182).length) v182c] 35, .cells D25 #[.int .i64 nw, .int .i64 nh, .int .i64 1000, .slice v188a ((lv188).length) v188c] 35, .own (.slice la ln lc) ll, .tape K1] [] (k208.setCell ⟨D25, 3, none⟩ (.slice v188a ((lv188).length) v188c)) from (H207.out.set 8 rfl 3 (.slice v188a ((lv188).length) v188c)))
                  go_simp
                  refine hK.out _ _ ?_ (fun hHeld2 => ?_)
                  focus ((try dsimp only); (exact (Sx.cons (fun h => Bool.noConfusion (h.symm.trans (by kernel_rfl) : false = true)) (Sx.cons (fun h => Bool.noConfusion (h.symm.trans (by kernel_rfl) : false = true)) (Sx.cons (fun h => Bool.noConfusion (h.symm.trans (by kernel_rfl) : false = true)) (Sx.nil _ _))))))
                  clear hK K hHeld
                  try simp only [Act.put, p1, p2, p3, p4, p5, p6]
                  clear z209 z210 z211 z212 z213 z214 z215 z216
                  generalize (k208.setCell ⟨D25, 3, none⟩ (.slice v188a ((lv188).length) v188c)) = k218 at *
                  have hHeld := hHeld2
                  clear hHeld2
                  try simp only [Act.put, p1, p2, p3, p4, p5, p6] at hHeld
                  refine wpAnyG_done (by kernel_rfl) ?_ _
                  try clear hHeld
                  clear wab hza hzb
                  go_wp2_with fail
                  go_roundw
                  case rel => exact ⟨j + 1, _, _, _, _, _, _, _, _, _, _, _, _, by omega, by have := HPL.out; rw [Qv179.out]; simp; omega, by have := HQL.out; rw [Qv182.out]; simp; omega, by have := HSL.out; rw [Qv188.out]; simp; omega, by rw [Qv179.out]; exact in_app HPI.out HA.out (by omega), by rw [Qv182.out]; exact in_app HQI.out HB.out (by omega), by rw [Qv179.out, Qv182.out, Qv188.out]; exact app_sum _ _ (HPL.out.trans HSL.out.symm) (HQL.out.trans HSL.out.symm) HSI.out, by go_num, H217.out.pick [3, 4, 5, 6, 7, 8, 9, 10] rfl (by decide)⟩
                  case measure => first | (simp [intOf]; omega) | (simp [intOf]; done)
                · obtain ⟨D219, hD219⟩ : ∃ D, k178.heap.size = D := ⟨_, rfl⟩
                  have H220 := hid (H177.out.alloc #[.int .i64 (x37 + x40)] 3 hD219)
                  go_simp
                  refine hK.out _ _ ?_ (fun hHeld2 => ?_)
                  focus ((try dsimp only); (exact (Sx.cons (fun _ => H220.out.cell 6 rfl 3 rfl) (Sx.cons (fun _ => H220.out.cell 7 rfl 3 rfl) (Sx.cons (fun _ => H220.out.cell 8 rfl 3 rfl) (Sx.nil _ _))))))
                  clear hK K hHeld
                  try simp only [Act.put, p1, p2, p3, p4, p5, p6]
                  clear hD219
                  generalize (k178.alloc (.cells #[.int .i64 (x37 + x40)] 3)) = k221 at *
                  have hHeld := hHeld2
                  clear hHeld2
                  try simp only [Act.put, p1, p2, p3, p4, p5, p6] at hHeld
                  refine wpAnyG_ready (rs := [9]) (by kernel_rfl) (by simp) (AllReadyG.cons (o := _) rfl (fun K hK => ?_) AllReadyG.nil)
                  rw [if_pos (by rfl)]
                  refine oper_append_int _ _ rfl B _ ql x40 D174 1 rfl rfl (H220.out.own 4 rfl) (H220.out.cell 1 rfl 0 rfl) (by omega) H220.out.size ?_
                  intro v224 k223 ho hg hv
                  have H222 := hid (H220.out.append 4 rfl ho hg hv)
                  clear hg hv
                  obtain ⟨lv224, qv224⟩ : ∃ l, l = ql ++ [x40] := ⟨_, rfl⟩
                  rw [← qv224] at H222 ho
                  have Qv224 := hid qv224
                  clear qv224
                  obtain ⟨v224a, v224c, hva, _⟩ := ho.slc
                  subst hva
                  clear ho
                  refine hK.out _ _ ?_ (fun hHeld2 => ?_)
                  focus ((try dsimp only); (exact (Sx.cons (fun _ => H222.out.cell 6 rfl 3 rfl) (Sx.cons (fun _ => H222.out.cell 7 rfl 3 rfl) (Sx.cons (fun _ => H222.out.cell 8 rfl 3 rfl) (Sx.nil _ _))))))
                  clear hK K
                  try simp only [Act.put, p1, p2, p3, p4, p5, p6]
                  clear hHeld
                  have hHeld := hHeld2
                  clear hHeld2
                  try simp only [Act.put, p1, p2, p3, p4, p5, p6] at hHeld
                  refine wpAnyG_ready (rs := [16]) (by kernel_rfl) (by simp) (AllReadyG.cons (o := _) rfl (fun K hK => ?_) AllReadyG.nil)
                  rw [if_pos (by rfl)]
                  refine oper_append_int _ _ rfl B _ sl (x37 + x40) D219 1 rfl rfl (H222.out.own 5 rfl) (H222.out.cell 0 rfl 0 rfl) (by omega) H222.out.size ?_
                  intro v227 k226 ho hg hv
                  have H225 := hid (H222.out.append 5 rfl ho hg hv)
                  clear hg hv
                  obtain ⟨lv227, qv227⟩ : ∃ l, l = sl ++ [x37 + x40] := ⟨_, rfl⟩
                  rw [← qv227] at H225 ho
                  have Qv227 := hid qv227
                  clear qv227
                  obtain ⟨v227a, v227c, hva, _⟩ := ho.slc
                  subst hva
                  clear ho
                  refine hK.out _ _ ?_ (fun hHeld2 => ?_)
                  focus ((try dsimp only); (exact (Sx.cons (fun _ => H225.out.cell 6 rfl 3 rfl) (Sx.cons (fun _ => H225.out.cell 7 rfl 3 rfl) (Sx.cons (fun _ => H225.out.cell 8 rfl 3 rfl) (Sx.nil _ _))))))
                  clear hK K
                  try simp only [Act.put, p1, p2, p3, p4, p5, p6]
                  clear hHeld
                  have hHeld := hHeld2
                  clear hHeld2
                  try simp only [Act.put, p1, p2, p3, p4, p5, p6] at hHeld
                  refine wpAnyG_ready (rs := [18]) (by kernel_rfl) (by simp) (AllReadyG.cons (o := _) rfl (fun K hK => ?_) AllReadyG.nil)
                  have z228 := H225.out.cell 6 rfl 0 rfl
                  have z229 := H225.out.free 6 rfl 0
                  have z230 := H225.out.cell 6 rfl 1 rfl
                  have z231 := H225.out.free 6 rfl 1
                  have z232 := H225.out.cell 6 rfl 2 rfl
                  have z233 := H225.out.free 6 rfl 2
                  have z234 := H225.out.cell 6 rfl 3 rfl
                  have z235 := H225.out.free 6 rfl 3
                  have H236 := hid (show St B W [.cells D219 #[.int .i64 (x37 + x40)] 3, .cells D174 #[.int .i64 x40] 3, .cells D45 #[.int .i64 x37] 3, .own (.slice v179a ((lv179).length) v179c) lv179, .own (.slice v224a ((lv224).length) v224c) lv224, .own (.slice v227a ((lv227).length) v227c) lv227, .cells D22 #[.int .i64 nw, .int .i64 nh, .int .i64 1000, .slice v179a ((lv179).length) v179c] 35, .cells (D22 + 1) #[.int .i64 nw, .int .i64 nh, .int .i64 1000, .slice qa qn qc] 35, .cells D25 #[.int .i64 nw, .int .i64 nh, .int .i64 1000, .slice sa sn sc] 35, .own (.slice la ln lc) ll, .tape K1] [] (k226.setCell ⟨D22, 3, none⟩ (.slice v179a ((lv179).length) v179c)) from (H225.out.set 6 rfl 3 (.slice v179a ((lv179).length) v179c)))
                  go_simp
                  refine hK.out _ _ ?_ (fun hHeld2 => ?_)
                  focus ((try dsimp only); (exact (Sx.cons (fun h => Bool.noConfusion (h.symm.trans (by kernel_rfl) : false = true)) (Sx.cons (fun _ => H236.out.cell 7 rfl 3 rfl) (Sx.cons (fun _ => H236.out.cell 8 rfl 3 rfl) (Sx.nil _ _))))))
                  clear hK K hHeld
                  try simp only [Act.put, p1, p2, p3, p4, p5, p6]
                  clear z228 z229 z230 z231 z232 z233 z234 z235
                  generalize (k226.setCell ⟨D22, 3, none⟩ (.slice v179a ((lv179).length) v179c)) = k237 at *
                  have hHeld := hHeld2
                  clear hHeld2
                  try simp only [Act.put, p1, p2, p3, p4, p5, p6] at hHeld
                  refine tgP 19 hHeld (fun hHeld => ?_)
                  try simp only [Act.put, p1, p2, p3, p4, p5, p6] at hHeld ⊢
                  refine wpAnyG_ready (rs := [20]) (by kernel_rfl) (by simp) (AllReadyG.cons (o := _) rfl (fun K hK => ?_) AllReadyG.nil)
                  have z238 := H236.out.cell 7 rfl 0 rfl
                  have z239 := H236.out.free 7 rfl 0
                  have z240 := H236.out.cell 7 rfl 1 rfl
                  have z241 := H236.out.free 7 rfl 1
                  have z242 := H236.out.cell 7 rfl 2 rfl
                  have z243 := H236.out.free 7 rfl 2
                  have z244 := H236.out.cell 7 rfl 3 rfl
                  have z245 := H236.out.free 7 rfl 3
                  have H246 := hid (show St B W [.cells D219 #[.int .i64 (x37 + x40)] 3, .cells D174 #[.int .i64 x40] 3, .cells D45 #[.int .i64 x37] 3, .own (.slice v179a ((lv179).length) v179c) lv179, .own (.slice v224a ((lv224).length) v224c) lv224, .own (.slice v227a ((lv227).length) v227c) lv227, .cells D22 #[.int .i64 nw, .int .i64 nh, .int .i64 1000, .slice v179a ((lv179).length) v179c] 35, .cells (D22 + 1) #[.int .i64 nw, .int .i64 nh, .int .i64 1000, .slice v224a ((lv224).length) v224c] 35, .cells D25 #[.int .i64 nw, .int .i64 nh, .int .i64 1000, .slice sa sn sc] 35, .own (.slice la ln lc) ll, .tape K1] [] (k237.setCell ⟨D22 + 1, 3, none⟩ (.slice v224a ((lv224).length) v224c)) from (H236.out.set 7 rfl 3 (.slice v224a ((lv224).length) v224c)))
                  go_simp
                  refine hK.out _ _ ?_ (fun hHeld2 => ?_)
                  focus ((try dsimp only); (exact (Sx.cons (fun h => Bool.noConfusion (h.symm.trans (by kernel_rfl) : false = true)) (Sx.cons (fun h => Bool.noConfusion (h.symm.trans (by kernel_rfl) : false = true)) (Sx.cons (fun _ => H246.out.cell 8 rfl 3 rfl) (Sx.nil _ _))))))
                  clear hK K hHeld
                  try simp only [Act.put, p1, p2, p3, p4, p5, p6]
                  clear z238 z239 z240 z241 z242 z243 z244 z245
                  generalize (k237.setCell ⟨D22 + 1, 3, none⟩ (.slice v224a ((lv224).length) v224c)) = k247 at *
                  have hHeld := hHeld2
                  clear hHeld2
                  try simp only [Act.put, p1, p2, p3, p4, p5, p6] at hHeld
                  refine tgP 21 hHeld (fun hHeld => ?_)
                  try simp only [Act.put, p1, p2, p3, p4, p5, p6] at hHeld ⊢
                  refine wpAnyG_ready (rs := [22]) (by kernel_rfl) (by simp) (AllReadyG.cons (o := _) rfl (fun K hK => ?_) AllReadyG.nil)
                  have z248 := H246.out.cell 8 rfl 0 rfl
                  have z249 := H246.out.free 8 rfl 0
                  have z250 := H246.out.cell 8 rfl 1 rfl
                  have z251 := H246.out.free 8 rfl 1
                  have z252 := H246.out.cell 8 rfl 2 rfl
                  have z253 := H246.out.free 8 rfl 2
                  have z254 := H246.out.cell 8 rfl 3 rfl
                  have z255 := H246.out.free 8 rfl 3
                  have H256 := hid (show St B W [.cells D219 #[.int .i64 (x37 + x40)] 3, .cells D174 #[.int .i64 x40] 3, .cells D45 #[.int .i64 x37] 3, .own (.slice v179a ((lv179).length) v179c) lv179, .own (.slice v224a ((lv224).length) v224c) lv224, .own (.slice v227a ((lv227).length) v227c) lv227, .cells D22 #[.int .i64 nw, .int .i64 nh, .int .i64 1000, .slice v179a ((lv179).length) v179c] 35, .cells (D22 + 1) #[.int .i64 nw, .int .i64 nh, .int .i64 1000, .slice v224a ((lv224).length) v224c] 35, .cells D25 #[.int .i64 nw, .int .i64 nh, .int .i64 1000, .slice v227a ((lv227).length) v227c] 35, .own (.slice la ln lc) ll, .tape K1] [] (k247.setCell ⟨D25, 3, none⟩ (.slice v227a ((lv227).length) v227c)) from (H246.out.set 8 rfl 3 (.slice v227a ((lv227).length) v227c)))
                  go_simp
                  refine hK.out _ _ ?_ (fun hHeld2 => ?_)
                  focus ((try dsimp only); (exact (Sx.cons (fun h => Bool.noConfusion (h.symm.trans (by kernel_rfl) : false = true)) (Sx.cons (fun h => Bool.noConfusion (h.symm.trans (by kernel_rfl) : false = true)) (Sx.cons (fun h => Bool.noConfusion (h.symm.trans (by kernel_rfl) : false = true)) (Sx.nil _ _))))))
                  clear hK K hHeld
                  try simp only [Act.put, p1, p2, p3, p4, p5, p6]
                  clear z248 z249 z250 z251 z252 z253 z254 z255
                  generalize (k247.setCell ⟨D25, 3, none⟩ (.slice v227a ((lv227).length) v227c)) = k257 at *
                  have hHeld := hHeld2
                  clear hHeld2
                  try simp only [Act.put, p1, p2, p3, p4, p5, p6] at hHeld
                  refine wpAnyG_done (by kernel_rfl) ?_ _
                  try clear hHeld
                  clear wab hza hzb
                  go_wp2_with fail
                  go_roundw
                  case rel => exact ⟨j + 1, _, _, _, _, _, _, _, _, _, _, _, _, by omega, by have := HPL.out; rw [Qv179.out]; simp; omega, by have := HQL.out; rw [Qv224.out]; simp; omega, by have := HSL.out; rw [Qv227.out]; simp; omega, by rw [Qv179.out]; exact in_app HPI.out HA.out (by omega), by rw [Qv224.out]; exact in_app HQI.out HB.out (by omega), by rw [Qv179.out, Qv224.out, Qv227.out]; exact app_sum _ _ (HPL.out.trans HSL.out.symm) (HQL.out.trans HSL.out.symm) HSI.out, by go_num, H256.out.pick [3, 4, 5, 6, 7, 8, 9, 10] rfl (by decide)⟩
                  case measure => first | (simp [intOf]; omega) | (simp [intOf]; done)
              · obtain ⟨D258, hD258⟩ : ∃ D, k176.heap.size = D := ⟨_, rfl⟩
                have H259 := hid (H175.out.alloc #[.int .i64 (x37 + x40)] 3 hD258)
                go_simp
                refine hK.out _ _ ?_ (fun hHeld2 => ?_)
                focus ((try dsimp only); (exact (Sx.cons (fun _ => H259.out.cell 6 rfl 3 rfl) (Sx.cons (fun _ => H259.out.cell 7 rfl 3 rfl) (Sx.cons (fun _ => H259.out.cell 8 rfl 3 rfl) (Sx.nil _ _))))))
                clear hK K hHeld
                try simp only [Act.put, p1, p2, p3, p4, p5, p6]
                clear hD258
                generalize (k176.alloc (.cells #[.int .i64 (x37 + x40)] 3)) = k260 at *
                have hHeld := hHeld2
                clear hHeld2
                try simp only [Act.put, p1, p2, p3, p4, p5, p6] at hHeld
                refine wpAnyG_ready (rs := [4]) (by kernel_rfl) (by simp) (AllReadyG.cons (o := _) rfl (fun K hK => ?_) AllReadyG.nil)
                rw [if_pos (by rfl)]
                refine oper_append_int _ _ rfl B _ pl x37 D45 1 rfl rfl (H259.out.own 3 rfl) (H259.out.cell 2 rfl 0 rfl) (by omega) H259.out.size ?_
                intro v263 k262 ho hg hv
                have H261 := hid (H259.out.append 3 rfl ho hg hv)
                clear hg hv
                obtain ⟨lv263, qv263⟩ : ∃ l, l = pl ++ [x37] := ⟨_, rfl⟩
                rw [← qv263] at H261 ho
                have Qv263 := hid qv263
                clear qv263
                obtain ⟨v263a, v263c, hva, _⟩ := ho.slc
                subst hva
                clear ho
                refine hK.out _ _ ?_ (fun hHeld2 => ?_)
                focus ((try dsimp only); (exact (Sx.cons (fun _ => H261.out.cell 6 rfl 3 rfl) (Sx.cons (fun _ => H261.out.cell 7 rfl 3 rfl) (Sx.cons (fun _ => H261.out.cell 8 rfl 3 rfl) (Sx.nil _ _))))))
                clear hK K
                try simp only [Act.put, p1, p2, p3, p4, p5, p6]
                clear hHeld
                have hHeld := hHeld2
                clear hHeld2
                try simp only [Act.put, p1, p2, p3, p4, p5, p6] at hHeld
                refine tgP 17 hHeld (fun hHeld => ?_)
                try simp only [Act.put, p1, p2, p3, p4, p5, p6] at hHeld ⊢
                refine wpAnyG_ready (rs := [9]) (by kernel_rfl) (by simp) (AllReadyG.cons (o := _) rfl (fun K hK => ?_) AllReadyG.nil)
                rw [if_pos (by rfl)]
                refine oper_append_int _ _ rfl B _ ql x40 D174 1 rfl rfl (H261.out.own 4 rfl) (H261.out.cell 1 rfl 0 rfl) (by omega) H261.out.size ?_
                intro v266 k265 ho hg hv
                have H264 := hid (H261.out.append 4 rfl ho hg hv)
                clear hg hv
                obtain ⟨lv266, qv266⟩ : ∃ l, l = ql ++ [x40] := ⟨_, rfl⟩
                rw [← qv266] at H264 ho
                have Qv266 := hid qv266
                clear qv266
                obtain ⟨v266a, v266c, hva, _⟩ := ho.slc
                subst hva
                clear ho
                refine hK.out _ _ ?_ (fun hHeld2 => ?_)
                focus ((try dsimp only); (exact (Sx.cons (fun _ => H264.out.cell 6 rfl 3 rfl) (Sx.cons (fun _ => H264.out.cell 7 rfl 3 rfl) (Sx.cons (fun _ => H264.out.cell 8 rfl 3 rfl) (Sx.nil _ _))))))
                clear hK K
                try simp only [Act.put, p1, p2, p3, p4, p5, p6]
                clear hHeld
                have hHeld := hHeld2
                clear hHeld2
                try simp only [Act.put, p1, p2, p3, p4, p5, p6] at hHeld
                refine wpAnyG_ready (rs := [16]) (by kernel_rfl) (by simp) (AllReadyG.cons (o := _) rfl (fun K hK => ?_) AllReadyG.nil)
                rw [if_pos (by rfl)]
                refine oper_append_int _ _ rfl B _ sl (x37 + x40) D258 1 rfl rfl (H264.out.own 5 rfl) (H264.out.cell 0 rfl 0 rfl) (by omega) H264.out.size ?_
                intro v269 k268 ho hg hv
                have H267 := hid (H264.out.append 5 rfl ho hg hv)
                clear hg hv
                obtain ⟨lv269, qv269⟩ : ∃ l, l = sl ++ [x37 + x40] := ⟨_, rfl⟩
                rw [← qv269] at H267 ho
                have Qv269 := hid qv269
                clear qv269
                obtain ⟨v269a, v269c, hva, _⟩ := ho.slc
                subst hva
                clear ho
                refine hK.out _ _ ?_ (fun hHeld2 => ?_)
                focus ((try dsimp only); (exact (Sx.cons (fun _ => H267.out.cell 6 rfl 3 rfl) (Sx.cons (fun _ => H267.out.cell 7 rfl 3 rfl) (Sx.cons (fun _ => H267.out.cell 8 rfl 3 rfl) (Sx.nil _ _))))))
                clear hK K
                try simp only [Act.put, p1, p2, p3, p4, p5, p6]
                clear hHeld
                have hHeld := hHeld2
                clear hHeld2
                try simp only [Act.put, p1, p2, p3, p4, p5, p6] at hHeld
                refine wpAnyG_ready (rs := [18]) (by kernel_rfl) (by simp) (AllReadyG.cons (o := _) rfl (fun K hK => ?_) AllReadyG.nil)
                have z270 := H267.out.cell 6 rfl 0 rfl
                have z271 := H267.out.free 6 rfl 0
                have z272 := H267.out.cell 6 rfl 1 rfl
                have z273 := H267.out.free 6 rfl 1
                have z274 := H267.out.cell 6 rfl 2 rfl
                have z275 := H267.out.free 6 rfl 2
                have z276 := H267.out.cell 6 rfl 3 rfl
                have z277 := H267.out.free 6 rfl 3
                have H278 := hid (show St B W [.cells D258 #[.int .i64 (x37 + x40)] 3, .cells D174 #[.int .i64 x40] 3, .cells D45 #[.int .i64 x37] 3, .own (.slice v263a ((lv263).length) v263c) lv263, .own (.slice v266a ((lv266).length) v266c) lv266, .own (.slice v269a ((lv269).length) v269c) lv269, .cells D22 #[.int .i64 nw, .int .i64 nh, .int .i64 1000, .slice v263a ((lv263).length) v263c] 35, .cells (D22 + 1) #[.int .i64 nw, .int .i64 nh, .int .i64 1000, .slice qa qn qc] 35, .cells D25 #[.int .i64 nw, .int .i64 nh, .int .i64 1000, .slice sa sn sc] 35, .own (.slice la ln lc) ll, .tape K1] [] (k268.setCell ⟨D22, 3, none⟩ (.slice v263a ((lv263).length) v263c)) from (H267.out.set 6 rfl 3 (.slice v263a ((lv263).length) v263c)))
                go_simp
                refine hK.out _ _ ?_ (fun hHeld2 => ?_)
                focus ((try dsimp only); (exact (Sx.cons (fun h => Bool.noConfusion (h.symm.trans (by kernel_rfl) : false = true)) (Sx.cons (fun _ => H278.out.cell 7 rfl 3 rfl) (Sx.cons (fun _ => H278.out.cell 8 rfl 3 rfl) (Sx.nil _ _))))))
                clear hK K hHeld
                try simp only [Act.put, p1, p2, p3, p4, p5, p6]
                clear z270 z271 z272 z273 z274 z275 z276 z277
                generalize (k268.setCell ⟨D22, 3, none⟩ (.slice v263a ((lv263).length) v263c)) = k279 at *
                have hHeld := hHeld2
                clear hHeld2
                try simp only [Act.put, p1, p2, p3, p4, p5, p6] at hHeld
                refine tgP 19 hHeld (fun hHeld => ?_)
                try simp only [Act.put, p1, p2, p3, p4, p5, p6] at hHeld ⊢
                refine wpAnyG_ready (rs := [20]) (by kernel_rfl) (by simp) (AllReadyG.cons (o := _) rfl (fun K hK => ?_) AllReadyG.nil)
                have z280 := H278.out.cell 7 rfl 0 rfl
                have z281 := H278.out.free 7 rfl 0
                have z282 := H278.out.cell 7 rfl 1 rfl
                have z283 := H278.out.free 7 rfl 1
                have z284 := H278.out.cell 7 rfl 2 rfl
                have z285 := H278.out.free 7 rfl 2
                have z286 := H278.out.cell 7 rfl 3 rfl
                have z287 := H278.out.free 7 rfl 3
                have H288 := hid (show St B W [.cells D258 #[.int .i64 (x37 + x40)] 3, .cells D174 #[.int .i64 x40] 3, .cells D45 #[.int .i64 x37] 3, .own (.slice v263a ((lv263).length) v263c) lv263, .own (.slice v266a ((lv266).length) v266c) lv266, .own (.slice v269a ((lv269).length) v269c) lv269, .cells D22 #[.int .i64 nw, .int .i64 nh, .int .i64 1000, .slice v263a ((lv263).length) v263c] 35, .cells (D22 + 1) #[.int .i64 nw, .int .i64 nh, .int .i64 1000, .slice v266a ((lv266).length) v266c] 35, .cells D25 #[.int .i64 nw, .int .i64 nh, .int .i64 1000, .slice sa sn sc] 35, .own (.slice la ln lc) ll, .tape K1] [] (k279.setCell ⟨D22 + 1, 3, none⟩ (.slice v266a ((lv266).length) v266c)) from (H278.out.set 7 rfl 3 (.slice v266a ((lv266).length) v266c)))
                go_simp
                refine hK.out _ _ ?_ (fun hHeld2 => ?_)
                focus ((try dsimp only); (exact (Sx.cons (fun h => Bool.noConfusion (h.symm.trans (by kernel_rfl) : false = true)) (Sx.cons (fun h => Bool.noConfusion (h.symm.trans (by kernel_rfl) : false = true)) (Sx.cons (fun _ => H288.out.cell 8 rfl 3 rfl) (Sx.nil _ _))))))
                clear hK K hHeld
                try simp only [Act.put, p1, p2, p3, p4, p5, p6]
                clear z280 z281 z282 z283 z284 z285 z286 z287
                generalize (k279.setCell ⟨D22 + 1, 3, none⟩ (.slice v266a ((lv266).length) v266c)) = k289 at *
                have hHeld := hHeld2
                clear hHeld2
                try simp only [Act.put, p1, p2, p3, p4, p5, p6] at hHeld
                refine tgP 21 hHeld (fun hHeld => ?_)
                try simp only [Act.put, p1, p2, p3, p4, p5, p6] at hHeld ⊢
                refine wpAnyG_ready (rs := [22]) (by kernel_rfl) (by simp) (AllReadyG.cons (o := _) rfl (fun K hK => ?_) AllReadyG.nil)
                have z290 := H288.out.cell 8 rfl 0 rfl
                have z291 := H288.out.free 8 rfl 0
                have z292 := H288.out.cell 8 rfl 1 rfl
                have z293 := H288.out.free 8 rfl 1
                have z294 := H288.out.cell 8 rfl 2 rfl
                have z295 := H288.out.free 8 rfl 2
                have z296 := H288.out.cell 8 rfl 3 rfl
                have z297 := H288.out.free 8 rfl 3
                have H298 := hid (show St B W [.cells D258 #[.int .i64 (x37 + x40)] 3, .cells D174 #[.int .i64 x40] 3, .cells D45 #[.int .i64 x37] 3, .own (.slice v263a ((lv263).length) v263c) lv263, .own (.slice v266a ((lv266).length) v266c) lv266, .own (.slice v269a ((lv269).length) v269c) lv269, .cells D22 #[.int .i64 nw, .int .i64 nh, .int .i64 1000, .slice v263a ((lv263).length) v263c] 35, .cells (D22 + 1) #[.int .i64 nw, .int .i64 nh, .int .i64 1000, .slice v266a ((lv266).length) v266c] 35, .cells D25 #[.int .i64 nw, .int .i64 nh, .int .i64 1000, .slice v269a ((lv269).length) v269c] 35, .own (.slice la ln lc) ll, .tape K1] [] (k289.setCell ⟨D25, 3, none⟩ (.slice v269a ((lv269).length) v269c)) from (H288.out.set 8 rfl 3 (.slice v269a ((lv269).length) v269c)))
                go_simp
                refine hK.out _ _ ?_ (fun hHeld2 => ?_)
                focus ((try dsimp only); (exact (Sx.cons (fun h => Bool.noConfusion (h.symm.trans (by kernel_rfl) : false = true)) (Sx.cons (fun h => Bool.noConfusion (h.symm.trans (by kernel_rfl) : false = true)) (Sx.cons (fun h => Bool.noConfusion (h.symm.trans (by kernel_rfl) : false = true)) (Sx.nil _ _))))))
                clear hK K hHeld
                try simp only [Act.put, p1, p2, p3, p4, p5, p6]
                clear z290 z291 z292 z293 z294 z295 z296 z297
                generalize (k289.setCell ⟨D25, 3, none⟩ (.slice v269a ((lv269).length) v269c)) = k299 at *
                have hHeld := hHeld2
                clear hHeld2
                try simp only [Act.put, p1, p2, p3, p4, p5, p6] at hHeld
                refine wpAnyG_done (by kernel_rfl) ?_ _
                try clear hHeld
                clear wab hza hzb
                go_wp2_with fail
                go_roundw
                case rel => exact ⟨j + 1, _, _, _, _, _, _, _, _, _, _, _, _, by omega, by have := HPL.out; rw [Qv263.out]; simp; omega, by have := HQL.out; rw [Qv266.out]; simp; omega, by have := HSL.out; rw [Qv269.out]; simp; omega, by rw [Qv263.out]; exact in_app HPI.out HA.out (by omega), by rw [Qv266.out]; exact in_app HQI.out HB.out (by omega), by rw [Qv263.out, Qv266.out, Qv269.out]; exact app_sum _ _ (HPL.out.trans HSL.out.symm) (HQL.out.trans HSL.out.symm) HSI.out, by go_num, H298.out.pick [3, 4, 5, 6, 7, 8, 9, 10] rfl (by decide)⟩
                case measure => first | (simp [intOf]; omega) | (simp [intOf]; done)
            · obtain ⟨D300, hD300⟩ : ∃ D, k47.heap.size = D := ⟨_, rfl⟩
              have H301 := hid (H46.out.alloc #[.int .i64 (x37 + x40)] 3 hD300)
              go_simp
              refine hK.out _ _ ?_ (fun hHeld2 => ?_)
              focus ((try dsimp only); (exact (Sx.cons (fun _ => H301.out.cell 5 rfl 3 rfl) (Sx.cons (fun _ => H301.out.cell 6 rfl 3 rfl) (Sx.cons (fun _ => H301.out.cell 7 rfl 3 rfl) (Sx.nil _ _))))))
              clear hK K hHeld
              try simp only [Act.put, p1, p2, p3, p4, p5, p6]
              clear hD300
              generalize (k47.alloc (.cells #[.int .i64 (x37 + x40)] 3)) = k302 at *
              have hHeld := hHeld2
              clear hHeld2
              try simp only [Act.put, p1, p2, p3, p4, p5, p6] at hHeld
              refine wpAnyG_ready (rs := [4, 8]) (by kernel_rfl) (by simp) (AllReadyG.cons (o := _) rfl (fun K hK => ?_) (AllReadyG.cons (o := _) rfl (fun K hK => ?_) AllReadyG.nil))
              · rw [if_pos (by rfl)]
                refine oper_append_int _ _ rfl B _ pl x37 D45 1 rfl rfl (H301.out.own 2 rfl) (H301.out.cell 1 rfl 0 rfl) (by omega) H301.out.size ?_
                intro v305 k304 ho hg hv
                have H303 := hid (H301.out.append 2 rfl ho hg hv)
                clear hg hv
                obtain ⟨lv305, qv305⟩ : ∃ l, l = pl ++ [x37] := ⟨_, rfl⟩
                rw [← qv305] at H303 ho
                have Qv305 := hid qv305
                clear qv305
                obtain ⟨v305a, v305c, hva, _⟩ := ho.slc
                subst hva
                clear ho
                refine hK.out _ _ ?_ (fun hHeld2 => ?_)
                focus ((try dsimp only); (exact (Sx.cons (fun _ => H303.out.cell 5 rfl 3 rfl) (Sx.cons (fun _ => H303.out.cell 6 rfl 3 rfl) (Sx.cons (fun _ => H303.out.cell 7 rfl 3 rfl) (Sx.nil _ _))))))
                clear hK K
                try simp only [Act.put, p1, p2, p3, p4, p5, p6]
                clear hHeld
                have hHeld := hHeld2
                clear hHeld2
                try simp only [Act.put, p1, p2, p3, p4, p5, p6] at hHeld
                refine tgP 17 hHeld (fun hHeld => ?_)
                try simp only [Act.put, p1, p2, p3, p4, p5, p6] at hHeld ⊢
                refine wpAnyG_ready (rs := [8]) (by kernel_rfl) (by simp) (AllReadyG.cons (o := _) rfl (fun K hK => ?_) AllReadyG.nil)
                obtain ⟨D306, hD306⟩ : ∃ D, k304.heap.size = D := ⟨_, rfl⟩
                have H307 := hid (H303.out.alloc #[.int .i64 x40] 3 hD306)
                go_simp
                refine hK.out _ _ ?_ (fun hHeld2 => ?_)
                focus ((try dsimp only); (exact (Sx.cons (fun _ => H307.out.cell 6 rfl 3 rfl) (Sx.cons (fun _ => H307.out.cell 7 rfl 3 rfl) (Sx.cons (fun _ => H307.out.cell 8 rfl 3 rfl) (Sx.nil _ _))))))
                clear hK K hHeld
                try simp only [Act.put, p1, p2, p3, p4, p5, p6]
                clear hD306
                generalize (k304.alloc (.cells #[.int .i64 x40] 3)) = k308 at *
                have hHeld := hHeld2
                clear hHeld2
                try simp only [Act.put, p1, p2, p3, p4, p5, p6] at hHeld
                refine wpAnyG_ready (rs := [9]) (by kernel_rfl) (by simp) (AllReadyG.cons (o := _) rfl (fun K hK => ?_) AllReadyG.nil)
                rw [if_pos (by rfl)]
                refine oper_append_int _ _ rfl B _ ql x40 D306 1 rfl rfl (H307.out.own 4 rfl) (H307.out.cell 0 rfl 0 rfl) (by omega) H307.out.size ?_
                intro v311 k310 ho hg hv
                have H309 := hid (H307.out.append 4 rfl ho hg hv)
                clear hg hv
                obtain ⟨lv311, qv311⟩ : ∃ l, l = ql ++ [x40] := ⟨_, rfl⟩
                rw [← qv311] at H309 ho
                have Qv311 := hid qv311
                clear qv311
                obtain ⟨v311a, v311c, hva, _⟩ := ho.slc
                subst hva
                clear ho
                refine hK.out _ _ ?_ (fun hHeld2 => ?_)
                focus ((try dsimp only); (exact (Sx.cons (fun _ => H309.out.cell 6 rfl 3 rfl) (Sx.cons (fun _ => H309.out.cell 7 rfl 3 rfl) (Sx.cons (fun _ => H309.out.cell 8 rfl 3 rfl) (Sx.nil _ _))))))
                clear hK K
                try simp only [Act.put, p1, p2, p3, p4, p5, p6]
                clear hHeld
                have hHeld := hHeld2
                clear hHeld2
                try simp only [Act.put, p1, p2, p3, p4, p5, p6] at hHeld
                refine wpAnyG_ready (rs := [16]) (by kernel_rfl) (by simp) (AllReadyG.cons (o := _) rfl (fun K hK => ?_) AllReadyG.nil)
                rw [if_pos (by rfl)]
                refine oper_append_int _ _ rfl B _ sl (x37 + x40) D300 1 rfl rfl (H309.out.own 5 rfl) (H309.out.cell 1 rfl 0 rfl) (by omega) H309.out.size ?_
                intro v314 k313 ho hg hv
                have H312 := hid (H309.out.append 5 rfl ho hg hv)
                clear hg hv
                obtain ⟨lv314, qv314⟩ : ∃ l, l = sl ++ [x37 + x40] := ⟨_, rfl⟩
                rw [← qv314] at H312 ho
                have Qv314 := hid qv314
                clear qv314
                obtain ⟨v314a, v314c, hva, _⟩ := ho.slc
                subst hva
                clear ho
                refine hK.out _ _ ?_ (fun hHeld2 => ?_)
                focus ((try dsimp only); (exact (Sx.cons (fun _ => H312.out.cell 6 rfl 3 rfl) (Sx.cons (fun _ => H312.out.cell 7 rfl 3 rfl) (Sx.cons (fun _ => H312.out.cell 8 rfl 3 rfl) (Sx.nil _ _))))))
                clear hK K
                try simp only [Act.put, p1, p2, p3, p4, p5, p6]
                clear hHeld
                have hHeld := hHeld2
                clear hHeld2
                try simp only [Act.put, p1, p2, p3, p4, p5, p6] at hHeld
                refine wpAnyG_ready (rs := [18]) (by kernel_rfl) (by simp) (AllReadyG.cons (o := _) rfl (fun K hK => ?_) AllReadyG.nil)
                have z315 := H312.out.cell 6 rfl 0 rfl
                have z316 := H312.out.free 6 rfl 0
                have z317 := H312.out.cell 6 rfl 1 rfl
                have z318 := H312.out.free 6 rfl 1
                have z319 := H312.out.cell 6 rfl 2 rfl
                have z320 := H312.out.free 6 rfl 2
                have z321 := H312.out.cell 6 rfl 3 rfl
                have z322 := H312.out.free 6 rfl 3
                have H323 := hid (show St B W [.cells D306 #[.int .i64 x40] 3, .cells D300 #[.int .i64 (x37 + x40)] 3, .cells D45 #[.int .i64 x37] 3, .own (.slice v305a ((lv305).length) v305c) lv305, .own (.slice v311a ((lv311).length) v311c) lv311, .own (.slice v314a ((lv314).length) v314c) lv314, .cells D22 #[.int .i64 nw, .int .i64 nh, .int .i64 1000, .slice v305a ((lv305).length) v305c] 35, .cells (D22 + 1) #[.int .i64 nw, .int .i64 nh, .int .i64 1000, .slice qa qn qc] 35, .cells D25 #[.int .i64 nw, .int .i64 nh, .int .i64 1000, .slice sa sn sc] 35, .own (.slice la ln lc) ll, .tape K1] [] (k313.setCell ⟨D22, 3, none⟩ (.slice v305a ((lv305).length) v305c)) from (H312.out.set 6 rfl 3 (.slice v305a ((lv305).length) v305c)))
                go_simp
                refine hK.out _ _ ?_ (fun hHeld2 => ?_)
                focus ((try dsimp only); (exact (Sx.cons (fun h => Bool.noConfusion (h.symm.trans (by kernel_rfl) : false = true)) (Sx.cons (fun _ => H323.out.cell 7 rfl 3 rfl) (Sx.cons (fun _ => H323.out.cell 8 rfl 3 rfl) (Sx.nil _ _))))))
                clear hK K hHeld
                try simp only [Act.put, p1, p2, p3, p4, p5, p6]
                clear z315 z316 z317 z318 z319 z320 z321 z322
                generalize (k313.setCell ⟨D22, 3, none⟩ (.slice v305a ((lv305).length) v305c)) = k324 at *
                have hHeld := hHeld2
                clear hHeld2
                try simp only [Act.put, p1, p2, p3, p4, p5, p6] at hHeld
                refine tgP 19 hHeld (fun hHeld => ?_)
                try simp only [Act.put, p1, p2, p3, p4, p5, p6] at hHeld ⊢
                refine wpAnyG_ready (rs := [20]) (by kernel_rfl) (by simp) (AllReadyG.cons (o := _) rfl (fun K hK => ?_) AllReadyG.nil)
                have z325 := H323.out.cell 7 rfl 0 rfl
                have z326 := H323.out.free 7 rfl 0
                have z327 := H323.out.cell 7 rfl 1 rfl
                have z328 := H323.out.free 7 rfl 1
                have z329 := H323.out.cell 7 rfl 2 rfl
                have z330 := H323.out.free 7 rfl 2
                have z331 := H323.out.cell 7 rfl 3 rfl
                have z332 := H323.out.free 7 rfl 3
                have H333 := hid (show St B W [.cells D306 #[.int .i64 x40] 3, .cells D300 #[.int .i64 (x37 + x40)] 3, .cells D45 #[.int .i64 x37] 3, .own (.slice v305a ((lv305).length) v305c) lv305, .own (.slice v311a ((lv311).length) v311c) lv311, .own (.slice v314a ((lv314).length) v314c) lv314, .cells D22 #[.int .i64 nw, .int .i64 nh, .int .i64 1000, .slice v305a ((lv305).length) v305c] 35, .cells (D22 + 1) #[.int .i64 nw, .int .i64 nh, .int .i64 1000, .slice v311a ((lv311).length) v311c] 35, .cells D25 #[.int .i64 nw, .int .i64 nh, .int .i64 1000, .slice sa sn sc] 35, .own (.slice la ln lc) ll, .tape K1] [] (k324.setCell ⟨D22 + 1, 3, none⟩ (.slice v311a ((lv311).length) v311c)) from (H323.out.set 7 rfl 3 (.slice v311a ((lv311).length) v311c)))
                go_simp
                refine hK.out _ _ ?_ (fun hHeld2 => ?_)
                focus ((try dsimp only); (exact (Sx.cons (fun h => Bool.noConfusion (h.symm.trans (by kernel_rfl) : false = true)) (Sx.cons (fun h => Bool.noConfusion (h.symm.trans (by kernel_rfl) : false = true)) (Sx.cons (fun _ => H333.out.cell 8 rfl 3 rfl) (Sx.nil _ _))))))
                clear hK K hHeld
                try simp only [Act.put, p1, p2, p3, p4, p5, p6]
                clear z325 z326 z327 z328 z329 z330 z331 z332
                generalize (k324.setCell ⟨D22 + 1, 3, none⟩ (.slice v311a ((lv311).length) v311c)) = k334 at *
                have hHeld := hHeld2
                clear hHeld2
                try simp only [Act.put, p1, p2, p3, p4, p5, p6] at hHeld
                refine tgP 21 hHeld (fun hHeld => ?_)
                try simp only [Act.put, p1, p2, p3, p4, p5, p6] at hHeld ⊢
                refine wpAnyG_ready (rs := [22]) (by kernel_rfl) (by simp) (AllReadyG.cons (o := _) rfl (fun K hK => ?_) AllReadyG.nil)
                have z335 := H333.out.cell 8 rfl 0 rfl
                have z336 := H333.out.free 8 rfl 0
                have z337 := H333.out.cell 8 rfl 1 rfl
                have z338 := H333.out.free 8 rfl 1
                have z339 := H333.out.cell 8 rfl 2 rfl
                have z340 := H333.out.free 8 rfl 2
                have z341 := H333.out.cell 8 rfl 3 rfl
                have z342 := H333.out.free 8 rfl 3
                have H343 := hid (show St B W [.cells D306 #[.int .i64 x40] 3, .cells D300 #[.int .i64 (x37 + x40)] 3, .cells D45 #[.int .i64 x37] 3, .own (.slice v305a ((lv305).length) v305c) lv305, .own (.slice v311a ((lv311).length) v311c) lv311, .own (.slice v314a ((lv314).length) v314c) lv314, .cells D22 #[.int .i64 nw, .int .i64 nh, .int .i64 1000, .slice v305a ((lv305).length) v305c] 35, .cells (D22 + 1) #[.int .i64 nw, .int .i64 nh, .int .i64 1000, .slice v311a ((lv311).length) v311c] 35, .cells D25 #[.int .i64 nw, .int .i64 nh, .int .i64 1000, .slice v314a ((lv314).length) v314c] 35, .own (.slice la ln lc) ll, .tape K1] [] (k334.setCell ⟨D25, 3, none⟩ (.slice v314a ((lv314).length) v314c)) from (H333.out.set 8 rfl 3 (.slice v314a ((lv314).length) v314c)))
                go_simp
                refine hK.out _ _ ?_ (fun hHeld2 => ?_)
                focus ((try dsimp only); (exact (Sx.cons (fun h => Bool.noConfusion (h.symm.trans (by kernel_rfl) : false = true)) (Sx.cons (fun h => Bool.noConfusion (h.symm.trans (by kernel_rfl) : false = true)) (Sx.cons (fun h => Bool.noConfusion (h.symm.trans (by kernel_rfl) : false = true)) (Sx.nil _ _))))))
                clear hK K hHeld
                try simp only [Act.put, p1, p2, p3, p4, p5, p6]
                clear z335 z336 z337 z338 z339 z340 z341 z342
                generalize (k334.setCell ⟨D25, 3, none⟩ (.slice v314a ((lv314).length) v314c)) = k344 at *
                have hHeld := hHeld2
                clear hHeld2
                try simp only [Act.put, p1, p2, p3, p4, p5, p6] at hHeld
                refine wpAnyG_done (by kernel_rfl) ?_ _
                try clear hHeld
                clear wab hza hzb
                go_wp2_with fail
                go_roundw
                case rel => exact ⟨j + 1, _, _, _, _, _, _, _, _, _, _, _, _, by omega, by have := HPL.out; rw [Qv305.out]; simp; omega, by have := HQL.out; rw [Qv311.out]; simp; omega, by have := HSL.out; rw [Qv314.out]; simp; omega, by rw [Qv305.out]; exact in_app HPI.out HA.out (by omega), by rw [Qv311.out]; exact in_app HQI.out HB.out (by omega), by rw [Qv305.out, Qv311.out, Qv314.out]; exact app_sum _ _ (HPL.out.trans HSL.out.symm) (HQL.out.trans HSL.out.symm) HSI.out, by go_num, H343.out.pick [3, 4, 5, 6, 7, 8, 9, 10] rfl (by decide)⟩
                case measure => first | (simp [intOf]; omega) | (simp [intOf]; done)
              · obtain ⟨D345, hD345⟩ : ∃ D, k302.heap.size = D := ⟨_, rfl⟩
                have H346 := hid (H301.out.alloc #[.int .i64 x40] 3 hD345)
                go_simp
                refine hK.out _ _ ?_ (fun hHeld2 => ?_)
                focus ((try dsimp only); (exact (Sx.cons (fun _ => H346.out.cell 6 rfl 3 rfl) (Sx.cons (fun _ => H346.out.cell 7 rfl 3 rfl) (Sx.cons (fun _ => H346.out.cell 8 rfl 3 rfl) (Sx.nil _ _))))))
                clear hK K hHeld
                try simp only [Act.put, p1, p2, p3, p4, p5, p6]
                clear hD345
                generalize (k302.alloc (.cells #[.int .i64 x40] 3)) = k347 at *
                have hHeld := hHeld2
                clear hHeld2
                try simp only [Act.put, p1, p2, p3, p4, p5, p6] at hHeld
                refine wpAnyG_ready (rs := [4]) (by kernel_rfl) (by simp) (AllReadyG.cons (o := _) rfl (fun K hK => ?_) AllReadyG.nil)
                rw [if_pos (by rfl)]
                refine oper_append_int _ _ rfl B _ pl x37 D45 1 rfl rfl (H346.out.own 3 rfl) (H346.out.cell 2 rfl 0 rfl) (by omega) H346.out.size ?_
                intro v350 k349 ho hg hv
                have H348 := hid (H346.out.append 3 rfl ho hg hv)
                clear hg hv
                obtain ⟨lv350, qv350⟩ : ∃ l, l = pl ++ [x37] := ⟨_, rfl⟩
                rw [← qv350] at H348 ho
                have Qv350 := hid qv350
                clear qv350
                obtain ⟨v350a, v350c, hva, _⟩ := ho.slc
                subst hva
                clear ho
                refine hK.out _ _ ?_ (fun hHeld2 => ?_)
                focus ((try dsimp only); (exact (Sx.cons (fun _ => H348.out.cell 6 rfl 3 rfl) (Sx.cons (fun _ => H348.out.cell 7 rfl 3 rfl) (Sx.cons (fun _ => H348.out.cell 8 rfl 3 rfl) (Sx.nil _ _))))))
                clear hK K
                try simp only [Act.put, p1, p2, p3, p4, p5, p6]
                clear hHeld
                have hHeld := hHeld2
                clear hHeld2
                try simp only [Act.put, p1, p2, p3, p4, p5, p6] at hHeld
                refine tgP 17 hHeld (fun hHeld => ?_)
                try simp only [Act.put, p1, p2, p3, p4, p5, p6] at hHeld ⊢
                refine wpAnyG_ready (rs := [9]) (by kernel_rfl) (by simp) (AllReadyG.cons (o := _) rfl (fun K hK => ?_) AllReadyG.nil)
                rw [if_pos (by rfl)]
                refine oper_append_int _ _ rfl B _ ql x40 D345 1 rfl rfl (H348.out.own 4 rfl) (H348.out.cell 0 rfl 0 rfl) (by omega) H348.out.size ?_
                intro v353 k352 ho hg hv
                have H351 := hid (H348.out.append 4 rfl ho hg hv)
                clear hg hv
                obtain ⟨lv353, qv353⟩ : ∃ l, l = ql ++ [x40] := ⟨_, rfl⟩
                rw [← qv353] at H351 ho
                have Qv353 := hid qv353
                clear qv353
                obtain ⟨v353a, v353c, hva, _⟩ := ho.slc
                subst hva
                clear ho
                refine hK.out _ _ ?_ (fun hHeld2 => ?_)
                focus ((try dsimp only); (exact (Sx.cons (fun _ => H351.out.cell 6 rfl 3 rfl) (Sx.cons (fun _ => H351.out.cell 7 rfl 3 rfl) (Sx.cons (fun _ => H351.out.cell 8 rfl 3 rfl) (Sx.nil _ _))))))
                clear hK K
                try simp only [Act.put, p1, p2, p3, p4, p5, p6]
                clear hHeld
                have hHeld := hHeld2
                clear hHeld2
                try simp only [Act.put, p1, p2, p3, p4, p5, p6] at hHeld
                refine wpAnyG_ready (rs := [16]) (by kernel_rfl) (by simp) (AllReadyG.cons (o := _) rfl (fun K hK => ?_) AllReadyG.nil)
                rw [if_pos (by rfl)]
                refine oper_append_int _ _ rfl B _ sl (x37 + x40) D300 1 rfl rfl (H351.out.own 5 rfl) (H351.out.cell 1 rfl 0 rfl) (by omega) H351.out.size ?_
                intro v356 k355 ho hg hv
                have H354 := hid (H351.out.append 5 rfl ho hg hv)
                clear hg hv
                obtain ⟨lv356, qv356⟩ : ∃ l, l = sl ++ [x37 + x40] := ⟨_, rfl⟩
                rw [← qv356] at H354 ho
                have Qv356 := hid qv356
                clear qv356
                obtain ⟨v356a, v356c, hva, _⟩ := ho.slc
                subst hva
                clear ho
                refine hK.out _ _ ?_ (fun hHeld2 => ?_)
                focus ((try dsimp only); (exact (Sx.cons (fun _ => H354.out.cell 6 rfl 3 rfl) (Sx.cons (fun _ => H354.out.cell 7 rfl 3 rfl) (Sx.cons (fun _ => H354.out.cell 8 rfl 3 rfl) (Sx.nil _ _))))))
                clear hK K
                try simp only [Act.put, p1, p2, p3, p4, p5, p6]
                clear hHeld
                have hHeld := hHeld2
                clear hHeld2
                try simp only [Act.put, p1, p2, p3, p4, p5, p6] at hHeld
                refine wpAnyG_ready (rs := [18]) (by kernel_rfl) (by simp) (AllReadyG.cons (o := _) rfl (fun K hK => ?_) AllReadyG.nil)
                have z357 := H354.out.cell 6 rfl 0 rfl
                have z358 := H354.out.free 6 rfl 0
                have z359 := H354.out.cell 6 rfl 1 rfl
                have z360 := H354.out.free 6 rfl 1
                have z361 := H354.out.cell 6 rfl 2 rfl
                have z362 := H354.out.free 6 rfl 2
                have z363 := H354.out.cell 6 rfl 3 rfl
                have z364 := H354.out.free 6 rfl 3
                have H365 := hid (show St B W [.cells D345 #[.int .i64 x40] 3, .cells D300 #[.int .i64 (x37 + x40)] 3, .cells D45 #[.int .i64 x37] 3, .own (.slice v350a ((lv350).length) v350c) lv350, .own (.slice v353a ((lv353).length) v353c) lv353, .own (.slice v356a ((lv356).length) v356c) lv356, .cells D22 #[.int .i64 nw, .int .i64 nh, .int .i64 1000, .slice v350a ((lv350).length) v350c] 35, .cells (D22 + 1) #[.int .i64 nw, .int .i64 nh, .int .i64 1000, .slice qa qn qc] 35, .cells D25 #[.int .i64 nw, .int .i64 nh, .int .i64 1000, .slice sa sn sc] 35, .own (.slice la ln lc) ll, .tape K1] [] (k355.setCell ⟨D22, 3, none⟩ (.slice v350a ((lv350).length) v350c)) from (H354.out.set 6 rfl 3 (.slice v350a ((lv350).length) v350c)))
                go_simp
                refine hK.out _ _ ?_ (fun hHeld2 => ?_)
                focus ((try dsimp only); (exact (Sx.cons (fun h => Bool.noConfusion (h.symm.trans (by kernel_rfl) : false = true)) (Sx.cons (fun _ => H365.out.cell 7 rfl 3 rfl) (Sx.cons (fun _ => H365.out.cell 8 rfl 3 rfl) (Sx.nil _ _))))))
                clear hK K hHeld
                try simp only [Act.put, p1, p2, p3, p4, p5, p6]
                clear z357 z358 z359 z360 z361 z362 z363 z364
                generalize (k355.setCell ⟨D22, 3, none⟩ (.slice v350a ((lv350).length) v350c)) = k366 at *
                have hHeld := hHeld2
                clear hHeld2
                try simp only [Act.put, p1, p2, p3, p4, p5, p6] at hHeld
                refine tgP 19 hHeld (fun hHeld => ?_)
                try simp only [Act.put, p1, p2, p3, p4, p5, p6] at hHeld ⊢
                refine wpAnyG_ready (rs := [20]) (by kernel_rfl) (by simp) (AllReadyG.cons (o := _) rfl (fun K hK => ?_) AllReadyG.nil)
                have z367 := H365.out.cell 7 rfl 0 rfl
                have z368 := H365.out.free 7 rfl 0
                have z369 := H365.out.cell 7 rfl 1 rfl
                have z370 := H365.out.free 7 rfl 1
                have z371 := H365.out.cell 7 rfl 2 rfl
                have z372 := H365.out.free 7 rfl 2
                have z373 := H365.out.cell 7 rfl 3 rfl
                have z374 := H365.out.free 7 rfl 3
                have H375 := hid (show St B W [.cells D345 #[.int .i64 x40] 3, .cells D300 #[.int .i64 (x37 + x40)] 3, .cells D45 #[.int .i64 x37] 3, .own (.slice v350a ((lv350).length) v350c) lv350, .own (.slice v353a ((lv353).length) v353c) lv353, .own (.slice v356a ((lv356).length) v356c) lv356, .cells D22 #[.int .i64 nw, .int .i64 nh, .int .i64 1000, .slice v350a ((lv350).length) v350c] 35, .cells (D22 + 1) #[.int .i64 nw, .int .i64 nh, .int .i64 1000, .slice v353a ((lv353).length) v353c] 35, .cells D25 #[.int .i64 nw, .int .i64 nh, .int .i64 1000, .slice sa sn sc] 35, .own (.slice la ln lc) ll, .tape K1] [] (k366.setCell ⟨D22 + 1, 3, none⟩ (.slice v353a ((lv353).length) v353c)) from (H365.out.set 7 rfl 3 (.slice v353a ((lv353).length) v353c)))
                go_simp
                refine hK.out _ _ ?_ (fun hHeld2 => ?_)
                focus ((try dsimp only); (exact (Sx.cons (fun h => Bool.noConfusion (h.symm.trans (by kernel_rfl) : false = true)) (Sx.cons (fun h => Bool.noConfusion (h.symm.trans (by kernel_rfl) : false = true)) (Sx.cons (fun _ => H375.out.cell 8 rfl 3 rfl) (Sx.nil _ _))))))
                clear hK K hHeld
                try simp only [Act.put, p1, p2, p3, p4, p5, p6]
                clear z367 z368 z369 z370 z371 z372 z373 z374
                generalize (k366.setCell ⟨D22 + 1, 3, none⟩ (.slice v353a ((lv353).length) v353c)) = k376 at *
                have hHeld := hHeld2
                clear hHeld2
                try simp only [Act.put, p1, p2, p3, p4, p5, p6] at hHeld
                refine tgP 21 hHeld (fun hHeld => ?_)
                try simp only [Act.put, p1, p2, p3, p4, p5, p6] at hHeld ⊢
                refine wpAnyG_ready (rs := [22]) (by kernel_rfl) (by simp) (AllReadyG.cons (o := _) rfl (fun K hK => ?_) AllReadyG.nil)
                have z377 := H375.out.cell 8 rfl 0 rfl
                have z378 := H375.out.free 8 rfl 0
                have z379 := H375.out.cell 8 rfl 1 rfl
                have z380 := H375.out.free 8 rfl 1
                have z381 := H375.out.cell 8 rfl 2 rfl
                have z382 := H375.out.free 8 rfl 2
                have z383 := H375.out.cell 8 rfl 3 rfl
                have z384 := H375.out.free 8 rfl 3
                have H385 := hid (show St B W [.cells D345 #[.int .i64 x40] 3, .cells D300 #[.int .i64 (x37 + x40)] 3, .cells D45 #[.int .i64 x37] 3, .own (.slice v350a ((lv350).length) v350c) lv350, .own (.slice v353a ((lv353).length) v353c) lv353, .own (.slice v356a ((lv356).length) v356c) lv356, .cells D22 #[.int .i64 nw, .int .i64 nh, .int .i64 1000, .slice v350a ((lv350).length) v350c] 35, .cells (D22 + 1) #[.int .i64 nw, .int .i64 nh, .int .i64 1000, .slice v353a ((lv353).length) v353c] 35, .cells D25 #[.int .i64 nw, .int .i64 nh, .int .i64 1000, .slice v356a ((lv356).length) v356c] 35, .own (.slice la ln lc) ll, .tape K1] [] (k376.setCell ⟨D25, 3, none⟩ (.slice v356a ((lv356).length) v356c)) from (H375.out.set 8 rfl 3 (.slice v356a ((lv356).length) v356c)))
                go_simp
                refine hK.out _ _ ?_ (fun hHeld2 => ?_)
                focus ((try dsimp only); (exact (Sx.cons (fun h => Bool.noConfusion (h.symm.trans (by kernel_rfl) : false = true)) (Sx.cons (fun h => Bool.noConfusion (h.symm.trans (by kernel_rfl) : false = true)) (Sx.cons (fun h => Bool.noConfusion (h.symm.trans (by kernel_rfl) : false = true)) (Sx.nil _ _))))))
                clear hK K hHeld
                try simp only [Act.put, p1, p2, p3, p4, p5, p6]
                clear z377 z378 z379 z380 z381 z382 z383 z384
                generalize (k376.setCell ⟨D25, 3, none⟩ (.slice v356a ((lv356).length) v356c)) = k386 at *
                have hHeld := hHeld2
                clear hHeld2
                try simp only [Act.put, p1, p2, p3, p4, p5, p6] at hHeld
                refine wpAnyG_done (by kernel_rfl) ?_ _
                try clear hHeld
                clear wab hza hzb
                go_wp2_with fail
                go_roundw
                case rel => exact ⟨j + 1, _, _, _, _, _, _, _, _, _, _, _, _, by omega, by have := HPL.out; rw [Qv350.out]; simp; omega, by have := HQL.out; rw [Qv353.out]; simp; omega, by have := HSL.out; rw [Qv356.out]; simp; omega, by rw [Qv350.out]; exact in_app HPI.out HA.out (by omega), by rw [Qv353.out]; exact in_app HQI.out HB.out (by omega), by rw [Qv350.out, Qv353.out, Qv356.out]; exact app_sum _ _ (HPL.out.trans HSL.out.symm) (HQL.out.trans HSL.out.symm) HSI.out, by go_num, H385.out.pick [3, 4, 5, 6, 7, 8, 9, 10] rfl (by decide)⟩
                case measure => first | (simp [intOf]; omega) | (simp [intOf]; done)
          · obtain ⟨D387, hD387⟩ : ∃ D, k44.heap.size = D := ⟨_, rfl⟩
            have H388 := hid (H43.out.alloc #[.int .i64 x40] 3 hD387)
            go_simp
            refine hK.out _ _ ?_ (fun hHeld2 => ?_)
            focus ((try dsimp only); (exact (Sx.cons (fun _ => H388.out.cell 4 rfl 3 rfl) (Sx.cons (fun _ => H388.out.cell 5 rfl 3 rfl) (Sx.cons (fun _ => H388.out.cell 6 rfl 3 rfl) (Sx.nil _ _))))))
            clear hK K hHeld
            try simp only [Act.put, p1, p2, p3, p4, p5, p6]
            clear hD387
            generalize (k44.alloc (.cells #[.int .i64 x40] 3)) = k389 at *
            have hHeld := hHeld2
            clear hHeld2
            try simp only [Act.put, p1, p2, p3, p4, p5, p6] at hHeld
            refine wpAnyG_ready (rs := [3, 15]) (by kernel_rfl) (by simp) (AllReadyG.cons (o := _) rfl (fun K hK => ?_) (AllReadyG.cons (o := _) rfl (fun K hK => ?_) AllReadyG.nil))
            · obtain ⟨D390, hD390⟩ : ∃ D, k389.heap.size = D := ⟨_, rfl⟩
              have H391 := hid (H388.out.alloc #[.int .i64 x37] 3 hD390)
              go_simp
              refine hK.out _ _ ?_ (fun hHeld2 => ?_)
              focus ((try dsimp only); (exact (Sx.cons (fun _ => H391.out.cell 5 rfl 3 rfl) (Sx.cons (fun _ => H391.out.cell 6 rfl 3 rfl) (Sx.cons (fun _ => H391.out.cell 7 rfl 3 rfl) (Sx.nil _ _))))))
              clear hK K hHeld
              try simp only [Act.put, p1, p2, p3, p4, p5, p6]
              clear hD390
              generalize (k389.alloc (.cells #[.int .i64 x37] 3)) = k392 at *
              have hHeld := hHeld2
              clear hHeld2
              try simp only [Act.put, p1, p2, p3, p4, p5, p6] at hHeld
              refine wpAnyG_ready (rs := [4, 15]) (by kernel_rfl) (by simp) (AllReadyG.cons (o := _) rfl (fun K hK => ?_) (AllReadyG.cons (o := _) rfl (fun K hK => ?_) AllReadyG.nil))
              · rw [if_pos (by rfl)]
                refine oper_append_int _ _ rfl B _ pl x37 D390 1 rfl rfl (H391.out.own 2 rfl) (H391.out.cell 0 rfl 0 rfl) (by omega) H391.out.size ?_
                intro v395 k394 ho hg hv
                have H393 := hid (H391.out.append 2 rfl ho hg hv)
                clear hg hv
                obtain ⟨lv395, qv395⟩ : ∃ l, l = pl ++ [x37] := ⟨_, rfl⟩
                rw [← qv395] at H393 ho
                have Qv395 := hid qv395
                clear qv395
                obtain ⟨v395a, v395c, hva, _⟩ := ho.slc
                subst hva
                clear ho
                refine hK.out _ _ ?_ (fun hHeld2 => ?_)
                focus ((try dsimp only); (exact (Sx.cons (fun _ => H393.out.cell 5 rfl 3 rfl) (Sx.cons (fun _ => H393.out.cell 6 rfl 3 rfl) (Sx.cons (fun _ => H393.out.cell 7 rfl 3 rfl) (Sx.nil _ _))))))
                clear hK K
                try simp only [Act.put, p1, p2, p3, p4, p5, p6]
                clear hHeld
                have hHeld := hHeld2
                clear hHeld2
                try simp only [Act.put, p1, p2, p3, p4, p5, p6] at hHeld
                refine tgP 17 hHeld (fun hHeld => ?_)
                try simp only [Act.put, p1, p2, p3, p4, p5, p6] at hHeld ⊢
                refine wpAnyG_ready (rs := [9, 15]) (by kernel_rfl) (by simp) (AllReadyG.cons (o := _) rfl (fun K hK => ?_) (AllReadyG.cons (o := _) rfl (fun K hK => ?_) AllReadyG.nil))
                · rw [if_pos (by rfl)]
                  refine oper_append_int _ _ rfl B _ ql x40 D387 1 rfl rfl (H393.out.own 3 rfl) (H393.out.cell 1 rfl 0 rfl) (by omega) H393.out.size ?_
                  intro v398 k397 ho hg hv
                  have H396 := hid (H393.out.append 3 rfl ho hg hv)
                  clear hg hv
                  obtain ⟨lv398, qv398⟩ : ∃ l, l = ql ++ [x40] := ⟨_, rfl⟩
                  rw [← qv398] at H396 ho
                  have Qv398 := hid qv398
                  clear qv398
                  obtain ⟨v398a, v398c, hva, _⟩ := ho.slc
                  subst hva
                  clear ho
                  refine hK.out _ _ ?_ (fun hHeld2 => ?_)
                  focus ((try dsimp only); (exact (Sx.cons (fun _ => H396.out.cell 5 rfl 3 rfl) (Sx.cons (fun _ => H396.out.cell 6 rfl 3 rfl) (Sx.cons (fun _ => H396.out.cell 7 rfl 3 rfl) (Sx.nil _ _))))))
                  clear hK K
                  try simp only [Act.put, p1, p2, p3, p4, p5, p6]
                  clear hHeld
                  have hHeld := hHeld2
                  clear hHeld2
                  try simp only [Act.put, p1, p2, p3, p4, p5, p6] at hHeld
                  refine wpAnyG_ready (rs := [15]) (by kernel_rfl) (by simp) (AllReadyG.cons (o := _) rfl (fun K hK => ?_) AllReadyG.nil)
                  obtain ⟨D399, hD399⟩ : ∃ D, k397.heap.size = D := ⟨_, rfl⟩
                  have H400 := hid (H396.out.alloc #[.int .i64 (x37 + x40)] 3 hD399)
                  go_simp
                  refine hK.out _ _ ?_ (fun hHeld2 => ?_)
                  focus ((try dsimp only); (exact (Sx.cons (fun _ => H400.out.cell 6 rfl 3 rfl) (Sx.cons (fun _ => H400.out.cell 7 rfl 3 rfl) (Sx.cons (fun _ => H400.out.cell 8 rfl 3 rfl) (Sx.nil _ _))))))
                  clear hK K hHeld
                  try simp only [Act.put, p1, p2, p3, p4, p5, p6]
                  clear hD399
                  generalize (k397.alloc (.cells #[.int .i64 (x37 + x40)] 3)) = k401 at *
                  have hHeld := hHeld2
                  clear hHeld2
                  try simp only [Act.put, p1, p2, p3, p4, p5, p6] at hHeld
                  refine wpAnyG_ready (rs := [16]) (by kernel_rfl) (by simp) (AllReadyG.cons (o := _) rfl (fun K hK => ?_) AllReadyG.nil)
                  rw [if_pos (by rfl)]
                  refine oper_append_int _ _ rfl B _ sl (x37 + x40) D399 1 rfl rfl (H400.out.own 5 rfl) (H400.out.cell 0 rfl 0 rfl) (by omega) H400.out.size ?_
                  intro v404 k403 ho hg hv
                  have H402 := hid (H400.out.append 5 rfl ho hg hv)
                  clear hg hv
                  obtain ⟨lv404, qv404⟩ : ∃ l, l = sl ++ [x37 + x40] := ⟨_, rfl⟩
                  rw [← qv404] at H402 ho
                  have Qv404 := hid qv404
                  clear qv404
                  obtain ⟨v404a, v404c, hva, _⟩ := ho.slc
                  subst hva
                  clear ho
                  refine hK.out _ _ ?_ (fun hHeld2 => ?_)
                  focus ((try dsimp only); (exact (Sx.cons (fun _ => H402.out.cell 6 rfl 3 rfl) (Sx.cons (fun _ => H402.out.cell 7 rfl 3 rfl) (Sx.cons (fun _ => H402.out.cell 8 rfl 3 rfl) (Sx.nil _ _))))))
                  clear hK K
                  try simp only [Act.put, p1, p2, p3, p4, p5, p6]
                  clear hHeld
                  have hHeld := hHeld2
                  clear hHeld2
                  try simp only [Act.put, p1, p2, p3, p4, p5, p6] at hHeld
                  refine wpAnyG_ready (rs := [18]) (by kernel_rfl) (by simp) (AllReadyG.cons (o := _) rfl (fun K hK => ?_) AllReadyG.nil)
                  have z405 := H402.out.cell 6 rfl 0 rfl
                  have z406 := H402.out.free 6 rfl 0
                  have z407 := H402.out.cell 6 rfl 1 rfl
                  have z408 := H402.out.free 6 rfl 1
                  have z409 := H402.out.cell 6 rfl 2 rfl
                  have z410 := H402.out.free 6 rfl 2
                  have z411 := H402.out.cell 6 rfl 3 rfl
                  have z412 := H402.out.free 6 rfl 3
                  have H413 := hid (show St B W [.cells D399 #[.int .i64 (x37 + x40)] 3, .cells D390 #[.int .i64 x37] 3, .cells D387 #[.int .i64 x40] 3, .own (.slice v395a ((lv395).length) v395c) lv395, .own (.slice v398a ((lv398).length) v398c) lv398, .own (.slice v404a ((lv404).length) v404c) lv404, .cells D22 #[.int .i64 nw, .int .i64 nh, .int .i64 1000, .slice v395a ((lv395).length) v395c] 35, .cells (D22 + 1) #[.int .i64 nw, .int .i64 nh, .int .i64 1000, .slice qa qn qc] 35, .cells D25 #[.int .i64 nw, .int .i64 nh, .int .i64 1000, .slice sa sn sc] 35, .own (.slice la ln lc) ll, .tape K1] [] (k403.setCell ⟨D22, 3, none⟩ (.slice v395a ((lv395).length) v395c)) from (H402.out.set 6 rfl 3 (.slice v395a ((lv395).length) v395c)))
                  go_simp
                  refine hK.out _ _ ?_ (fun hHeld2 => ?_)
                  focus ((try dsimp only); (exact (Sx.cons (fun h => Bool.noConfusion (h.symm.trans (by kernel_rfl) : false = true)) (Sx.cons (fun _ => H413.out.cell 7 rfl 3 rfl) (Sx.cons (fun _ => H413.out.cell 8 rfl 3 rfl) (Sx.nil _ _))))))
                  clear hK K hHeld
                  try simp only [Act.put, p1, p2, p3, p4, p5, p6]
                  clear z405 z406 z407 z408 z409 z410 z411 z412
                  generalize (k403.setCell ⟨D22, 3, none⟩ (.slice v395a ((lv395).length) v395c)) = k414 at *
                  have hHeld := hHeld2
                  clear hHeld2
                  try simp only [Act.put, p1, p2, p3, p4, p5, p6] at hHeld
                  refine tgP 19 hHeld (fun hHeld => ?_)
                  try simp only [Act.put, p1, p2, p3, p4, p5, p6] at hHeld ⊢
                  refine wpAnyG_ready (rs := [20]) (by kernel_rfl) (by simp) (AllReadyG.cons (o := _) rfl (fun K hK => ?_) AllReadyG.nil)
                  have z415 := H413.out.cell 7 rfl 0 rfl
                  have z416 := H413.out.free 7 rfl 0
                  have z417 := H413.out.cell 7 rfl 1 rfl
                  have z418 := H413.out.free 7 rfl 1
                  have z419 := H413.out.cell 7 rfl 2 rfl
                  have z420 := H413.out.free 7 rfl 2
                  have z421 := H413.out.cell 7 rfl 3 rfl
                  have z422 := H413.out.free 7 rfl 3
                  have H423 := hid (show St B W [.cells D399 #[.int .i64 (x37 + x40)] 3, .cells D390 #[.int .i64 x37] 3, .cells D387 #[.int .i64 x40] 3, .own (.slice v395a ((lv395).length) v395c) lv395, .own (.slice v398a ((lv398).length) v398c) lv398, .own (.slice v404a ((lv404).length) v404c) lv404, .cells D22 #[.int .i64 nw, .int .i64 nh, .int .i64 1000, .slice v395a ((lv395).length) v395c] 35, .cells (D22 + 1) #[.int .i64 nw, .int .i64 nh, .int .i64 1000, .slice v398a ((lv398).length) v398c] 35, .cells D25 #[.int .i64 nw, .int .i64 nh, .int .i64 1000, .slice sa sn sc] 35, .own (.slice la ln lc) ll, .tape K1] [] (k414.setCell ⟨D22 + 1, 3, none⟩ (.slice v398a ((lv398).length) v398c)) from (H413.out.set 7 rfl 3 (.slice v398a ((lv398).length) v398c)))
                  go_simp
                  refine hK.out _ _ ?_ (fun hHeld2 => ?_)
                  focus ((try dsimp only); (exact (Sx.cons (fun h => Bool.noConfusion (h.symm.trans (by kernel_rfl) : false = true)) (Sx.cons (fun h => Bool.noConfusion (h.symm.trans (by kernel_rfl) : false = true)) (Sx.cons (fun _ => H423.out.cell 8 rfl 3 rfl) (Sx.nil _ _))))))
                  clear hK K hHeld
                  try simp only [Act.put, p1, p2, p3, p4, p5, p6]
                  clear z415 z416 z417 z418 z419 z420 z421 z422
                  generalize (k414.setCell ⟨D22 + 1, 3, none⟩ (.slice v398a ((lv398).length) v398c)) = k424 at *
                  have hHeld := hHeld2
                  clear hHeld2
                  try simp only [Act.put, p1, p2, p3, p4, p5, p6] at hHeld
                  refine tgP 21 hHeld (fun hHeld => ?_)
                  try simp only [Act.put, p1, p2, p3, p4, p5, p6] at hHeld ⊢
                  refine wpAnyG_ready (rs := [22]) (by kernel_rfl) (by simp) (AllReadyG.cons (o := _) rfl (fun K hK => ?_) AllReadyG.nil)
                  have z425 := H423.out.cell 8 rfl 0 rfl
                  have z426 := H423.out.free 8 rfl 0
                  have z427 := H423.out.cell 8 rfl 1 rfl
                  have z428 := H423.out.free 8 rfl 1
                  have z429 := H423.out.cell 8 rfl 2 rfl
                  have z430 := H423.out.free 8 rfl 2
                  have z431 := H423.out.cell 8 rfl 3 rfl
                  have z432 := H423.out.free 8 rfl 3
                  have H433 := hid (show St B W [.cells D399 #[.int .i64 (x37 + x40)] 3, .cells D390 #[.int .i64 x37] 3, .cells D387 #[.int .i64 x40] 3, .own (.slice v395a ((lv395).length) v395c) lv395, .own (.slice v398a ((lv398).length) v398c) lv398, .own (.slice v404a ((lv404).length) v404c) lv404, .cells D22 #[.int .i64 nw, .int .i64 nh, .int .i64 1000, .slice v395a ((lv395).length) v395c] 35, .cells (D22 + 1) #[.int .i64 nw, .int .i64 nh, .int .i64 1000, .slice v398a ((lv398).length) v398c] 35, .cells D25 #[.int .i64 nw, .int .i64 nh, .int .i64 1000, .slice v404a ((lv404).length) v404c] 35, .own (.slice la ln lc) ll, .tape K1] [] (k424.setCell ⟨D25, 3, none⟩ (.slice v404a ((lv404).length) v404c)) from (H423.out.set 8 rfl 3 (.slice v404a ((lv404).length) v404c)))
                  go_simp
                  refine hK.out _ _ ?_ (fun hHeld2 => ?_)
                  focus ((try dsimp only); (exact (Sx.cons (fun h => Bool.noConfusion (h.symm.trans (by kernel_rfl) : false = true)) (Sx.cons (fun h => Bool.noConfusion (h.symm.trans (by kernel_rfl) : false = true)) (Sx.cons (fun h => Bool.noConfusion (h.symm.trans (by kernel_rfl) : false = true)) (Sx.nil _ _))))))
                  clear hK K hHeld
                  try simp only [Act.put, p1, p2, p3, p4, p5, p6]
                  clear z425 z426 z427 z428 z429 z430 z431 z432
                  generalize (k424.setCell ⟨D25, 3, none⟩ (.slice v404a ((lv404).length) v404c)) = k434 at *
                  have hHeld := hHeld2
                  clear hHeld2
                  try simp only [Act.put, p1, p2, p3, p4, p5, p6] at hHeld
                  refine wpAnyG_done (by kernel_rfl) ?_ _
                  try clear hHeld
                  clear wab hza hzb
                  go_wp2_with fail
                  go_roundw
                  case rel => exact ⟨j + 1, _, _, _, _, _, _, _, _, _, _, _, _, by omega, by have := HPL.out; rw [Qv395.out]; simp; omega, by have := HQL.out; rw [Qv398.out]; simp; omega, by have := HSL.out; rw [Qv404.out]; simp; omega, by rw [Qv395.out]; exact in_app HPI.out HA.out (by omega), by rw [Qv398.out]; exact in_app HQI.out HB.out (by omega), by rw [Qv395.out, Qv398.out, Qv404.out]; exact app_sum _ _ (HPL.out.trans HSL.out.symm) (HQL.out.trans HSL.out.symm) HSI.out, by go_num, H433.out.pick [3, 4, 5, 6, 7, 8, 9, 10] rfl (by decide)⟩
                  case measure => first | (simp [intOf]; omega) | (simp [intOf]; done)
                · obtain ⟨D435, hD435⟩ : ∃ D, k394.heap.size = D := ⟨_, rfl⟩
                  have H436 := hid (H393.out.alloc #[.int .i64 (x37 + x40)] 3 hD435)
                  go_simp
                  refine hK.out _ _ ?_ (fun hHeld2 => ?_)
                  focus ((try dsimp only); (exact (Sx.cons (fun _ => H436.out.cell 6 rfl 3 rfl) (Sx.cons (fun _ => H436.out.cell 7 rfl 3 rfl) (Sx.cons (fun _ => H436.out.cell 8 rfl 3 rfl) (Sx.nil _ _))))))
                  clear hK K hHeld
                  try simp only [Act.put, p1, p2, p3, p4, p5, p6]
                  clear hD435
                  generalize (k394.alloc (.cells #[.int .i64 (x37 + x40)] 3)) = k437 at *
                  have hHeld := hHeld2
                  clear hHeld2
                  try simp only [Act.put, p1, p2, p3, p4, p5, p6] at hHeld
                  refine wpAnyG_ready (rs := [9]) (by kernel_rfl) (by simp) (AllReadyG.cons (o := _) rfl (fun K hK => ?_) AllReadyG.nil)
                  rw [if_pos (by rfl)]
                  refine oper_append_int _ _ rfl B _ ql x40 D387 1 rfl rfl (H436.out.own 4 rfl) (H436.out.cell 2 rfl 0 rfl) (by omega) H436.out.size ?_
                  intro v440 k439 ho hg hv
                  have H438 := hid (H436.out.append 4 rfl ho hg hv)
                  clear hg hv
                  obtain ⟨lv440, qv440⟩ : ∃ l, l = ql ++ [x40] := ⟨_, rfl⟩
                  rw [← qv440] at H438 ho
                  have Qv440 := hid qv440
                  clear qv440
                  obtain ⟨v440a, v440c, hva, _⟩ := ho.slc
                  subst hva
                  clear ho
                  refine hK.out _ _ ?_ (fun hHeld2 => ?_)
                  focus ((try dsimp only); (exact (Sx.cons (fun _ => H438.out.cell 6 rfl 3 rfl) (Sx.cons (fun _ => H438.out.cell 7 rfl 3 rfl) (Sx.cons (fun _ => H438.out.cell 8 rfl 3 rfl) (Sx.nil _ _))))))
                  clear hK K
                  try simp only [Act.put, p1, p2, p3, p4, p5, p6]
                  clear hHeld
                  have hHeld := hHeld2
                  clear hHeld2
                  try simp only [Act.put, p1, p2, p3, p4, p5, p6] at hHeld
                  refine wpAnyG_ready (rs := [16]) (by kernel_rfl) (by simp) (AllReadyG.cons (o := _) rfl (fun K hK => ?_) AllReadyG.nil)
                  rw [if_pos (by rfl)]
                  refine oper_append_int _ _ rfl B _ sl (x37 + x40) D435 1 rfl rfl (H438.out.own 5 rfl) (H438.out.cell 0 rfl 0 rfl) (by omega) H438.out.size ?_
                  intro v443 k442 ho hg hv
                  have H441 := hid (H438.out.append 5 rfl ho hg hv)
                  clear hg hv
                  obtain ⟨lv443, qv443⟩ : ∃ l, l = sl ++ [x37 + x40] := ⟨_, rfl⟩
                  rw [← qv443] at H441 ho
                  have Qv443 := hid qv443
                  clear qv443
                  obtain ⟨v443a, v443c, hva, _⟩ := ho.slc
                  subst hva
                  clear ho
                  refine hK.out _ _ ?_ (fun hHeld2 => ?_)
                  focus ((try dsimp only); (exact (Sx.cons (fun _ => H441.out.cell 6 rfl 3 rfl) (Sx.cons (fun _ => H441.out.cell 7 rfl 3 rfl) (Sx.cons (fun _ => H441.out.cell 8 rfl 3 rfl) (Sx.nil _ _))))))
                  clear hK K
                  try simp only [Act.put, p1, p2, p3, p4, p5, p6]
                  clear hHeld
                  have hHeld := hHeld2
                  clear hHeld2
                  try simp only [Act.put, p1, p2, p3, p4, p5, p6] at hHeld
                  refine wpAnyG_ready (rs := [18]) (by kernel_rfl) (by simp) (AllReadyG.cons (o := _) rfl (fun K hK => ?_) AllReadyG.nil)
                  have z444 := H441.out.cell 6 rfl 0 rfl
                  have z445 := H441.out.free 6 rfl 0
                  have z446 := H441.out.cell 6 rfl 1 rfl
                  have z447 := H441.out.free 6 rfl 1
                  have z448 := H441.out.cell 6 rfl 2 rfl
                  have z449 := H441.out.free 6 rfl 2
                  have z450 := H441.out.cell 6 rfl 3 rfl
                  have z451 := H441.out.free 6 rfl 3
                  have H452 := hid (show St B W [.cells D435 #[.int .i64 (x37 + x40)] 3, .cells D390 #[.int .i64 x37] 3, .cells D387 #[.int .i64 x40] 3, .own (.slice v395a ((lv395).length) v395c) lv395, .own (.slice v440a ((lv440).length) v440c) lv440, .own (.slice v443a ((lv443).length) v443c) lv443, .cells D22 #[.int .i64 nw, .int .i64 nh, .int .i64 1000, .slice v395a ((lv395).length) v395c] 35, .cells (D22 + 1) #[.int .i64 nw, .int .i64 nh, .int .i64 1000, .slice qa qn qc] 35, .cells D25 #[.int .i64 nw, .int .i64 nh, .int .i64 1000, .slice sa sn sc] 35, .own (.slice la ln lc) ll, .tape K1] [] (k442.setCell ⟨D22, 3, none⟩ (.slice v395a ((lv395).length) v395c)) from (H441.out.set 6 rfl 3 (.slice v395a ((lv395).length) v395c)))
                  go_simp
                  refine hK.out _ _ ?_ (fun hHeld2 => ?_)
                  focus ((try dsimp only); (exact (Sx.cons (fun h => Bool.noConfusion (h.symm.trans (by kernel_rfl) : false = true)) (Sx.cons (fun _ => H452.out.cell 7 rfl 3 rfl) (Sx.cons (fun _ => H452.out.cell 8 rfl 3 rfl) (Sx.nil _ _))))))
                  clear hK K hHeld
                  try simp only [Act.put, p1, p2, p3, p4, p5, p6]
                  clear z444 z445 z446 z447 z448 z449 z450 z451
                  generalize (k442.setCell ⟨D22, 3, none⟩ (.slice v395a ((lv395).length) v395c)) = k453 at *
                  have hHeld := hHeld2
                  clear hHeld2
                  try simp only [Act.put, p1, p2, p3, p4, p5, p6] at hHeld
                  refine tgP 19 hHeld (fun hHeld => ?_)
                  try simp only [Act.put, p1, p2, p3, p4, p5, p6] at hHeld ⊢
                  refine wpAnyG_ready (rs := [20]) (by kernel_rfl) (by simp) (AllReadyG.cons (o := _) rfl (fun K hK => ?_) AllReadyG.nil)
                  have z454 := H452.out.cell 7 rfl 0 rfl
                  have z455 := H452.out.free 7 rfl 0
                  have z456 := H452.out.cell 7 rfl 1 rfl
                  have z457 := H452.out.free 7 rfl 1
                  have z458 := H452.out.cell 7 rfl 2 rfl
                  have z459 := H452.out.free 7 rfl 2
                  have z460 := H452.out.cell 7 rfl 3 rfl
                  have z461 := H452.out.free 7 rfl 3
                  have H462 := hid (show St B W [.cells D435 #[.int .i64 (x37 + x40)] 3, .cells D390 #[.int .i64 x37] 3, .cells D387 #[.int .i64 x40] 3, .own (.slice v395a ((lv395).length) v395c) lv395, .own (.slice v440a ((lv440).length) v440c) lv440, .own (.slice v443a ((lv443).length) v443c) lv443, .cells D22 #[.int .i64 nw, .int .i64 nh, .int .i64 1000, .slice v395a ((lv395).length) v395c] 35, .cells (D22 + 1) #[.int .i64 nw, .int .i64 nh, .int .i64 1000, .slice v440a ((lv440).length) v440c] 35, .cells D25 #[.int .i64 nw, .int .i64 nh, .int .i64 1000, .slice sa sn sc] 35, .own (.slice la ln lc) ll, .tape K1] [] (k453.setCell ⟨D22 + 1, 3, none⟩ (.slice v440a ((lv440).length) v440c)) from (H452.out.set 7 rfl 3 (.slice v440a ((lv440).length) v440c)))
                  go_simp
                  refine hK.out _ _ ?_ (fun hHeld2 => ?_)
                  focus ((try dsimp only); (exact (Sx.cons (fun h => Bool.noConfusion (h.symm.trans (by kernel_rfl) : false = true)) (Sx.cons (fun h => Bool.noConfusion (h.symm.trans (by kernel_rfl) : false = true)) (Sx.cons (fun _ => H462.out.cell 8 rfl 3 rfl) (Sx.nil _ _))))))
                  clear hK K hHeld
                  try simp only [Act.put, p1, p2, p3, p4, p5, p6]
                  clear z454 z455 z456 z457 z458 z459 z460 z461
                  generalize (k453.setCell ⟨D22 + 1, 3, none⟩ (.slice v440a ((lv440).length) v440c)) = k463 at *
                  have hHeld := hHeld2
                  clear hHeld2
                  try simp only [Act.put, p1, p2, p3, p4, p5, p6] at hHeld
                  refine tgP 21 hHeld (fun hHeld => ?_)
                  try simp only [Act.put, p1, p2, p3, p4, p5, p6] at hHeld ⊢
                  refine wpAnyG_ready (rs := [22]) (by kernel_rfl) (by simp) (AllReadyG.cons (o := _) rfl (fun K hK => ?_) AllReadyG.nil)
                  have z464 := H462.out.cell 8 rfl 0 rfl
                  have z465 := H462.out.free 8 rfl 0
                  have z466 := H462.out.cell 8 rfl 1 rfl
                  have z467 := H462.out.free 8 rfl 1
                  have z468 := H462.out.cell 8 rfl 2 rfl
                  have z469 := H462.out.free 8 rfl 2
                  have z470 := H462.out.cell 8 rfl 3 rfl
                  have z471 := H462.out.free 8 rfl 3
                  have H472 := hid (show St B W [.cells D435 #[.int .i64 (x37 + x40)] 3, .cells D390 #[.int .i64 x37] 3, .cells D387 #[.int .i64 x40] 3, .own (.slice v395a ((lv395).length) v395c) lv395, .own (.slice v440a ((lv440).length) v440c) lv440, .own (.slice v443a ((lv443).length) v443c) lv443, .cells D22 #[.int .i64 nw, .int .i64 nh, .int .i64 1000, .slice v395a ((lv395).length) v395c] 35, .cells (D22 + 1) #[.int .i64 nw, .int .i64 nh, .int .i64 1000, .slice v440a ((lv440).length) v440c] 35, .cells D25 #[.int .i64 nw, .int .i64 nh, .int .i64 1000, .slice v443a ((lv443).length) v443c] 35, .own (.slice la ln lc) ll, .tape K1] [] (k463.setCell ⟨D25, 3, none⟩ (.slice v443a ((lv443).length) v443c)) from (H462.out.set 8 rfl 3 (.slice v443a ((lv443).length) v443c)))
                  go_simp
                  refine hK.out _ _ ?_ (fun hHeld2 => ?_)
                  focus ((try dsimp only); (exact (Sx.cons (fun h => Bool.noConfusion (h.symm.trans (by kernel_rfl) : false = true)) (Sx.cons (fun h => Bool.noConfusion (h.symm.trans (by kernel_rfl) : false = true)) (Sx.cons (fun h => Bool.noConfusion (h.symm.trans (by kernel_rfl) : false = true)) (Sx.nil _ _))))))
                  clear hK K hHeld
                  try simp only [Act.put, p1, p2, p3, p4, p5, p6]
                  clear z464 z465 z466 z467 z468 z469 z470 z471
                  generalize (k463.setCell ⟨D25, 3, none⟩ (.slice v443a ((lv443).length) v443c)) = k473 at *
                  have hHeld := hHeld2
                  clear hHeld2
                  try simp only [Act.put, p1, p2, p3, p4, p5, p6] at hHeld
                  refine wpAnyG_done (by kernel_rfl) ?_ _
                  try clear hHeld
                  clear wab hza hzb
                  go_wp2_with fail
                  go_roundw
                  case rel => exact ⟨j + 1, _, _, _, _, _, _, _, _, _, _, _, _, by omega, by have := HPL.out; rw [Qv395.out]; simp; omega, by have := HQL.out; rw [Qv440.out]; simp; omega, by have := HSL.out; rw [Qv443.out]; simp; omega, by rw [Qv395.out]; exact in_app HPI.out HA.out (by omega), by rw [Qv440.out]; exact in_app HQI.out HB.out (by omega), by rw [Qv395.out, Qv440.out, Qv443.out]; exact app_sum _ _ (HPL.out.trans HSL.out.symm) (HQL.out.trans HSL.out.symm) HSI.out, by go_num, H472.out.pick [3, 4, 5, 6, 7, 8, 9, 10] rfl (by decide)⟩
                  case measure => first | (simp [intOf]; omega) | (simp [intOf]; done)
              · obtain ⟨D474, hD474⟩ : ∃ D, k392.heap.size = D := ⟨_, rfl⟩
                have H475 := hid (H391.out.alloc #[.int .i64 (x37 + x40)] 3 hD474)
                go_simp
                refine hK.out _ _ ?_ (fun hHeld2 => ?_)
                focus ((try dsimp only); (exact (Sx.cons (fun _ => H475.out.cell 6 rfl 3 rfl) (Sx.cons (fun _ => H475.out.cell 7 rfl 3 rfl) (Sx.cons (fun _ => H475.out.cell 8 rfl 3 rfl) (Sx.nil _ _))))))
                clear hK K hHeld
                try simp only [Act.put, p1, p2, p3, p4, p5, p6]
                clear hD474
                generalize (k392.alloc (.cells #[.int .i64 (x37 + x40)] 3)) = k476 at *
                have hHeld := hHeld2
                clear hHeld2
                try simp only [Act.put, p1, p2, p3, p4, p5, p6] at hHeld
                refine wpAnyG_ready (rs := [4]) (by kernel_rfl) (by simp) (AllReadyG.cons (o := _) rfl (fun K hK => ?_) AllReadyG.nil)
                rw [if_pos (by rfl)]
                refine oper_append_int _ _ rfl B _ pl x37 D390 1 rfl rfl (H475.out.own 3 rfl) (H475.out.cell 1 rfl 0 rfl) (by omega) H475.out.size ?_
                intro v479 k478 ho hg hv
                have H477 := hid (H475.out.append 3 rfl ho hg hv)
                clear hg hv
                obtain ⟨lv479, qv479⟩ : ∃ l, l = pl ++ [x37] := ⟨_, rfl⟩
                rw [← qv479] at H477 ho
                have Qv479 := hid qv479
                clear qv479
                obtain ⟨v479a, v479c, hva, _⟩ := ho.slc
                subst hva
                clear ho
                refine hK.out _ _ ?_ (fun hHeld2 => ?_)
                focus ((try dsimp only); (exact (Sx.cons (fun _ => H477.out.cell 6 rfl 3 rfl) (Sx.cons (fun _ => H477.out.cell 7 rfl 3 rfl) (Sx.cons (fun _ => H477.out.cell 8 rfl 3 rfl) (Sx.nil _ _))))))
                clear hK K
                try simp only [Act.put, p1, p2, p3, p4, p5, p6]
                clear hHeld
                have hHeld := hHeld2
                clear hHeld2
                try simp only [Act.put, p1, p2, p3, p4, p5, p6] at hHeld
                refine tgP 17 hHeld (fun hHeld => ?_)
                try simp only [Act.put, p1, p2, p3, p4, p5, p6] at hHeld ⊢
                refine wpAnyG_ready (rs := [9]) (by kernel_rfl) (by simp) (AllReadyG.cons (o := _) rfl (fun K hK => ?_) AllReadyG.nil)
                rw [if_pos (by rfl)]
                refine oper_append_int _ _ rfl B _ ql x40 D387 1 rfl rfl (H477.out.own 4 rfl) (H477.out.cell 2 rfl 0 rfl) (by omega) H477.out.size ?_
                intro v482 k481 ho hg hv
                have H480 := hid (H477.out.append 4 rfl ho hg hv)
                clear hg hv
                obtain ⟨lv482, qv482⟩ : ∃ l, l = ql ++ [x40] := ⟨_, rfl⟩
                rw [← qv482] at H480 ho
                have Qv482 := hid qv482
                clear qv482
                obtain ⟨v482a, v482c, hva, _⟩ := ho.slc
                subst hva
                clear ho
                refine hK.out _ _ ?_ (fun hHeld2 => ?_)
                focus ((try dsimp only); (exact (Sx.cons (fun _ => H480.out.cell 6 rfl 3 rfl) (Sx.cons (fun _ => H480.out.cell 7 rfl 3 rfl) (Sx.cons (fun _ => H480.out.cell 8 rfl 3 rfl) (Sx.nil _ _))))))
                clear hK K
                try simp only [Act.put, p1, p2, p3, p4, p5, p6]
                clear hHeld
                have hHeld := hHeld2
                clear hHeld2
                try simp only [Act.put, p1, p2, p3, p4, p5, p6] at hHeld
                refine wpAnyG_ready (rs := [16]) (by kernel_rfl) (by simp) (AllReadyG.cons (o := _) rfl (fun K hK => ?_) AllReadyG.nil)
                rw [if_pos (by rfl)]
                refine oper_append_int _ _ rfl B _ sl (x37 + x40) D474 1 rfl rfl (H480.out.own 5 rfl) (H480.out.cell 0 rfl 0 rfl) (by omega) H480.out.size ?_
                intro v485 k484 ho hg hv
                have H483 := hid (H480.out.append 5 rfl ho hg hv)
                clear hg hv
                obtain ⟨lv485, qv485⟩ : ∃ l, l = sl ++ [x37 + x40] := ⟨_, rfl⟩
                rw [← qv485] at H483 ho
                have Qv485 := hid qv485
                clear qv485
                obtain ⟨v485a, v485c, hva, _⟩ := ho.slc
                subst hva
                clear ho
                refine hK.out _ _ ?_ (fun hHeld2 => ?_)
                focus ((try dsimp only); (exact (Sx.cons (fun _ => H483.out.cell 6 rfl 3 rfl) (Sx.cons (fun _ => H483.out.cell 7 rfl 3 rfl) (Sx.cons (fun _ => H483.out.cell 8 rfl 3 rfl) (Sx.nil _ _))))))
                clear hK K
                try simp only [Act.put, p1, p2, p3, p4, p5, p6]
                clear hHeld
                have hHeld := hHeld2
                clear hHeld2
                try simp only [Act.put, p1, p2, p3, p4, p5, p6] at hHeld
                refine wpAnyG_ready (rs := [18]) (by kernel_rfl) (by simp) (AllReadyG.cons (o := _) rfl (fun K hK => ?_) AllReadyG.nil)
                have z486 := H483.out.cell 6 rfl 0 rfl
                have z487 := H483.out.free 6 rfl 0
                have z488 := H483.out.cell 6 rfl 1 rfl
                have z489 := H483.out.free 6 rfl 1
                have z490 := H483.out.cell 6 rfl 2 rfl
                have z491 := H483.out.free 6 rfl 2
                have z492 := H483.out.cell 6 rfl 3 rfl
                have z493 := H483.out.free 6 rfl 3
                have H494 := hid (show St B W [.cells D474 #[.int .i64 (x37 + x40)] 3, .cells D390 #[.int .i64 x37] 3, .cells D387 #[.int .i64 x40] 3, .own (.slice v479a ((lv479).length) v479c) lv479, .own (.slice v482a ((lv482).length) v482c) lv482, .own (.slice v485a ((lv485).length) v485c) lv485, .cells D22 #[.int .i64 nw, .int .i64 nh, .int .i64 1000, .slice v479a ((lv479).length) v479c] 35, .cells (D22 + 1) #[.int .i64 nw, .int .i64 nh, .int .i64 1000, .slice qa qn qc] 35, .cells D25 #[.int .i64 nw, .int .i64 nh, .int .i64 1000, .slice sa sn sc] 35, .own (.slice la ln lc) ll, .tape K1] [] (k484.setCell ⟨D22, 3, none⟩ (.slice v479a ((lv479).length) v479c)) from (H483.out.set 6 rfl 3 (.slice v479a ((lv479).length) v479c)))
                go_simp
                refine hK.out _ _ ?_ (fun hHeld2 => ?_)
                focus ((try dsimp only); (exact (Sx.cons (fun h => Bool.noConfusion (h.symm.trans (by kernel_rfl) : false = true)) (Sx.cons (fun _ => H494.out.cell 7 rfl 3 rfl) (Sx.cons (fun _ => H494.out.cell 8 rfl 3 rfl) (Sx.nil _ _))))))
                clear hK K hHeld
                try simp only [Act.put, p1, p2, p3, p4, p5, p6]
                clear z486 z487 z488 z489 z490 z491 z492 z493
                generalize (k484.setCell ⟨D22, 3, none⟩ (.slice v479a ((lv479).length) v479c)) = k495 at *
                have hHeld := hHeld2
                clear hHeld2
                try simp only [Act.put, p1, p2, p3, p4, p5, p6] at hHeld
                refine tgP 19 hHeld (fun hHeld => ?_)
                try simp only [Act.put, p1, p2, p3, p4, p5, p6] at hHeld ⊢
                refine wpAnyG_ready (rs := [20]) (by kernel_rfl) (by simp) (AllReadyG.cons (o := _) rfl (fun K hK => ?_) AllReadyG.nil)
                have z496 := H494.out.cell 7 rfl 0 rfl
                have z497 := H494.out.free 7 rfl 0
                have z498 := H494.out.cell 7 rfl 1 rfl
                have z499 := H494.out.free 7 rfl 1
                have z500 := H494.out.cell 7 rfl 2 rfl
                have z501 := H494.out.free 7 rfl 2
                have z502 := H494.out.cell 7 rfl 3 rfl
                have z503 := H494.out.free 7 rfl 3
                have H504 := hid (show St B W [.cells D474 #[.int .i64 (x37 + x40)] 3, .cells D390 #[.int .i64 x37] 3, .cells D387 #[.int .i64 x40] 3, .own (.slice v479a ((lv479).length) v479c) lv479, .own (.slice v482a ((lv482).length) v482c) lv482, .own (.slice v485a ((lv485).length) v485c) lv485, .cells D22 #[.int .i64 nw, .int .i64 nh, .int .i64 1000, .slice v479a ((lv479).length) v479c] 35, .cells (D22 + 1) #[.int .i64 nw, .int .i64 nh, .int .i64 1000, .slice v482a ((lv482).length) v482c] 35, .cells D25 #[.int .i64 nw, .int .i64 nh, .int .i64 1000, .slice sa sn sc] 35, .own (.slice la ln lc) ll, .tape K1] [] (k495.setCell ⟨D22 + 1, 3, none⟩ (.slice v482a ((lv482).length) v482c)) from (H494.out.set 7 rfl 3 (.slice v482a ((lv482).length) v482c)))
                go_simp
                refine hK.out _ _ ?_ (fun hHeld2 => ?_)
                focus ((try dsimp only); (exact (Sx.cons (fun h => Bool.noConfusion (h.symm.trans (by kernel_rfl) : false = true)) (Sx.cons (fun h => Bool.noConfusion (h.symm.trans (by kernel_rfl) : false = true)) (Sx.cons (fun _ => H504.out.cell 8 rfl 3 rfl) (Sx.nil _ _))))))
                clear hK K hHeld
                try simp only [Act.put, p1, p2, p3, p4, p5, p6]
                clear z496 z497 z498 z499 z500 z501 z502 z503
                generalize (k495.setCell ⟨D22 + 1, 3, none⟩ (.slice v482a ((lv482).length) v482c)) = k505 at *
                have hHeld := hHeld2
                clear hHeld2
                try simp only [Act.put, p1, p2, p3, p4, p5, p6] at hHeld
                refine tgP 21 hHeld (fun hHeld => ?_)
                try simp only [Act.put, p1, p2, p3, p4, p5, p6] at hHeld ⊢
                refine wpAnyG_ready (rs := [22]) (by kernel_rfl) (by simp) (AllReadyG.cons (o := _) rfl (fun K hK => ?_) AllReadyG.nil)
                have z506 := H504.out.cell 8 rfl 0 rfl
                have z507 := H504.out.free 8 rfl 0
                have z508 := H504.out.cell 8 rfl 1 rfl
                have z509 := H504.out.free 8 rfl 1
                have z510 := H504.out.cell 8 rfl 2 rfl
                have z511 := H504.out.free 8 rfl 2
                have z512 := H504.out.cell 8 rfl 3 rfl
                have z513 := H504.out.free 8 rfl 3
                have H514 := hid (show St B W [.cells D474 #[.int .i64 (x37 + x40)] 3, .cells D390 #[.int .i64 x37] 3, .cells D387 #[.int .i64 x40] 3, .own (.slice v479a ((lv479).length) v479c) lv479, .own (.slice v482a ((lv482).length) v482c) lv482, .own (.slice v485a ((lv485).length) v485c) lv485, .cells D22 #[.int .i64 nw, .int .i64 nh, .int .i64 1000, .slice v479a ((lv479).length) v479c] 35, .cells (D22 + 1) #[.int .i64 nw, .int .i64 nh, .int .i64 1000, .slice v482a ((lv482).length) v482c] 35, .cells D25 #[.int .i64 nw, .int .i64 nh, .int .i64 1000, .slice v485a ((lv485).length) v485c] 35, .own (.slice la ln lc) ll, .tape K1] [] (k505.setCell ⟨D25, 3, none⟩ (.slice v485a ((lv485).length) v485c)) from (H504.out.set 8 rfl 3 (.slice v485a ((lv485).length) v485c)))
                go_simp
                refine hK.out _ _ ?_ (fun hHeld2 => ?_)
                focus ((try dsimp only); (exact (Sx.cons (fun h => Bool.noConfusion (h.symm.trans (by kernel_rfl) : false = true)) (Sx.cons (fun h => Bool.noConfusion (h.symm.trans (by kernel_rfl) : false = true)) (Sx.cons (fun h => Bool.noConfusion (h.symm.trans (by kernel_rfl) : false = true)) (Sx.nil _ _))))))
                clear hK K hHeld
                try simp only [Act.put, p1, p2, p3, p4, p5, p6]
                clear z506 z507 z508 z509 z510 z511 z512 z513
                generalize (k505.setCell ⟨D25, 3, none⟩ (.slice v485a ((lv485).length) v485c)) = k515 at *
                have hHeld := hHeld2
                clear hHeld2
                try simp only [Act.put, p1, p2, p3, p4, p5, p6] at hHeld
                refine wpAnyG_done (by kernel_rfl) ?_ _
                try clear hHeld
                clear wab hza hzb
                go_wp2_with fail
                go_roundw
                case rel => exact ⟨j + 1, _, _, _, _, _, _, _, _, _, _, _, _, by omega, by have := HPL.out; rw [Qv479.out]; simp; omega, by have := HQL.out; rw [Qv482.out]; simp; omega, by have := HSL.out; rw [Qv485.out]; simp; omega, by rw [Qv479.out]; exact in_app HPI.out HA.out (by omega), by rw [Qv482.out]; exact in_app HQI.out HB.out (by omega), by rw [Qv479.out, Qv482.out, Qv485.out]; exact app_sum _ _ (HPL.out.trans HSL.out.symm) (HQL.out.trans HSL.out.symm) HSI.out, by go_num, H514.out.pick [3, 4, 5, 6, 7, 8, 9, 10] rfl (by decide)⟩
                case measure => first | (simp [intOf]; omega) | (simp [intOf]; done)
            · obtain ⟨D516, hD516⟩ : ∃ D, k389.heap.size = D := ⟨_, rfl⟩
              have H517 := hid (H388.out.alloc #[.int .i64 (x37 + x40)] 3 hD516)
              go_simp
              refine hK.out _ _ ?_ (fun hHeld2 => ?_)
              focus ((try dsimp only); (exact (Sx.cons (fun _ => H517.out.cell 5 rfl 3 rfl) (Sx.cons (fun _ => H517.out.cell 6 rfl 3 rfl) (Sx.cons (fun _ => H517.out.cell 7 rfl 3 rfl) (Sx.nil _ _))))))
              clear hK K hHeld
              try simp only [Act.put, p1, p2, p3, p4, p5, p6]
              clear hD516
              generalize (k389.alloc (.cells #[.int .i64 (x37 + x40)] 3)) = k518 at *
              have hHeld := hHeld2
              clear hHeld2
              try simp only [Act.put, p1, p2, p3, p4, p5, p6] at hHeld
              refine wpAnyG_ready (rs := [3]) (by kernel_rfl) (by simp) (AllReadyG.cons (o := _) rfl (fun K hK => ?_) AllReadyG.nil)
              obtain ⟨D519, hD519⟩ : ∃ D, k518.heap.size = D := ⟨_, rfl⟩
              have H520 := hid (H517.out.alloc #[.int .i64 x37] 3 hD519)
              go_simp
              refine hK.out _ _ ?_ (fun hHeld2 => ?_)
              focus ((try dsimp only); (exact (Sx.cons (fun _ => H520.out.cell 6 rfl 3 rfl) (Sx.cons (fun _ => H520.out.cell 7 rfl 3 rfl) (Sx.cons (fun _ => H520.out.cell 8 rfl 3 rfl) (Sx.nil _ _))))))
              clear hK K hHeld
              try simp only [Act.put, p1, p2, p3, p4, p5, p6]
              clear hD519
              generalize (k518.alloc (.cells #[.int .i64 x37] 3)) = k521 at *
              have hHeld := hHeld2
              clear hHeld2
              try simp only [Act.put, p1, p2, p3, p4, p5, p6] at hHeld
              refine wpAnyG_ready (rs := [4]) (by kernel_rfl) (by simp) (AllReadyG.cons (o := _) rfl (fun K hK => ?_) AllReadyG.nil)
              rw [if_pos (by rfl)]
              refine oper_append_int _ _ rfl B _ pl x37 D519 1 rfl rfl (H520.out.own 3 rfl) (H520.out.cell 0 rfl 0 rfl) (by omega) H520.out.size ?_
              intro v524 k523 ho hg hv
              have H522 := hid (H520.out.append 3 rfl ho hg hv)
              clear hg hv
              obtain ⟨lv524, qv524⟩ : ∃ l, l = pl ++ [x37] := ⟨_, rfl⟩
              rw [← qv524] at H522 ho
              have Qv524 := hid qv524
              clear qv524
              obtain ⟨v524a, v524c, hva, _⟩ := ho.slc
              subst hva
              clear ho
              refine hK.out _ _ ?_ (fun hHeld2 => ?_)
              focus ((try dsimp only); (exact (Sx.cons (fun _ => H522.out.cell 6 rfl 3 rfl) (Sx.cons (fun _ => H522.out.cell 7 rfl 3 rfl) (Sx.cons (fun _ => H522.out.cell 8 rfl 3 rfl) (Sx.nil _ _))))))
              clear hK K
              try simp only [Act.put, p1, p2, p3, p4, p5, p6]
              clear hHeld
              have hHeld := hHeld2
              clear hHeld2
              try simp only [Act.put, p1, p2, p3, p4, p5, p6] at hHeld
              refine tgP 17 hHeld (fun hHeld => ?_)
              try simp only [Act.put, p1, p2, p3, p4, p5, p6] at hHeld ⊢
              refine wpAnyG_ready (rs := [9]) (by kernel_rfl) (by simp) (AllReadyG.cons (o := _) rfl (fun K hK => ?_) AllReadyG.nil)
              rw [if_pos (by rfl)]
              refine oper_append_int _ _ rfl B _ ql x40 D387 1 rfl rfl (H522.out.own 4 rfl) (H522.out.cell 2 rfl 0 rfl) (by omega) H522.out.size ?_
              intro v527 k526 ho hg hv
              have H525 := hid (H522.out.append 4 rfl ho hg hv)
              clear hg hv
              obtain ⟨lv527, qv527⟩ : ∃ l, l = ql ++ [x40] := ⟨_, rfl⟩
              rw [← qv527] at H525 ho
              have Qv527 := hid qv527
              clear qv527
              obtain ⟨v527a, v527c, hva, _⟩ := ho.slc
              subst hva
              clear ho
              refine hK.out _ _ ?_ (fun hHeld2 => ?_)
              focus ((try dsimp only); (exact (Sx.cons (fun _ => H525.out.cell 6 rfl 3 rfl) (Sx.cons (fun _ => H525.out.cell 7 rfl 3 rfl) (Sx.cons (fun _ => H525.out.cell 8 rfl 3 rfl) (Sx.nil _ _))))))
              clear hK K
              try simp only [Act.put, p1, p2, p3, p4, p5, p6]
              clear hHeld
              have hHeld := hHeld2
              clear hHeld2
              try simp only [Act.put, p1, p2, p3, p4, p5, p6] at hHeld
              refine wpAnyG_ready (rs := [16]) (by kernel_rfl) (by simp) (AllReadyG.cons (o := _) rfl (fun K hK => ?_) AllReadyG.nil)
              rw [if_pos (by rfl)]
              refine oper_append_int _ _ rfl B _ sl (x37 + x40) D516 1 rfl rfl (H525.out.own 5 rfl) (H525.out.cell 1 rfl 0 rfl) (by omega) H525.out.size ?_
              intro v530 k529 ho hg hv
              have H528 := hid (H525.out.append 5 rfl ho hg hv)
              clear hg hv
              obtain ⟨lv530, qv530⟩ : ∃ l, l = sl ++ [x37 + x40] := ⟨_, rfl⟩
              rw [← qv530] at H528 ho
              have Qv530 := hid qv530
              clear qv530
              obtain ⟨v530a, v530c, hva, _⟩ := ho.slc
              subst hva
              clear ho
              refine hK.out _ _ ?_ (fun hHeld2 => ?_)
              focus ((try dsimp only); (exact (Sx.cons (fun _ => H528.out.cell 6 rfl 3 rfl) (Sx.cons (fun _ => H528.out.cell 7 rfl 3 rfl) (Sx.cons (fun _ => H528.out.cell 8 rfl 3 rfl) (Sx.nil _ _))))))
              clear hK K
              try simp only [Act.put, p1, p2, p3, p4, p5, p6]
              clear hHeld
              have hHeld := hHeld2
              clear hHeld2
              try simp only [Act.put, p1, p2, p3, p4, p5, p6] at hHeld
              refine wpAnyG_ready (rs := [18]) (by kernel_rfl) (by simp) (AllReadyG.cons (o := _) rfl (fun K hK => ?_) AllReadyG.nil)
              have z531 := H528.out.cell 6 rfl 0 rfl
              have z532 := H528.out.free 6 rfl 0
              have z533 := H528.out.cell 6 rfl 1 rfl
              have z534 := H528.out.free 6 rfl 1
              have z535 := H528.out.cell 6 rfl 2 rfl
              have z536 := H528.out.free 6 rfl 2
              have z537 := H528.out.cell 6 rfl 3 rfl
              have z538 := H528.out.free 6 rfl 3
              have H539 := hid (show St B W [.cells D519 #[.int .i64 x37] 3, .cells D516 #[.int .i64 (x37 + x40)] 3, .cells D387 #[.int .i64 x40] 3, .own (.slice v524a ((lv524).length) v524c) lv524, .own (.slice v527a ((lv527).length) v527c) lv527, .own (.slice v530a ((lv530).length) v530c) lv530, .cells D22 #[.int .i64 nw, .int .i64 nh, .int .i64 1000, .slice v524a ((lv524).length) v524c] 35, .cells (D22 + 1) #[.int .i64 nw, .int .i64 nh, .int .i64 1000, .slice qa qn qc] 35, .cells D25 #[.int .i64 nw, .int .i64 nh, .int .i64 1000, .slice sa sn sc] 35, .own (.slice la ln lc) ll, .tape K1] [] (k529.setCell ⟨D22, 3, none⟩ (.slice v524a ((lv524).length) v524c)) from (H528.out.set 6 rfl 3 (.slice v524a ((lv524).length) v524c)))
              go_simp
              refine hK.out _ _ ?_ (fun hHeld2 => ?_)
              focus ((try dsimp only); (exact (Sx.cons (fun h => Bool.noConfusion (h.symm.trans (by kernel_rfl) : false = true)) (Sx.cons (fun _ => H539.out.cell 7 rfl 3 rfl) (Sx.cons (fun _ => H539.out.cell 8 rfl 3 rfl) (Sx.nil _ _))))))
              clear hK K hHeld
              try simp only [Act.put, p1, p2, p3, p4, p5, p6]
              clear z531 z532 z533 z534 z535 z536 z537 z538
              generalize (k529.setCell ⟨D22, 3, none⟩ (.slice v524a ((lv524).length) v524c)) = k540 at *
              have hHeld := hHeld2
              clear hHeld2
              try simp only [Act.put, p1, p2, p3, p4, p5, p6] at hHeld
              refine tgP 19 hHeld (fun hHeld => ?_)
              try simp only [Act.put, p1, p2, p3, p4, p5, p6] at hHeld ⊢
              refine wpAnyG_ready (rs := [20]) (by kernel_rfl) (by simp) (AllReadyG.cons (o := _) rfl (fun K hK => ?_) AllReadyG.nil)
              have z541 := H539.out.cell 7 rfl 0 rfl
              have z542 := H539.out.free 7 rfl 0
              have z543 := H539.out.cell 7 rfl 1 rfl
              have z544 := H539.out.free 7 rfl 1
              have z545 := H539.out.cell 7 rfl 2 rfl
              have z546 := H539.out.free 7 rfl 2
              have z547 := H539.out.cell 7 rfl 3 rfl
              have z548 := H539.out.free 7 rfl 3
              have H549 := hid (show St B W [.cells D519 #[.int .i64 x37] 3, .cells D516 #[.int .i64 (x37 + x40)] 3, .cells D387 #[.int .i64 x40] 3, .own (.slice v524a ((lv524).length) v524c) lv524, .own (.slice v527a ((lv527).length) v527c) lv527, .own (.slice v530a ((lv530).length) v530c) lv530, .cells D22 #[.int .i64 nw, .int .i64 nh, .int .i64 1000, .slice v524a ((lv524).length) v524c] 35, .cells (D22 + 1) #[.int .i64 nw, .int .i64 nh, .int .i64 1000, .slice v527a ((lv527).length) v527c] 35, .cells D25 #[.int .i64 nw, .int .i64 nh, .int .i64 1000, .slice sa sn sc] 35, .own (.slice la ln lc) ll, .tape K1] [] (k540.setCell ⟨D22 + 1, 3, none⟩ (.slice v527a ((lv527).length) v527c)) from (H539.out.set 7 rfl 3 (.slice v527a ((lv527).length) v527c)))
              go_simp
              refine hK.out _ _ ?_ (fun hHeld2 => ?_)
              focus ((try dsimp only); (exact (Sx.cons (fun h => Bool.noConfusion (h.symm.trans (by kernel_rfl) : false = true)) (Sx.cons (fun h => Bool.noConfusion (h.symm.trans (by kernel_rfl) : false = true)) (Sx.cons (fun _ => H549.out.cell 8 rfl 3 rfl) (Sx.nil _ _))))))
              clear hK K hHeld
              try simp only [Act.put, p1, p2, p3, p4, p5, p6]
              clear z541 z542 z543 z544 z545 z546 z547 z548
              generalize (k540.setCell ⟨D22 + 1, 3, none⟩ (.slice v527a ((lv527).length) v527c)) = k550 at *
              have hHeld := hHeld2
              clear hHeld2
              try simp only [Act.put, p1, p2, p3, p4, p5, p6] at hHeld
              refine tgP 21 hHeld (fun hHeld => ?_)
              try simp only [Act.put, p1, p2, p3, p4, p5, p6] at hHeld ⊢
              refine wpAnyG_ready (rs := [22]) (by kernel_rfl) (by simp) (AllReadyG.cons (o := _) rfl (fun K hK => ?_) AllReadyG.nil)
              have z551 := H549.out.cell 8 rfl 0 rfl
              have z552 := H549.out.free 8 rfl 0
              have z553 := H549.out.cell 8 rfl 1 rfl
              have z554 := H549.out.free 8 rfl 1
              have z555 := H549.out.cell 8 rfl 2 rfl
              have z556 := H549.out.free 8 rfl 2
              have z557 := H549.out.cell 8 rfl 3 rfl
              have z558 := H549.out.free 8 rfl 3
              have H559 := hid (show St B W [.cells D519 #[.int .i64 x37] 3, .cells D516 #[.int .i64 (x37 + x40)] 3, .cells D387 #[.int .i64 x40] 3, .own (.slice v524a ((lv524).length) v524c) lv524, .own (.slice v527a ((lv527).length) v527c) lv527, .own (.slice v530a ((lv530).length) v530c) lv530, .cells D22 #[.int .i64 nw, .int .i64 nh, .int .i64 1000, .slice v524a ((lv524).length) v524c] 35, .cells (D22 + 1) #[.int .i64 nw, .int .i64 nh, .int .i64 1000, .slice v527a ((lv527).length) v527c] 35, .cells D25 #[.int .i64 nw, .int .i64 nh, .int .i64 1000, .slice v530a ((lv530).length) v530c] 35, .own (.slice la ln lc) ll, .tape K1] [] (k550.setCell ⟨D25, 3, none⟩ (.slice v530a ((lv530).length) v530c)) from (H549.out.set 8 rfl 3 (.slice v530a ((lv530).length) v530c)))
              go_simp
              refine hK.out _ _ ?_ (fun hHeld2 => ?_)
              focus ((try dsimp only); (exact (Sx.cons (fun h => Bool.noConfusion (h.symm.trans (by kernel_rfl) : false = true)) (Sx.cons (fun h => Bool.noConfusion (h.symm.trans (by kernel_rfl) : false = true)) (Sx.cons (fun h => Bool.noConfusion (h.symm.trans (by kernel_rfl) : false = true)) (Sx.nil _ _))))))
              clear hK K hHeld
              try simp only [Act.put, p1, p2, p3, p4, p5, p6]
              clear z551 z552 z553 z554 z555 z556 z557 z558
              generalize (k550.setCell ⟨D25, 3, none⟩ (.slice v530a ((lv530).length) v530c)) = k560 at *
              have hHeld := hHeld2
              clear hHeld2
              try simp only [Act.put, p1, p2, p3, p4, p5, p6] at hHeld
              refine wpAnyG_done (by kernel_rfl) ?_ _
              try clear hHeld
              clear wab hza hzb
              go_wp2_with fail
              go_roundw
              case rel => exact ⟨j + 1, _, _, _, _, _, _, _, _, _, _, _, _, by omega, by have := HPL.out; rw [Qv524.out]; simp; omega, by have := HQL.out; rw [Qv527.out]; simp; omega, by have := HSL.out; rw [Qv530.out]; simp; omega, by rw [Qv524.out]; exact in_app HPI.out HA.out (by omega), by rw [Qv527.out]; exact in_app HQI.out HB.out (by omega), by rw [Qv524.out, Qv527.out, Qv530.out]; exact app_sum _ _ (HPL.out.trans HSL.out.symm) (HQL.out.trans HSL.out.symm) HSI.out, by go_num, H559.out.pick [3, 4, 5, 6, 7, 8, 9, 10] rfl (by decide)⟩
              case measure => first | (simp [intOf]; omega) | (simp [intOf]; done)
          · obtain ⟨D561, hD561⟩ : ∃ D, k44.heap.size = D := ⟨_, rfl⟩
            have H562 := hid (H43.out.alloc #[.int .i64 (x37 + x40)] 3 hD561)
            go_simp
            refine hK.out _ _ ?_ (fun hHeld2 => ?_)
            focus ((try dsimp only); (exact (Sx.cons (fun _ => H562.out.cell 4 rfl 3 rfl) (Sx.cons (fun _ => H562.out.cell 5 rfl 3 rfl) (Sx.cons (fun _ => H562.out.cell 6 rfl 3 rfl) (Sx.nil _ _))))))
            clear hK K hHeld
            try simp only [Act.put, p1, p2, p3, p4, p5, p6]
            clear hD561
            generalize (k44.alloc (.cells #[.int .i64 (x37 + x40)] 3)) = k563 at *
            have hHeld := hHeld2
            clear hHeld2
            try simp only [Act.put, p1, p2, p3, p4, p5, p6] at hHeld
            refine wpAnyG_ready (rs := [3, 8]) (by kernel_rfl) (by simp) (AllReadyG.cons (o := _) rfl (fun K hK => ?_) (AllReadyG.cons (o := _) rfl (fun K hK => ?_) AllReadyG.nil))
            · obtain ⟨D564, hD564⟩ : ∃ D, k563.heap.size = D := ⟨_, rfl⟩
              have H565 := hid (H562.out.alloc #[.int .i64 x37] 3 hD564)
              go_simp
              refine hK.out _ _ ?_ (fun hHeld2 => ?_)
              focus ((try dsimp only); (exact (Sx.cons (fun _ => H565.out.cell 5 rfl 3 rfl) (Sx.cons (fun _ => H565.out.cell 6 rfl 3 rfl) (Sx.cons (fun _ => H565.out.cell 7 rfl 3 rfl) (Sx.nil _ _))))))
              clear hK K hHeld
              try simp only [Act.put, p1, p2, p3, p4, p5, p6]
              clear hD564
              generalize (k563.alloc (.cells #[.int .i64 x37] 3)) = k566 at *
              have hHeld := hHeld2
              clear hHeld2
              try simp only [Act.put, p1, p2, p3, p4, p5, p6] at hHeld
              refine wpAnyG_ready (rs := [4, 8]) (by kernel_rfl) (by simp) (AllReadyG.cons (o := _) rfl (fun K hK => ?_) (AllReadyG.cons (o := _) rfl (fun K hK => ?_) AllReadyG.nil))
              · rw [if_pos (by rfl)]
                refine oper_append_int _ _ rfl B _ pl x37 D564 1 rfl rfl (H565.out.own 2 rfl) (H565.out.cell 0 rfl 0 rfl) (by omega) H565.out.size ?_
                intro v569 k568 ho hg hv
                have H567 := hid (H565.out.append 2 rfl ho hg hv)
                clear hg hv
                obtain ⟨lv569, qv569⟩ : ∃ l, l = pl ++ [x37] := ⟨_, rfl⟩
                rw [← qv569] at H567 ho
                have Qv569 := hid qv569
                clear qv569
                obtain ⟨v569a, v569c, hva, _⟩ := ho.slc
                subst hva
                clear ho
                refine hK.out _ _ ?_ (fun hHeld2 => ?_)
                focus ((try dsimp only); (exact (Sx.cons (fun _ => H567.out.cell 5 rfl 3 rfl) (Sx.cons (fun _ => H567.out.cell 6 rfl 3 rfl) (Sx.cons (fun _ => H567.out.cell 7 rfl 3 rfl) (Sx.nil _ _))))))
                clear hK K
                try simp only [Act.put, p1, p2, p3, p4, p5, p6]
                clear hHeld
                have hHeld := hHeld2
                clear hHeld2
                try simp only [Act.put, p1, p2, p3, p4, p5, p6] at hHeld
                refine tgP 17 hHeld (fun hHeld => ?_)
                try simp only [Act.put, p1, p2, p3, p4, p5, p6] at hHeld ⊢
                refine wpAnyG_ready (rs := [8]) (by kernel_rfl) (by simp) (AllReadyG.cons (o := _) rfl (fun K hK => ?_) AllReadyG.nil)
                obtain ⟨D570, hD570⟩ : ∃ D, k568.heap.size = D := ⟨_, rfl⟩
                have H571 := hid (H567.out.alloc #[.int .i64 x40] 3 hD570)
                go_simp
                refine hK.out _ _ ?_ (fun hHeld2 => ?_)
                focus ((try dsimp only); (exact (Sx.cons (fun _ => H571.out.cell 6 rfl 3 rfl) (Sx.cons (fun _ => H571.out.cell 7 rfl 3 rfl) (Sx.cons (fun _ => H571.out.cell 8 rfl 3 rfl) (Sx.nil _ _))))))
                clear hK K hHeld
                try simp only [Act.put, p1, p2, p3, p4, p5, p6]
                clear hD570
                generalize (k568.alloc (.cells #[.int .i64 x40] 3)) = k572 at *
                have hHeld := hHeld2
                clear hHeld2
                try simp only [Act.put, p1, p2, p3, p4, p5, p6] at hHeld
                refine wpAnyG_ready (rs := [9]) (by kernel_rfl) (by simp) (AllReadyG.cons (o := _) rfl (fun K hK => ?_) AllReadyG.nil)
                rw [if_pos (by rfl)]
                refine oper_append_int _ _ rfl B _ ql x40 D570 1 rfl rfl (H571.out.own 4 rfl) (H571.out.cell 0 rfl 0 rfl) (by omega) H571.out.size ?_
                intro v575 k574 ho hg hv
                have H573 := hid (H571.out.append 4 rfl ho hg hv)
                clear hg hv
                obtain ⟨lv575, qv575⟩ : ∃ l, l = ql ++ [x40] := ⟨_, rfl⟩
                rw [← qv575] at H573 ho
                have Qv575 := hid qv575
                clear qv575
                obtain ⟨v575a, v575c, hva, _⟩ := ho.slc
                subst hva
                clear ho
                refine hK.out _ _ ?_ (fun hHeld2 => ?_)
                focus ((try dsimp only); (exact (Sx.cons (fun _ => H573.out.cell 6 rfl 3 rfl) (Sx.cons (fun _ => H573.out.cell 7 rfl 3 rfl) (Sx.cons (fun _ => H573.out.cell 8 rfl 3 rfl) (Sx.nil _ _))))))
                clear hK K
                try simp only [Act.put, p1, p2, p3, p4, p5, p6]
                clear hHeld
                have hHeld := hHeld2
                clear hHeld2
                try simp only [Act.put, p1, p2, p3, p4, p5, p6] at hHeld
                refine wpAnyG_ready (rs := [16]) (by kernel_rfl) (by simp) (AllReadyG.cons (o := _) rfl (fun K hK => ?_) AllReadyG.nil)
                rw [if_pos (by rfl)]
                refine oper_append_int _ _ rfl B _ sl (x37 + x40) D561 1 rfl rfl (H573.out.own 5 rfl) (H573.out.cell 2 rfl 0 rfl) (by omega) H573.out.size ?_
                intro v578 k577 ho hg hv
                have H576 := hid (H573.out.append 5 rfl ho hg hv)
                clear hg hv
                obtain ⟨lv578, qv578⟩ : ∃ l, l = sl ++ [x37 + x40] := ⟨_, rfl⟩
                rw [← qv578] at H576 ho
                have Qv578 := hid qv578
                clear qv578
                obtain ⟨v578a, v578c, hva, _⟩ := ho.slc
                subst hva
                clear ho
                refine hK.out _ _ ?_ (fun hHeld2 => ?_)
                focus ((try dsimp only); (exact (Sx.cons (fun _ => H576.out.cell 6 rfl 3 rfl) (Sx.cons (fun _ => H576.out.cell 7 rfl 3 rfl) (Sx.cons (fun _ => H576.out.cell 8 rfl 3 rfl) (Sx.nil _ _))))))
                clear hK K
                try simp only [Act.put, p1, p2, p3, p4, p5, p6]
                clear hHeld
                have hHeld := hHeld2
                clear hHeld2
                try simp only [Act.put, p1, p2, p3, p4, p5, p6] at hHeld
                refine wpAnyG_ready (rs := [18]) (by kernel_rfl) (by simp) (AllReadyG.cons (o := _) rfl (fun K hK => ?_) AllReadyG.nil)
                have z579 := H576.out.cell 6 rfl 0 rfl
                have z580 := H576.out.free 6 rfl 0
                have z581 := H576.out.cell 6 rfl 1 rfl
                have z582 := H576.out.free 6 rfl 1
                have z583 := H576.out.cell 6 rfl 2 rfl
                have z584 := H576.out.free 6 rfl 2
                have z585 := H576.out.cell 6 rfl 3 rfl
                have z586 := H576.out.free 6 rfl 3
                have H587 := hid (show St B W [.cells D570 #[.int .i64 x40] 3, .cells D564 #[.int .i64 x37] 3, .cells D561 #[.int .i64 (x37 + x40)] 3, .own (.slice v569a ((lv569).length) v569c) lv569, .own (.slice v575a ((lv575).length) v575c) lv575, .own (.slice v578a ((lv578).length) v578c) lv578, .cells D22 #[.int .i64 nw, .int .i64 nh, .int .i64 1000, .slice v569a ((lv569).length) v569c] 35, .cells (D22 + 1) #[.int .i64 nw, .int .i64 nh, .int .i64 1000, .slice qa qn qc] 35, .cells D25 #[.int .i64 nw, .int .i64 nh, .int .i64 1000, .slice sa sn sc] 35, .own (.slice la ln lc) ll, .tape K1] [] (k577.setCell ⟨D22, 3, none⟩ (.slice v569a ((lv569).length) v569c)) from (H576.out.set 6 rfl 3 (.slice v569a ((lv569).length) v569c)))
                go_simp
                refine hK.out _ _ ?_ (fun hHeld2 => ?_)
                focus ((try dsimp only); (exact (Sx.cons (fun h => Bool.noConfusion (h.symm.trans (by kernel_rfl) : false = true)) (Sx.cons (fun _ => H587.out.cell 7 rfl 3 rfl) (Sx.cons (fun _ => H587.out.cell 8 rfl 3 rfl) (Sx.nil _ _))))))
                clear hK K hHeld
                try simp only [Act.put, p1, p2, p3, p4, p5, p6]
                clear z579 z580 z581 z582 z583 z584 z585 z586
                generalize (k577.setCell ⟨D22, 3, none⟩ (.slice v569a ((lv569).length) v569c)) = k588 at *
                have hHeld := hHeld2
                clear hHeld2
                try simp only [Act.put, p1, p2, p3, p4, p5, p6] at hHeld
                refine tgP 19 hHeld (fun hHeld => ?_)
                try simp only [Act.put, p1, p2, p3, p4, p5, p6] at hHeld ⊢
                refine wpAnyG_ready (rs := [20]) (by kernel_rfl) (by simp) (AllReadyG.cons (o := _) rfl (fun K hK => ?_) AllReadyG.nil)
                have z589 := H587.out.cell 7 rfl 0 rfl
                have z590 := H587.out.free 7 rfl 0
                have z591 := H587.out.cell 7 rfl 1 rfl
                have z592 := H587.out.free 7 rfl 1
                have z593 := H587.out.cell 7 rfl 2 rfl
                have z594 := H587.out.free 7 rfl 2
                have z595 := H587.out.cell 7 rfl 3 rfl
                have z596 := H587.out.free 7 rfl 3
                have H597 := hid (show St B W [.cells D570 #[.int .i64 x40] 3, .cells D564 #[.int .i64 x37] 3, .cells D561 #[.int .i64 (x37 + x40)] 3, .own (.slice v569a ((lv569).length) v569c) lv569, .own (.slice v575a ((lv575).length) v575c) lv575, .own (.slice v578a ((lv578).length) v578c) lv578, .cells D22 #[.int .i64 nw, .int .i64 nh, .int .i64 1000, .slice v569a ((lv569).length) v569c] 35, .cells (D22 + 1) #[.int .i64 nw, .int .i64 nh, .int .i64 1000, .slice v575a ((lv575).length) v575c] 35, .cells D25 #[.int .i64 nw, .int .i64 nh, .int .i64 1000, .slice sa sn sc] 35, .own (.slice la ln lc) ll, .tape K1] [] (k588.setCell ⟨D22 + 1, 3, none⟩ (.slice v575a ((lv575).length) v575c)) from (H587.out.set 7 rfl 3 (.slice v575a ((lv575).length) v575c)))
                go_simp
                refine hK.out _ _ ?_ (fun hHeld2 => ?_)
                focus ((try dsimp only); (exact (Sx.cons (fun h => Bool.noConfusion (h.symm.trans (by kernel_rfl) : false = true)) (Sx.cons (fun h => Bool.noConfusion (h.symm.trans (by kernel_rfl) : false = true)) (Sx.cons (fun _ => H597.out.cell 8 rfl 3 rfl) (Sx.nil _ _))))))
                clear hK K hHeld
                try simp only [Act.put, p1, p2, p3, p4, p5, p6]
                clear z589 z590 z591 z592 z593 z594 z595 z596
                generalize (k588.setCell ⟨D22 + 1, 3, none⟩ (.slice v575a ((lv575).length) v575c)) = k598 at *
                have hHeld := hHeld2
                clear hHeld2
                try simp only [Act.put, p1, p2, p3, p4, p5, p6] at hHeld
                refine tgP 21 hHeld (fun hHeld => ?_)
                try simp only [Act.put, p1, p2, p3, p4, p5, p6] at hHeld ⊢
                refine wpAnyG_ready (rs := [22]) (by kernel_rfl) (by simp) (AllReadyG.cons (o := _) rfl (fun K hK => ?_) AllReadyG.nil)
                have z599 := H597.out.cell 8 rfl 0 rfl
                have z600 := H597.out.free 8 rfl 0
                have z601 := H597.out.cell 8 rfl 1 rfl
                have z602 := H597.out.free 8 rfl 1
                have z603 := H597.out.cell 8 rfl 2 rfl
                have z604 := H597.out.free 8 rfl 2
                have z605 := H597.out.cell 8 rfl 3 rfl
                have z606 := H597.out.free 8 rfl 3
                have H607 := hid (show St B W [.cells D570 #[.int .i64 x40] 3, .cells D564 #[.int .i64 x37] 3, .cells D561 #[.int .i64 (x37 + x40)] 3, .own (.slice v569a ((lv569).length) v569c) lv569, .own (.slice v575a ((lv575).length) v575c) lv575, .own (.slice v578a ((lv578).length) v578c) lv578, .cells D22 #[.int .i64 nw, .int .i64 nh, .int .i64 1000, .slice v569a ((lv569).length) v569c] 35, .cells (D22 + 1) #[.int .i64 nw, .int .i64 nh, .int .i64 1000, .slice v575a ((lv575).length) v575c] 35, .cells D25 #[.int .i64 nw, .int .i64 nh, .int .i64 1000, .slice v578a ((lv578).length) v578c] 35, .own (.slice la ln lc) ll, .tape K1] [] (k598.setCell ⟨D25, 3, none⟩ (.slice v578a ((lv578).length) v578c)) from (H597.out.set 8 rfl 3 (.slice v578a ((lv578).length) v578c)))
                go_simp
                refine hK.out _ _ ?_ (fun hHeld2 => ?_)
                focus ((try dsimp only); (exact (Sx.cons (fun h => Bool.noConfusion (h.symm.trans (by kernel_rfl) : false = true)) (Sx.cons (fun h => Bool.noConfusion (h.symm.trans (by kernel_rfl) : false = true)) (Sx.cons (fun h => Bool.noConfusion (h.symm.trans (by kernel_rfl) : false = true)) (Sx.nil _ _))))))
                clear hK K hHeld
                try simp only [Act.put, p1, p2, p3, p4, p5, p6]
                clear z599 z600 z601 z602 z603 z604 z605 z606
                generalize (k598.setCell ⟨D25, 3, none⟩ (.slice v578a ((lv578).length) v578c)) = k608 at *
                have hHeld := hHeld2
                clear hHeld2
                try simp only [Act.put, p1, p2, p3, p4, p5, p6] at hHeld
                refine wpAnyG_done (by kernel_rfl) ?_ _
                try clear hHeld
                clear wab hza hzb
                go_wp2_with fail
                go_roundw
                case rel => exact ⟨j + 1, _, _, _, _, _, _, _, _, _, _, _, _, by omega, by have := HPL.out; rw [Qv569.out]; simp; omega, by have := HQL.out; rw [Qv575.out]; simp; omega, by have := HSL.out; rw [Qv578.out]; simp; omega, by rw [Qv569.out]; exact in_app HPI.out HA.out (by omega), by rw [Qv575.out]; exact in_app HQI.out HB.out (by omega), by rw [Qv569.out, Qv575.out, Qv578.out]; exact app_sum _ _ (HPL.out.trans HSL.out.symm) (HQL.out.trans HSL.out.symm) HSI.out, by go_num, H607.out.pick [3, 4, 5, 6, 7, 8, 9, 10] rfl (by decide)⟩
                case measure => first | (simp [intOf]; omega) | (simp [intOf]; done)
              · obtain ⟨D609, hD609⟩ : ∃ D, k566.heap.size = D := ⟨_, rfl⟩
                have H610 := hid (H565.out.alloc #[.int .i64 x40] 3 hD609)
                go_simp
                refine hK.out _ _ ?_ (fun hHeld2 => ?_)
                focus ((try dsimp only); (exact (Sx.cons (fun _ => H610.out.cell 6 rfl 3 rfl) (Sx.cons (fun _ => H610.out.cell 7 rfl 3 rfl) (Sx.cons (fun _ => H610.out.cell 8 rfl 3 rfl) (Sx.nil _ _))))))
                clear hK K hHeld
                try simp only [Act.put, p1, p2, p3, p4, p5, p6]
                clear hD609
                generalize (k566.alloc (.cells #[.int .i64 x40] 3)) = k611 at *
                have hHeld := hHeld2
                clear hHeld2
                try simp only [Act.put, p1, p2, p3, p4, p5, p6] at hHeld
                refine wpAnyG_ready (rs := [4]) (by kernel_rfl) (by simp) (AllReadyG.cons (o := _) rfl (fun K hK => ?_) AllReadyG.nil)
                rw [if_pos (by rfl)]
                refine oper_append_int _ _ rfl B _ pl x37 D564 1 rfl rfl (H610.out.own 3 rfl) (H610.out.cell 1 rfl 0 rfl) (by omega) H610.out.size ?_
                intro v614 k613 ho hg hv
                have H612 := hid (H610.out.append 3 rfl ho hg hv)
                clear hg hv
                obtain ⟨lv614, qv614⟩ : ∃ l, l = pl ++ [x37] := ⟨_, rfl⟩
                rw [← qv614] at H612 ho
                have Qv614 := hid qv614
                clear qv614
                obtain ⟨v614a, v614c, hva, _⟩ := ho.slc
                subst hva
                clear ho
                refine hK.out _ _ ?_ (fun hHeld2 => ?_)
                focus ((try dsimp only); (exact (Sx.cons (fun _ => H612.out.cell 6 rfl 3 rfl) (Sx.cons (fun _ => H612.out.cell 7 rfl 3 rfl) (Sx.cons (fun _ => H612.out.cell 8 rfl 3 rfl) (Sx.nil _ _))))))
                clear hK K
                try simp only [Act.put, p1, p2, p3, p4, p5, p6]
                clear hHeld
                have hHeld := hHeld2
                clear hHeld2
                try simp only [Act.put, p1, p2, p3, p4, p5, p6] at hHeld
                refine tgP 17 hHeld (fun hHeld => ?_)
                try simp only [Act.put, p1, p2, p3, p4, p5, p6] at hHeld ⊢
                refine wpAnyG_ready (rs := [9]) (by kernel_rfl) (by simp) (AllReadyG.cons (o := _) rfl (fun K hK => ?_) AllReadyG.nil)
                rw [if_pos (by rfl)]
                refine oper_append_int _ _ rfl B _ ql x40 D609 1 rfl rfl (H612.out.own 4 rfl) (H612.out.cell 0 rfl 0 rfl) (by omega) H612.out.size ?_
                intro v617 k616 ho hg hv
                have H615 := hid (H612.out.append 4 rfl ho hg hv)
                clear hg hv
                obtain ⟨lv617, qv617⟩ : ∃ l, l = ql ++ [x40] := ⟨_, rfl⟩
                rw [← qv617] at H615 ho
                have Qv617 := hid qv617
                clear qv617
                obtain ⟨v617a, v617c, hva, _⟩ := ho.slc
                subst hva
                clear ho
                refine hK.out _ _ ?_ (fun hHeld2 => ?_)
                focus ((try dsimp only); (exact (Sx.cons (fun _ => H615.out.cell 6 rfl 3 rfl) (Sx.cons (fun _ => H615.out.cell 7 rfl 3 rfl) (Sx.cons (fun _ => H615.out.cell 8 rfl 3 rfl) (Sx.nil _ _))))))
                clear hK K
                try simp only [Act.put, p1, p2, p3, p4, p5, p6]
                clear hHeld
                have hHeld := hHeld2
                clear hHeld2
                try simp only [Act.put, p1, p2, p3, p4, p5, p6] at hHeld
                refine wpAnyG_ready (rs := [16]) (by kernel_rfl) (by simp) (AllReadyG.cons (o := _) rfl (fun K hK => ?_) AllReadyG.nil)
                rw [if_pos (by rfl)]
                refine oper_append_int _ _ rfl B _ sl (x37 + x40) D561 1 rfl rfl (H615.out.own 5 rfl) (H615.out.cell 2 rfl 0 rfl) (by omega) H615.out.size ?_
                intro v620 k619 ho hg hv
                have H618 := hid (H615.out.append 5 rfl ho hg hv)
                clear hg hv
                obtain ⟨lv620, qv620⟩ : ∃ l, l = sl ++ [x37 + x40] := ⟨_, rfl⟩
                rw [← qv620] at H618 ho
                have Qv620 := hid qv620
                clear qv620
                obtain ⟨v620a, v620c, hva, _⟩ := ho.slc
                subst hva
                clear ho
                refine hK.out _ _ ?_ (fun hHeld2 => ?_)
                focus ((try dsimp only); (exact (Sx.cons (fun _ => H618.out.cell 6 rfl 3 rfl) (Sx.cons (fun _ => H618.out.cell 7 rfl 3 rfl) (Sx.cons (fun _ => H618.out.cell 8 rfl 3 rfl) (Sx.nil _ _))))))
                clear hK K
                try simp only [Act.put, p1, p2, p3, p4, p5, p6]
                clear hHeld
                have hHeld := hHeld2
                clear hHeld2
                try simp only [Act.put, p1, p2, p3, p4, p5, p6] at hHeld
                refine wpAnyG_ready (rs := [18]) (by kernel_rfl) (by simp) (AllReadyG.cons (o := _) rfl (fun K hK => ?_) AllReadyG.nil)
                have z621 := H618.out.cell 6 rfl 0 rfl
                have z622 := H618.out.free 6 rfl 0
                have z623 := H618.out.cell 6 rfl 1 rfl
                have z624 := H618.out.free 6 rfl 1
                have z625 := H618.out.cell 6 rfl 2 rfl
                have z626 := H618.out.free 6 rfl 2
                have z627 := H618.out.cell 6 rfl 3 rfl
                have z628 := H618.out.free 6 rfl 3
                have H629 := hid (show St B W [.cells D609 #[.int .i64 x40] 3, .cells D564 #[.int .i64 x37] 3, .cells D561 #[.int .i64 (x37 + x40)] 3, .own (.slice v614a ((lv614).length) v614c) lv614, .own (.slice v617a ((lv617).length) v617c) lv617, .own (.slice v620a ((lv620).length) v620c) lv620, .cells D22 #[.int .i64 nw, .int .i64 nh, .int .i64 1000, .slice v614a ((lv614).length) v614c] 35, .cells (D22 + 1) #[.int .i64 nw, .int .i64 nh, .int .i64 1000, .slice qa qn qc] 35, .cells D25 #[.int .i64 nw, .int .i64 nh, .int .i64 1000, .slice sa sn sc] 35, .own (.slice la ln lc) ll, .tape K1] [] (k619.setCell ⟨D22, 3, none⟩ (.slice v614a ((lv614).length) v614c)) from (H618.out.set 6 rfl 3 (.slice v614a ((lv614).length) v614c)))
                go_simp
                refine hK.out _ _ ?_ (fun hHeld2 => ?_)
                focus ((try dsimp only); (exact (Sx.cons (fun h => Bool.noConfusion (h.symm.trans (by kernel_rfl) : false = true)) (Sx.cons (fun _ => H629.out.cell 7 rfl 3 rfl) (Sx.cons (fun _ => H629.out.cell 8 rfl 3 rfl) (Sx.nil _ _))))))
                clear hK K hHeld
                try simp only [Act.put, p1, p2, p3, p4, p5, p6]
                clear z621 z622 z623 z624 z625 z626 z627 z628
                generalize (k619.setCell ⟨D22, 3, none⟩ (.slice v614a ((lv614).length) v614c)) = k630 at *
                have hHeld := hHeld2
                clear hHeld2
                try simp only [Act.put, p1, p2, p3, p4, p5, p6] at hHeld
                refine tgP 19 hHeld (fun hHeld => ?_)
                try simp only [Act.put, p1, p2, p3, p4, p5, p6] at hHeld ⊢
                refine wpAnyG_ready (rs := [20]) (by kernel_rfl) (by simp) (AllReadyG.cons (o := _) rfl (fun K hK => ?_) AllReadyG.nil)
                have z631 := H629.out.cell 7 rfl 0 rfl
                have z632 := H629.out.free 7 rfl 0
                have z633 := H629.out.cell 7 rfl 1 rfl
                have z634 := H629.out.free 7 rfl 1
                have z635 := H629.out.cell 7 rfl 2 rfl
                have z636 := H629.out.free 7 rfl 2
                have z637 := H629.out.cell 7 rfl 3 rfl
                have z638 := H629.out.free 7 rfl 3
                have H639 := hid (show St B W [.cells D609 #[.int .i64 x40] 3, .cells D564 #[.int .i64 x37] 3, .cells D561 #[.int .i64 (x37 + x40)] 3, .own (.slice v614a ((lv614).length) v614c) lv614, .own (.slice v617a ((lv617).length) v617c) lv617, .own (.slice v620a ((lv620).length) v620c) lv620, .cells D22 #[.int .i64 nw, .int .i64 nh, .int .i64 1000, .slice v614a ((lv614).length) v614c] 35, .cells (D22 + 1) #[.int .i64 nw, .int .i64 nh, .int .i64 1000, .slice v617a ((lv617).length) v617c] 35, .cells D25 #[.int .i64 nw, .int .i64 nh, .int .i64 1000, .slice sa sn sc] 35, .own (.slice la ln lc) ll, .tape K1] [] (k630.setCell ⟨D22 + 1, 3, none⟩ (.slice v617a ((lv617).length) v617c)) from (H629.out.set 7 rfl 3 (.slice v617a ((lv617).length) v617c)))
                go_simp
                refine hK.out _ _ ?_ (fun hHeld2 => ?_)
                focus ((try dsimp only); (exact (Sx.cons (fun h => Bool.noConfusion (h.symm.trans (by kernel_rfl) : false = true)) (Sx.cons (fun h => Bool.noConfusion (h.symm.trans (by kernel_rfl) : false = true)) (Sx.cons (fun _ => H639.out.cell 8 rfl 3 rfl) (Sx.nil _ _))))))
                clear hK K hHeld
                try simp only [Act.put, p1, p2, p3, p4, p5, p6]
                clear z631 z632 z633 z634 z635 z636 z637 z638
                generalize (k630.setCell ⟨D22 + 1, 3, none⟩ (.slice v617a ((lv617).length) v617c)) = k640 at *
                have hHeld := hHeld2
                clear hHeld2
                try simp only [Act.put, p1, p2, p3, p4, p5, p6] at hHeld
                refine tgP 21 hHeld (fun hHeld => ?_)
                try simp only [Act.put, p1, p2, p3, p4, p5, p6] at hHeld ⊢
                refine wpAnyG_ready (rs := [22]) (by kernel_rfl) (by simp) (AllReadyG.cons (o := _) rfl (fun K hK => ?_) AllReadyG.nil)
                have z641 := H639.out.cell 8 rfl 0 rfl
                have z642 := H639.out.free 8 rfl 0
                have z643 := H639.out.cell 8 rfl 1 rfl
                have z644 := H639.out.free 8 rfl 1
                have z645 := H639.out.cell 8 rfl 2 rfl
                have z646 := H639.out.free 8 rfl 2
                have z647 := H639.out.cell 8 rfl 3 rfl
                have z648 := H639.out.free 8 rfl 3
                have H649 := hid (show St B W [.cells D609 #[.int .i64 x40] 3, .cells D564 #[.int .i64 x37] 3, .cells D561 #[.int .i64 (x37 + x40)] 3, .own (.slice v614a ((lv614).length) v614c) lv614, .own (.slice v617a ((lv617).length) v617c) lv617, .own (.slice v620a ((lv620).length) v620c) lv620, .cells D22 #[.int .i64 nw, .int .i64 nh, .int .i64 1000, .slice v614a ((lv614).length) v614c] 35, .cells (D22 + 1) #[.int .i64 nw, .int .i64 nh, .int .i64 1000, .slice v617a ((lv617).length) v617c] 35, .cells D25 #[.int .i64 nw, .int .i64 nh, .int .i64 1000, .slice v620a ((lv620).length) v620c] 35, .own (.slice la ln lc) ll, .tape K1] [] (k640.setCell ⟨D25, 3, none⟩ (.slice v620a ((lv620).length) v620c)) from (H639.out.set 8 rfl 3 (.slice v620a ((lv620).length) v620c)))
                go_simp
                refine hK.out _ _ ?_ (fun hHeld2 => ?_)
                focus ((try dsimp only); (exact (Sx.cons (fun h => Bool.noConfusion (h.symm.trans (by kernel_rfl) : false = true)) (Sx.cons (fun h => Bool.noConfusion (h.symm.trans (by kernel_rfl) : false = true)) (Sx.cons (fun h => Bool.noConfusion (h.symm.trans (by kernel_rfl) : false = true)) (Sx.nil _ _))))))
                clear hK K hHeld
                try simp only [Act.put, p1, p2, p3, p4, p5, p6]
                clear z641 z642 z643 z644 z645 z646 z647 z648
                generalize (k640.setCell ⟨D25, 3, none⟩ (.slice v620a ((lv620).length) v620c)) = k650 at *
                have hHeld := hHeld2
                clear hHeld2
                try simp only [Act.put, p1, p2, p3, p4, p5, p6] at hHeld
                refine wpAnyG_done (by kernel_rfl) ?_ _
                try clear hHeld
                clear wab hza hzb
                go_wp2_with fail
                go_roundw
                case rel => exact ⟨j + 1, _, _, _, _, _, _, _, _, _, _, _, _, by omega, by have := HPL.out; rw [Qv614.out]; simp; omega, by have := HQL.out; rw [Qv617.out]; simp; omega, by have := HSL.out; rw [Qv620.out]; simp; omega, by rw [Qv614.out]; exact in_app HPI.out HA.out (by omega), by rw [Qv617.out]; exact in_app HQI.out HB.out (by omega), by rw [Qv614.out, Qv617.out, Qv620.out]; exact app_sum _ _ (HPL.out.trans HSL.out.symm) (HQL.out.trans HSL.out.symm) HSI.out, by go_num, H649.out.pick [3, 4, 5, 6, 7, 8, 9, 10] rfl (by decide)⟩
                case measure => first | (simp [intOf]; omega) | (simp [intOf]; done)
            · obtain ⟨D651, hD651⟩ : ∃ D, k563.heap.size = D := ⟨_, rfl⟩
              have H652 := hid (H562.out.alloc #[.int .i64 x40] 3 hD651)
              go_simp
              refine hK.out _ _ ?_ (fun hHeld2 => ?_)
              focus ((try dsimp only); (exact (Sx.cons (fun _ => H652.out.cell 5 rfl 3 rfl) (Sx.cons (fun _ => H652.out.cell 6 rfl 3 rfl) (Sx.cons (fun _ => H652.out.cell 7 rfl 3 rfl) (Sx.nil _ _))))))
              clear hK K hHeld
              try simp only [Act.put, p1, p2, p3, p4, p5, p6]
              clear hD651
              generalize (k563.alloc (.cells #[.int .i64 x40] 3)) = k653 at *
              have hHeld := hHeld2
              clear hHeld2
              try simp only [Act.put, p1, p2, p3, p4, p5, p6] at hHeld
              refine wpAnyG_ready (rs := [3]) (by kernel_rfl) (by simp) (AllReadyG.cons (o := _) rfl (fun K hK => ?_) AllReadyG.nil)
              obtain ⟨D654, hD654⟩ : ∃ D, k653.heap.size = D := ⟨_, rfl⟩
              have H655 := hid (H652.out.alloc #[.int .i64 x37] 3 hD654)
              go_simp
              refine hK.out _ _ ?_ (fun hHeld2 => ?_)
              focus ((try dsimp only); (exact (Sx.cons (fun _ => H655.out.cell 6 rfl 3 rfl) (Sx.cons (fun _ => H655.out.cell 7 rfl 3 rfl) (Sx.cons (fun _ => H655.out.cell 8 rfl 3 rfl) (Sx.nil _ _))))))
              clear hK K hHeld
              try simp only [Act.put, p1, p2, p3, p4, p5, p6]
              clear hD654
              generalize (k653.alloc (.cells #[.int .i64 x37] 3)) = k656 at *
              have hHeld := hHeld2
              clear hHeld2
              try simp only [Act.put, p1, p2, p3, p4, p5, p6] at hHeld
              refine wpAnyG_ready (rs := [4]) (by kernel_rfl) (by simp) (AllReadyG.cons (o := _) rfl (fun K hK => ?_) AllReadyG.nil)
              rw [if_pos (by rfl)]
              refine oper_append_int _ _ rfl B _ pl x37 D654 1 rfl rfl (H655.out.own 3 rfl) (H655.out.cell 0 rfl 0 rfl) (by omega) H655.out.size ?_
              intro v659 k658 ho hg hv
              have H657 := hid (H655.out.append 3 rfl ho hg hv)
              clear hg hv
              obtain ⟨lv659, qv659⟩ : ∃ l, l = pl ++ [x37] := ⟨_, rfl⟩
              rw [← qv659] at H657 ho
              have Qv659 := hid qv659
              clear qv659
              obtain ⟨v659a, v659c, hva, _⟩ := ho.slc
              subst hva
              clear ho
              refine hK.out _ _ ?_ (fun hHeld2 => ?_)
              focus ((try dsimp only); (exact (Sx.cons (fun _ => H657.out.cell 6 rfl 3 rfl) (Sx.cons (fun _ => H657.out.cell 7 rfl 3 rfl) (Sx.cons (fun _ => H657.out.cell 8 rfl 3 rfl) (Sx.nil _ _))))))
              clear hK K
              try simp only [Act.put, p1, p2, p3, p4, p5, p6]
              clear hHeld
              have hHeld := hHeld2
              clear hHeld2
              try simp only [Act.put, p1, p2, p3, p4, p5, p6] at hHeld
              refine tgP 17 hHeld (fun hHeld => ?_)
              try simp only [Act.put, p1, p2, p3, p4, p5, p6] at hHeld ⊢
              refine wpAnyG_ready (rs := [9]) (by kernel_rfl) (by simp) (AllReadyG.cons (o := _) rfl (fun K hK => ?_) AllReadyG.nil)
              rw [if_pos (by rfl)]
              refine oper_append_int _ _ rfl B _ ql x40 D651 1 rfl rfl (H657.out.own 4 rfl) (H657.out.cell 1 rfl 0 rfl) (by omega) H657.out.size ?_
              intro v662 k661 ho hg hv
              have H660 := hid (H657.out.append 4 rfl ho hg hv)
              clear hg hv
              obtain ⟨lv662, qv662⟩ : ∃ l, l = ql ++ [x40] := ⟨_, rfl⟩
              rw [← qv662] at H660 ho
              have Qv662 := hid qv662
              clear qv662
              obtain ⟨v662a, v662c, hva, _⟩ := ho.slc
              subst hva
              clear ho
              refine hK.out _ _ ?_ (fun hHeld2 => ?_)
              focus ((try dsimp only); (exact (Sx.cons (fun _ => H660.out.cell 6 rfl 3 rfl) (Sx.cons (fun _ => H660.out.cell 7 rfl 3 rfl) (Sx.cons (fun _ => H660.out.cell 8 rfl 3 rfl) (Sx.nil _ _))))))
              clear hK K
              try simp only [Act.put, p1, p2, p3, p4, p5, p6]
              clear hHeld
              have hHeld := hHeld2
              clear hHeld2
              try simp only [Act.put, p1, p2, p3, p4, p5, p6] at hHeld
              refine wpAnyG_ready (rs := [16]) (by kernel_rfl) (by simp) (AllReadyG.cons (o := _) rfl (fun K hK => ?_) AllReadyG.nil)
              rw [if_pos (by rfl)]
              refine oper_append_int _ _ rfl B _ sl (x37 + x40) D561 1 rfl rfl (H660.out.own 5 rfl) (H660.out.cell 2 rfl 0 rfl) (by omega) H660.out.size ?_
              intro v665 k664 ho hg hv
              have H663 := hid (H660.out.append 5 rfl ho hg hv)
              clear hg hv
              obtain ⟨lv665, qv665⟩ : ∃ l, l = sl ++ [x37 + x40] := ⟨_, rfl⟩
              rw [← qv665] at H663 ho
              have Qv665 := hid qv665
              clear qv665
              obtain ⟨v665a, v665c, hva, _⟩ := ho.slc
              subst hva
              clear ho
              refine hK.out _ _ ?_ (fun hHeld2 => ?_)
              focus ((try dsimp only); (exact (Sx.cons (fun _ => H663.out.cell 6 rfl 3 rfl) (Sx.cons (fun _ => H663.out.cell 7 rfl 3 rfl) (Sx.cons (fun _ => H663.out.cell 8 rfl 3 rfl) (Sx.nil _ _))))))
              clear hK K
              try simp only [Act.put, p1, p2, p3, p4, p5, p6]
              clear hHeld
              have hHeld := hHeld2
              clear hHeld2
              try simp only [Act.put, p1, p2, p3, p4, p5, p6] at hHeld
              refine wpAnyG_ready (rs := [18]) (by kernel_rfl) (by simp) (AllReadyG.cons (o := _) rfl (fun K hK => ?_) AllReadyG.nil)
              have z666 := H663.out.cell 6 rfl 0 rfl
              have z667 := H663.out.free 6 rfl 0
              have z668 := H663.out.cell 6 rfl 1 rfl
              have z669 := H663.out.free 6 rfl 1
              have z670 := H663.out.cell 6 rfl 2 rfl
              have z671 := H663.out.free 6 rfl 2
              have z672 := H663.out.cell 6 rfl 3 rfl
              have z673 := H663.out.free 6 rfl 3
              have H674 := hid (show St B W [.cells D654 #[.int .i64 x37] 3, .cells D651 #[.int .i64 x40] 3, .cells D561 #[.int .i64 (x37 + x40)] 3, .own (.slice v659a ((lv659).length) v659c) lv659, .own (.slice v662a ((lv662).length) v662c) lv662, .own (.slice v665a ((lv665).length) v665c) lv665, .cells D22 #[.int .i64 nw, .int .i64 nh, .int .i64 1000, .slice v659a ((lv659).length) v659c] 35, .cells (D22 + 1) #[.int .i64 nw, .int .i64 nh, .int .i64 1000, .slice qa qn qc] 35, .cells D25 #[.int .i64 nw, .int .i64 nh, .int .i64 1000, .slice sa sn sc] 35, .own (.slice la ln lc) ll, .tape K1] [] (k664.setCell ⟨D22, 3, none⟩ (.slice v659a ((lv659).length) v659c)) from (H663.out.set 6 rfl 3 (.slice v659a ((lv659).length) v659c)))
              go_simp
              refine hK.out _ _ ?_ (fun hHeld2 => ?_)
              focus ((try dsimp only); (exact (Sx.cons (fun h => Bool.noConfusion (h.symm.trans (by kernel_rfl) : false = true)) (Sx.cons (fun _ => H674.out.cell 7 rfl 3 rfl) (Sx.cons (fun _ => H674.out.cell 8 rfl 3 rfl) (Sx.nil _ _))))))
              clear hK K hHeld
              try simp only [Act.put, p1, p2, p3, p4, p5, p6]
              clear z666 z667 z668 z669 z670 z671 z672 z673
              generalize (k664.setCell ⟨D22, 3, none⟩ (.slice v659a ((lv659).length) v659c)) = k675 at *
              have hHeld := hHeld2
              clear hHeld2
              try simp only [Act.put, p1, p2, p3, p4, p5, p6] at hHeld
              refine tgP 19 hHeld (fun hHeld => ?_)
              try simp only [Act.put, p1, p2, p3, p4, p5, p6] at hHeld ⊢
              refine wpAnyG_ready (rs := [20]) (by kernel_rfl) (by simp) (AllReadyG.cons (o := _) rfl (fun K hK => ?_) AllReadyG.nil)
              have z676 := H674.out.cell 7 rfl 0 rfl
              have z677 := H674.out.free 7 rfl 0
              have z678 := H674.out.cell 7 rfl 1 rfl
              have z679 := H674.out.free 7 rfl 1
              have z680 := H674.out.cell 7 rfl 2 rfl
              have z681 := H674.out.free 7 rfl 2
              have z682 := H674.out.cell 7 rfl 3 rfl
              have z683 := H674.out.free 7 rfl 3
              have H684 := hid (show St B W [.cells D654 #[.int .i64 x37] 3, .cells D651 #[.int .i64 x40] 3, .cells D561 #[.int .i64 (x37 + x40)] 3, .own (.slice v659a ((lv659).length) v659c) lv659, .own (.slice v662a ((lv662).length) v662c) lv662, .own (.slice v665a ((lv665).length) v665c) lv665, .cells D22 #[.int .i64 nw, .int .i64 nh, .int .i64 1000, .slice v659a ((lv659).length) v659c] 35, .cells (D22 + 1) #[.int .i64 nw, .int .i64 nh, .int .i64 1000, .slice v662a ((lv662).length) v662c] 35, .cells D25 #[.int .i64 nw, .int .i64 nh, .int .i64 1000, .slice sa sn sc] 35, .own (.slice la ln lc) ll, .tape K1] [] (k675.setCell ⟨D22 + 1, 3, none⟩ (.slice v662a ((lv662).length) v662c)) from (H674.out.set 7 rfl 3 (.slice v662a ((lv662).length) v662c)))
              go_simp
              refine hK.out _ _ ?_ (fun hHeld2 => ?_)
              focus ((try dsimp only); (exact (Sx.cons (fun h => Bool.noConfusion (h.symm.trans (by kernel_rfl) : false = true)) (Sx.cons (fun h => Bool.noConfusion (h.symm.trans (by kernel_rfl) : false = true)) (Sx.cons (fun _ => H684.out.cell 8 rfl 3 rfl) (Sx.nil _ _))))))
              clear hK K hHeld
              try simp only [Act.put, p1, p2, p3, p4, p5, p6]
              clear z676 z677 z678 z679 z680 z681 z682 z683
              generalize (k675.setCell ⟨D22 + 1, 3, none⟩ (.slice v662a ((lv662).length) v662c)) = k685 at *
              have hHeld := hHeld2
              clear hHeld2
              try simp only [Act.put, p1, p2, p3, p4, p5, p6] at hHeld
              refine tgP 21 hHeld (fun hHeld => ?_)
              try simp only [Act.put, p1, p2, p3, p4, p5, p6] at hHeld ⊢
              refine wpAnyG_ready (rs := [22]) (by kernel_rfl) (by simp) (AllReadyG.cons (o := _) rfl (fun K hK => ?_) AllReadyG.nil)
              have z686 := H684.out.cell 8 rfl 0 rfl
              have z687 := H684.out.free 8 rfl 0
              have z688 := H684.out.cell 8 rfl 1 rfl
              have z689 := H684.out.free 8 rfl 1
              have z690 := H684.out.cell 8 rfl 2 rfl
              have z691 := H684.out.free 8 rfl 2
              have z692 := H684.out.cell 8 rfl 3 rfl
              have z693 := H684.out.free 8 rfl 3
              have H694 := hid (show St B W [.cells D654 #[.int .i64 x37] 3, .cells D651 #[.int .i64 x40] 3, .cells D561 #[.int .i64 (x37 + x40)] 3, .own (.slice v659a ((lv659).length) v659c) lv659, .own (.slice v662a ((lv662).length) v662c) lv662, .own (.slice v665a ((lv665).length) v665c) lv665, .cells D22 #[.int .i64 nw, .int .i64 nh, .int .i64 1000, .slice v659a ((lv659).length) v659c] 35, .cells (D22 + 1) #[.int .i64 nw, .int .i64 nh, .int .i64 1000, .slice v662a ((lv662).length) v662c] 35, .cells D25 #[.int .i64 nw, .int .i64 nh, .int .i64 1000, .slice v665a ((lv665).length) v665c] 35, .own (.slice la ln lc) ll, .tape K1] [] (k685.setCell ⟨D25, 3, none⟩ (.slice v665a ((lv665).length) v665c)) from (H684.out.set 8 rfl 3 (.slice v665a ((lv665).length) v665c)))
              go_simp
              refine hK.out _ _ ?_ (fun hHeld2 => ?_)
              focus ((try dsimp only); (exact (Sx.cons (fun h => Bool.noConfusion (h.symm.trans (by kernel_rfl) : false = true)) (Sx.cons (fun h => Bool.noConfusion (h.symm.trans (by kernel_rfl) : false = true)) (Sx.cons (fun h => Bool.noConfusion (h.symm.trans (by kernel_rfl) : false = true)) (Sx.nil _ _))))))
              clear hK K hHeld
              try simp only [Act.put, p1, p2, p3, p4, p5, p6]
              clear z686 z687 z688 z689 z690 z691 z692 z693
              generalize (k685.setCell ⟨D25, 3, none⟩ (.slice v665a ((lv665).length) v665c)) = k695 at *
              have hHeld := hHeld2
              clear hHeld2
              try simp only [Act.put, p1, p2, p3, p4, p5, p6] at hHeld
              refine wpAnyG_done (by kernel_rfl) ?_ _
              try clear hHeld
              clear wab hza hzb
              go_wp2_with fail
              go_roundw
              case rel => exact ⟨j + 1, _, _, _, _, _, _, _, _, _, _, _, _, by omega, by have := HPL.out; rw [Qv659.out]; simp; omega, by have := HQL.out; rw [Qv662.out]; simp; omega, by have := HSL.out; rw [Qv665.out]; simp; omega, by rw [Qv659.out]; exact in_app HPI.out HA.out (by omega), by rw [Qv662.out]; exact in_app HQI.out HB.out (by omega), by rw [Qv659.out, Qv662.out, Qv665.out]; exact app_sum _ _ (HPL.out.trans HSL.out.symm) (HQL.out.trans HSL.out.symm) HSI.out, by go_num, H694.out.pick [3, 4, 5, 6, 7, 8, 9, 10] rfl (by decide)⟩
              case measure => first | (simp [intOf]; omega) | (simp [intOf]; done)
        · skip
          have hjn' : ¬ ((j : Int) < NP) := by omega
          have HPN := hid (show pl.length = nw * nh from by rw [HPL.out, HNP.out]; omega)
          have HQN := hid (show ql.length = nw * nh from by rw [HQL.out, HNP.out]; omega)
          have HSN := hid (show sl.length = nw * nh from by rw [HSL.out, HNP.out]; omega)
          have HVpl := hid (lin_valid ⟨nw1, nw2⟩ ⟨nh1, nh2⟩ HPN.out (fun i => by have := HPI.out i; omega))
          have HVql := hid (lin_valid ⟨nw1, nw2⟩ ⟨nh1, nh2⟩ HQN.out (fun i => by have := HQI.out i; omega))
          have HVsl := hid (lin_valid ⟨nw1, nw2⟩ ⟨nh1, nh2⟩ HSN.out (fun i => by have := HPI.out i; have := HQI.out i; have := HSI.out i; omega))
          go_wp2_with fail
          refine (nextB_any B K1 _ _ (by omega) (H36.out.tapeAt 7 rfl)).mono ?_
          rintro e w697 ⟨x696, rfl, x696a, x696b, htn, hgn, hsn⟩
          have H698 := hid (H36.out.next 7 rfl htn hgn)
          clear htn hgn hsn
          obtain ⟨D699, hD699⟩ : ∃ D, w697.heap.size = D := ⟨_, rfl⟩
          go_upto_region 16 with fail
          have H700 := hid (show St B W [.cells D699 #[.int .i64 x696, .int .i64 0] 38, .own (.slice pa pn pc) pl, .own (.slice qa qn qc) ql, .own (.slice sa sn sc) sl, .cells D22 #[.int .i64 nw, .int .i64 nh, .int .i64 1000, .slice pa pn pc] 35, .cells (D22 + 1) #[.int .i64 nw, .int .i64 nh, .int .i64 1000, .slice qa qn qc] 35, .cells D25 #[.int .i64 nw, .int .i64 nh, .int .i64 1000, .slice sa sn sc] 35, .own (.slice la ln lc) ll, .tape K1] [] (w697.alloc (.cells #[.int .i64 x696, .int .i64 0] 38)) from (H698.out.alloc #[.int .i64 x696, .int .i64 0] 38 hD699))
          first | refine gen_code H700.out ?_ | refine gen_list H700.out ?_ | refine gen_calls H700.out ?_
          intro w701 hG
          clear H700
          have H700 := hid hG
          clear hG
          clear hD699
          obtain ⟨D702, hD702⟩ : ∃ D, w701.heap.size = D := ⟨_, rfl⟩
          go_upto_region 17 with fail
          have H703 := hid (show St B W [.cells D702 #[.int .i64 0, .int .i64 0, .int .i64 nw, .int .i64 nh] 33, .cells D699 #[.int .i64 x696, .int .i64 0] 38, .own (.slice pa pn pc) pl, .own (.slice qa qn qc) ql, .own (.slice sa sn sc) sl, .cells D22 #[.int .i64 nw, .int .i64 nh, .int .i64 1000, .slice pa pn pc] 35, .cells (D22 + 1) #[.int .i64 nw, .int .i64 nh, .int .i64 1000, .slice qa qn qc] 35, .cells D25 #[.int .i64 nw, .int .i64 nh, .int .i64 1000, .slice sa sn sc] 35, .own (.slice la ln lc) ll, .tape K1] [] (w701.alloc (.cells #[.int .i64 0, .int .i64 0, .int .i64 nw, .int .i64 nh] 33)) from (H700.out.alloc #[.int .i64 0, .int .i64 0, .int .i64 nw, .int .i64 nh] 33 hD702))
          first | refine gen_code H703.out ?_ | refine gen_list H703.out ?_ | refine gen_calls H703.out ?_
          intro w704 hG
          clear H703
          have H703 := hid hG
          clear hG
          clear hD702
          have z705 := H703.out.cell 5 rfl 0 rfl
          have z706 := H703.out.cell 5 rfl 1 rfl
          have z707 := H703.out.cell 5 rfl 2 rfl
          have z708 := H703.out.cell 5 rfl 3 rfl
          have z709 := H703.out.cell 1 rfl 0 rfl
          have z710 := H703.out.cell 1 rfl 1 rfl
          have z711 := H703.out.cell 0 rfl 0 rfl
          have z712 := H703.out.cell 0 rfl 1 rfl
          have z713 := H703.out.cell 0 rfl 2 rfl
          have z714 := H703.out.cell 0 rfl 3 rfl
          go_wp2_with fail
          clear z705 z706 z707 z708 z709 z710 z711 z712 z713 z714
          have hbv : bValid x696 0 1000 = true := by unfold bValid; rw [if_pos (by omega)]; rfl
          have hct := cvT_ok HVpl.out hbv (show cvCode 1000 3 3 ll 0 1000000 = 0 from cv_ok (by omega) (by omega) (by have := HLL.out; omega) (fun i _ => by have := HLI.out i; omega) (by omega) (by omega) (by omega)) (r0 := 0) (r1 := 0) (r2 := nw) (r3 := nh) (by omega)
          refine (ctile_any _ _ _ _ _ _ pl _ _ _ _ _ _ _ ll _ _ _ _ _ _ _ (H703.out.slc 2 rfl) (H703.out.slc 8 rfl)).mono ?_
          rintro e w715 ⟨v716, rfl, ho, hb⟩
          rw [hct] at ho ⊢
          simp only [tI, tL, if_pos] at ho ⊢
          clear hct hbv
          obtain ⟨l718, hl718⟩ : ∃ xx', cvL nw nh pl x696 0 3 3 ll 0 1000000 0 0 nw nh = xx' := ⟨_, rfl⟩
          rw [hl718] at ho
          have HNl718 := hid hl718
          clear hl718
          rw [Int.sub_zero, Int.sub_zero]
          have H717 := hid (H703.out.grow hb ho)
          obtain ⟨v716a, v716c, rfl, _⟩ := ho.slc
          clear ho hb
          have HLl718 := hid (show l718.length = NP from by rw [← HNl718.out, cvL_len]; exact HNP.out)
          have HLBl718 := hid (fun (i : Nat) (hi : i < nw * nh) => show 0 ≤ l718.getD i 0 ∧ l718.getD i 0 ≤ 1000000 from by rw [← HNl718.out]; exact cvL_bd _ _ _ _ _ _ _ (by omega) hi)
          obtain ⟨D719, hD719⟩ : ∃ D, w715.heap.size = D := ⟨_, rfl⟩
          go_upto_region 18 with fail
          have H720 := hid (show St B W [.cells D719 #[.int .i64 nw, .int .i64 nh, .int .i64 1000000, .slice v716a l718.length v716c] 35, .own (.slice v716a l718.length v716c) l718, .cells D702 #[.int .i64 0, .int .i64 0, .int .i64 nw, .int .i64 nh] 33, .cells D699 #[.int .i64 x696, .int .i64 0] 38, .own (.slice pa pn pc) pl, .own (.slice qa qn qc) ql, .own (.slice sa sn sc) sl, .cells D22 #[.int .i64 nw, .int .i64 nh, .int .i64 1000, .slice pa pn pc] 35, .cells (D22 + 1) #[.int .i64 nw, .int .i64 nh, .int .i64 1000, .slice qa qn qc] 35, .cells D25 #[.int .i64 nw, .int .i64 nh, .int .i64 1000, .slice sa sn sc] 35, .own (.slice la ln lc) ll, .tape K1] [] (w715.alloc (.cells #[.int .i64 nw, .int .i64 nh, .int .i64 1000000, .slice v716a l718.length v716c] 35)) from (H717.out.alloc #[.int .i64 nw, .int .i64 nh, .int .i64 1000000, .slice v716a l718.length v716c] 35 hD719))
          first | refine gen_code H720.out ?_ | refine gen_list H720.out ?_ | refine gen_calls H720.out ?_
          intro w721 hG
          clear H720
          have H720 := hid hG
          clear hG
          clear hD719
          have z722 := H720.out.cell 8 rfl 0 rfl
          have z723 := H720.out.cell 8 rfl 1 rfl
          have z724 := H720.out.cell 8 rfl 2 rfl
          have z725 := H720.out.cell 8 rfl 3 rfl
          have z726 := H720.out.cell 3 rfl 0 rfl
          have z727 := H720.out.cell 3 rfl 1 rfl
          have z728 := H720.out.cell 2 rfl 0 rfl
          have z729 := H720.out.cell 2 rfl 1 rfl
          have z730 := H720.out.cell 2 rfl 2 rfl
          have z731 := H720.out.cell 2 rfl 3 rfl
          go_wp2_with fail
          clear z722 z723 z724 z725 z726 z727 z728 z729 z730 z731
          have hbv : bValid x696 0 1000 = true := by unfold bValid; rw [if_pos (by omega)]; rfl
          have hct := cvT_ok HVql.out hbv (show cvCode 1000 3 3 ll 0 1000000 = 0 from cv_ok (by omega) (by omega) (by have := HLL.out; omega) (fun i _ => by have := HLI.out i; omega) (by omega) (by omega) (by omega)) (r0 := 0) (r1 := 0) (r2 := nw) (r3 := nh) (by omega)
          refine (ctile_any _ _ _ _ _ _ ql _ _ _ _ _ _ _ ll _ _ _ _ _ _ _ (H720.out.slc 5 rfl) (H720.out.slc 10 rfl)).mono ?_
          rintro e w732 ⟨v733, rfl, ho, hb⟩
          rw [hct] at ho ⊢
          simp only [tI, tL, if_pos] at ho ⊢
          clear hct hbv
          obtain ⟨l735, hl735⟩ : ∃ xx', cvL nw nh ql x696 0 3 3 ll 0 1000000 0 0 nw nh = xx' := ⟨_, rfl⟩
          rw [hl735] at ho
          have HNl735 := hid hl735
          clear hl735
          rw [Int.sub_zero, Int.sub_zero]
          have H734 := hid (H720.out.grow hb ho)
          obtain ⟨v733a, v733c, rfl, _⟩ := ho.slc
          clear ho hb
          have HLl735 := hid (show l735.length = NP from by rw [← HNl735.out, cvL_len]; exact HNP.out)
          have HLBl735 := hid (fun (i : Nat) (hi : i < nw * nh) => show 0 ≤ l735.getD i 0 ∧ l735.getD i 0 ≤ 1000000 from by rw [← HNl735.out]; exact cvL_bd _ _ _ _ _ _ _ (by omega) hi)
          obtain ⟨D736, hD736⟩ : ∃ D, w732.heap.size = D := ⟨_, rfl⟩
          go_upto_region 19 with fail
          have H737 := hid (show St B W [.cells D736 #[.int .i64 nw, .int .i64 nh, .int .i64 1000000, .slice v733a l735.length v733c] 35, .own (.slice v733a l735.length v733c) l735, .cells D719 #[.int .i64 nw, .int .i64 nh, .int .i64 1000000, .slice v716a l718.length v716c] 35, .own (.slice v716a l718.length v716c) l718, .cells D702 #[.int .i64 0, .int .i64 0, .int .i64 nw, .int .i64 nh] 33, .cells D699 #[.int .i64 x696, .int .i64 0] 38, .own (.slice pa pn pc) pl, .own (.slice qa qn qc) ql, .own (.slice sa sn sc) sl, .cells D22 #[.int .i64 nw, .int .i64 nh, .int .i64 1000, .slice pa pn pc] 35, .cells (D22 + 1) #[.int .i64 nw, .int .i64 nh, .int .i64 1000, .slice qa qn qc] 35, .cells D25 #[.int .i64 nw, .int .i64 nh, .int .i64 1000, .slice sa sn sc] 35, .own (.slice la ln lc) ll, .tape K1] [] (w732.alloc (.cells #[.int .i64 nw, .int .i64 nh, .int .i64 1000000, .slice v733a l735.length v733c] 35)) from (H734.out.alloc #[.int .i64 nw, .int .i64 nh, .int .i64 1000000, .slice v733a l735.length v733c] 35 hD736))
          first | refine gen_code H737.out ?_ | refine gen_list H737.out ?_ | refine gen_calls H737.out ?_
          intro w738 hG
          clear H737
          have H737 := hid hG
          clear hG
          clear hD736
          have z739 := H737.out.cell 11 rfl 0 rfl
          have z740 := H737.out.cell 11 rfl 1 rfl
          have z741 := H737.out.cell 11 rfl 2 rfl
          have z742 := H737.out.cell 11 rfl 3 rfl
          have z743 := H737.out.cell 5 rfl 0 rfl
          have z744 := H737.out.cell 5 rfl 1 rfl
          have z745 := H737.out.cell 4 rfl 0 rfl
          have z746 := H737.out.cell 4 rfl 1 rfl
          have z747 := H737.out.cell 4 rfl 2 rfl
          have z748 := H737.out.cell 4 rfl 3 rfl
          go_wp2_with fail
          clear z739 z740 z741 z742 z743 z744 z745 z746 z747 z748
          have hbv : bValid x696 0 1000 = true := by unfold bValid; rw [if_pos (by omega)]; rfl
          have hct := cvT_ok HVsl.out hbv (show cvCode 1000 3 3 ll 0 1000000 = 0 from cv_ok (by omega) (by omega) (by have := HLL.out; omega) (fun i _ => by have := HLI.out i; omega) (by omega) (by omega) (by omega)) (r0 := 0) (r1 := 0) (r2 := nw) (r3 := nh) (by omega)
          refine (ctile_any _ _ _ _ _ _ sl _ _ _ _ _ _ _ ll _ _ _ _ _ _ _ (H737.out.slc 8 rfl) (H737.out.slc 12 rfl)).mono ?_
          rintro e w749 ⟨v750, rfl, ho, hb⟩
          rw [hct] at ho ⊢
          simp only [tI, tL, if_pos] at ho ⊢
          clear hct hbv
          obtain ⟨l752, hl752⟩ : ∃ xx', cvL nw nh sl x696 0 3 3 ll 0 1000000 0 0 nw nh = xx' := ⟨_, rfl⟩
          rw [hl752] at ho
          have HNl752 := hid hl752
          clear hl752
          rw [Int.sub_zero, Int.sub_zero]
          have H751 := hid (H737.out.grow hb ho)
          obtain ⟨v750a, v750c, rfl, _⟩ := ho.slc
          clear ho hb
          have HLl752 := hid (show l752.length = NP from by rw [← HNl752.out, cvL_len]; exact HNP.out)
          have HLBl752 := hid (fun (i : Nat) (hi : i < nw * nh) => show 0 ≤ l752.getD i 0 ∧ l752.getD i 0 ≤ 1000000 from by rw [← HNl752.out]; exact cvL_bd _ _ _ _ _ _ _ (by omega) hi)
          obtain ⟨D753, hD753⟩ : ∃ D, w749.heap.size = D := ⟨_, rfl⟩
          go_upto_region 20 with fail
          have H754 := hid (show St B W [.cells D753 #[.int .i64 nw, .int .i64 nh, .int .i64 1000000, .slice v750a l752.length v750c] 35, .own (.slice v750a l752.length v750c) l752, .cells D736 #[.int .i64 nw, .int .i64 nh, .int .i64 1000000, .slice v733a l735.length v733c] 35, .own (.slice v733a l735.length v733c) l735, .cells D719 #[.int .i64 nw, .int .i64 nh, .int .i64 1000000, .slice v716a l718.length v716c] 35, .own (.slice v716a l718.length v716c) l718, .cells D702 #[.int .i64 0, .int .i64 0, .int .i64 nw, .int .i64 nh] 33, .cells D699 #[.int .i64 x696, .int .i64 0] 38, .own (.slice pa pn pc) pl, .own (.slice qa qn qc) ql, .own (.slice sa sn sc) sl, .cells D22 #[.int .i64 nw, .int .i64 nh, .int .i64 1000, .slice pa pn pc] 35, .cells (D22 + 1) #[.int .i64 nw, .int .i64 nh, .int .i64 1000, .slice qa qn qc] 35, .cells D25 #[.int .i64 nw, .int .i64 nh, .int .i64 1000, .slice sa sn sc] 35, .own (.slice la ln lc) ll, .tape K1] [] (w749.alloc (.cells #[.int .i64 nw, .int .i64 nh, .int .i64 1000000, .slice v750a l752.length v750c] 35)) from (H751.out.alloc #[.int .i64 nw, .int .i64 nh, .int .i64 1000000, .slice v750a l752.length v750c] 35 hD753))
          first | refine gen_code H754.out ?_ | refine gen_list H754.out ?_ | refine gen_calls H754.out ?_
          intro w755 hG
          clear H754
          have H754 := hid hG
          clear hG
          clear hD753
          obtain ⟨Dq, hDq⟩ : ∃ D, w755.heap.size = D := ⟨_, rfl⟩
          have zq0 := (H754.out.alloc #[.int .i64 1] 3 hDq).cell 7 rfl 0 rfl
          have zq1 := (H754.out.alloc #[.int .i64 1] 3 hDq).cell 7 rfl 1 rfl
          have zq2 := (H754.out.alloc #[.int .i64 1] 3 hDq).cell 7 rfl 2 rfl
          have zq3 := (H754.out.alloc #[.int .i64 1] 3 hDq).cell 7 rfl 3 rfl
          clear hDq
          obtain ⟨D756, hD756⟩ : ∃ D, w755.heap.size = D := ⟨_, rfl⟩
          have z757 := H754.out.cell 11 rfl 0 rfl
          have z758 := H754.out.cell 11 rfl 1 rfl
          have z759 := H754.out.cell 11 rfl 2 rfl
          have z760 := H754.out.cell 11 rfl 3 rfl
          have z761 := H754.out.cell 7 rfl 0 rfl
          have z762 := H754.out.cell 7 rfl 1 rfl
          have z763 := H754.out.cell 6 rfl 0 rfl
          have z764 := H754.out.cell 6 rfl 1 rfl
          have z765 := H754.out.cell 6 rfl 2 rfl
          have z766 := H754.out.cell 6 rfl 3 rfl
          go_wp2_with fail
          clear z757 z758 z759 z760 z761 z762 z763 z764 z765 z766
          have H767 := hid (show St B W [.cells D756 #[.int .i64 1] 3, .cells D753 #[.int .i64 nw, .int .i64 nh, .int .i64 1000000, .slice v750a l752.length v750c] 35, .own (.slice v750a l752.length v750c) l752, .cells D736 #[.int .i64 nw, .int .i64 nh, .int .i64 1000000, .slice v733a l735.length v733c] 35, .own (.slice v733a l735.length v733c) l735, .cells D719 #[.int .i64 nw, .int .i64 nh, .int .i64 1000000, .slice v716a l718.length v716c] 35, .own (.slice v716a l718.length v716c) l718, .cells D702 #[.int .i64 0, .int .i64 0, .int .i64 nw, .int .i64 nh] 33, .cells D699 #[.int .i64 x696, .int .i64 0] 38, .own (.slice pa pn pc) pl, .own (.slice qa qn qc) ql, .own (.slice sa sn sc) sl, .cells D22 #[.int .i64 nw, .int .i64 nh, .int .i64 1000, .slice pa pn pc] 35, .cells (D22 + 1) #[.int .i64 nw, .int .i64 nh, .int .i64 1000, .slice qa qn qc] 35, .cells D25 #[.int .i64 nw, .int .i64 nh, .int .i64 1000, .slice sa sn sc] 35, .own (.slice la ln lc) ll, .tape K1] [] (w755.alloc (.cells #[.int .i64 1] 3)) from (H754.out.alloc #[.int .i64 1] 3 hD756))
          first | refine gen_code H767.out ?_ | refine gen_list H767.out ?_ | refine gen_calls H767.out ?_
          intro w768 hG
          clear H767
          have H767 := hid hG
          clear hG
          clear hD756
          clear zq0 zq1 zq2 zq3
          have hbv : bValid x696 0 1000 = true := by unfold bValid; rw [if_pos (by omega)]; rfl
          have hct := cvT_ok HVpl.out hbv (show cvCode 1000 1 1 [1] 0 1000 = 0 from by decide +kernel) (r0 := 0) (r1 := 0) (r2 := nw) (r3 := nh) (by omega)
          refine (ctile_any _ _ _ _ _ _ pl _ _ _ _ _ _ _ [1] _ _ _ _ _ _ _ (H767.out.slc 9 rfl) (H767.out.lit 0 [1] rfl (by simp))).mono ?_
          rintro e w769 ⟨v770, rfl, ho, hb⟩
          rw [hct] at ho ⊢
          simp only [tI, tL, if_pos] at ho ⊢
          clear hct hbv
          rw [one_all ⟨nw1, nw2⟩ ⟨nh1, nh2⟩ (by omega) HPN.out HPI.out] at ho
          rw [Int.sub_zero, Int.sub_zero]
          have H771 := hid (H767.out.grow hb ho)
          obtain ⟨v770a, v770c, rfl, _⟩ := ho.slc
          clear ho hb
          obtain ⟨D772, hD772⟩ : ∃ D, w769.heap.size = D := ⟨_, rfl⟩
          go_upto_region 21 with fail
          have H773 := hid (show St B W [.cells D772 #[.int .i64 nw, .int .i64 nh, .int .i64 1000, .slice v770a pl.length v770c] 35, .own (.slice v770a pl.length v770c) pl, .cells D756 #[.int .i64 1] 3, .cells D753 #[.int .i64 nw, .int .i64 nh, .int .i64 1000000, .slice v750a l752.length v750c] 35, .own (.slice v750a l752.length v750c) l752, .cells D736 #[.int .i64 nw, .int .i64 nh, .int .i64 1000000, .slice v733a l735.length v733c] 35, .own (.slice v733a l735.length v733c) l735, .cells D719 #[.int .i64 nw, .int .i64 nh, .int .i64 1000000, .slice v716a l718.length v716c] 35, .own (.slice v716a l718.length v716c) l718, .cells D702 #[.int .i64 0, .int .i64 0, .int .i64 nw, .int .i64 nh] 33, .cells D699 #[.int .i64 x696, .int .i64 0] 38, .own (.slice pa pn pc) pl, .own (.slice qa qn qc) ql, .own (.slice sa sn sc) sl, .cells D22 #[.int .i64 nw, .int .i64 nh, .int .i64 1000, .slice pa pn pc] 35, .cells (D22 + 1) #[.int .i64 nw, .int .i64 nh, .int .i64 1000, .slice qa qn qc] 35, .cells D25 #[.int .i64 nw, .int .i64 nh, .int .i64 1000, .slice sa sn sc] 35, .own (.slice la ln lc) ll, .tape K1] [] (w769.alloc (.cells #[.int .i64 nw, .int .i64 nh, .int .i64 1000, .slice v770a pl.length v770c] 35)) from (H771.out.alloc #[.int .i64 nw, .int .i64 nh, .int .i64 1000, .slice v770a pl.length v770c] 35 hD772))
          first | refine gen_code H773.out ?_ | refine gen_list H773.out ?_ | refine gen_calls H773.out ?_
          intro w774 hG
          clear H773
          have H773 := hid hG
          clear hG
          clear hD772
          have hlbl718 : ((l718.length : Int) != (NP : Int)) = false := by rw [HLl718.out]; simp
          have hlcl718 : ((l718.length : Int) == (NP : Int)) = true := by rw [HLl718.out]; simp
          have hlbl735 : ((l735.length : Int) != (NP : Int)) = false := by rw [HLl735.out]; simp
          have hlcl735 : ((l735.length : Int) == (NP : Int)) = true := by rw [HLl735.out]; simp
          have hlbl752 : ((l752.length : Int) != (NP : Int)) = false := by rw [HLl752.out]; simp
          have hlcl752 : ((l752.length : Int) == (NP : Int)) = true := by rw [HLl752.out]; simp
          have HXY := hid (fun (i : Nat) (hi : i < nw * nh) => show l718.getD i 0 + l735.getD i 0 = l752.getD i 0 from by rw [← HNl718.out, ← HNl735.out, ← HNl752.out]; exact lin_at ⟨nw1, nw2⟩ ⟨nh1, nh2⟩ (by omega) (by have := HLL.out; omega) HLI.out HPI.out HQI.out HSI.out hi)
          have hNP1 : 1 ≤ NP := by rw [← HNP.out]; exact Nat.mul_pos (by omega) (by omega)
          obtain ⟨gx, gxc, hgg⟩ := (H773.out.own 8 rfl).pos (by rw [HLl718.out]; omega)
          injection hgg with hga hgb hgc
          subst hga
          clear hgb hgc
          obtain ⟨gy, gyc, hgg⟩ := (H773.out.own 6 rfl).pos (by rw [HLl735.out]; omega)
          injection hgg with hga hgb hgc
          subst hga
          clear hgb hgc
          obtain ⟨gz, gzc, hgg⟩ := (H773.out.own 4 rfl).pos (by rw [HLl752.out]; omega)
          injection hgg with hga hgb hgc
          subst hga
          clear hgb hgc
          have z775 := H773.out.cell 7 rfl 0 rfl
          have z776 := H773.out.cell 7 rfl 1 rfl
          have z777 := H773.out.cell 7 rfl 2 rfl
          have z778 := H773.out.cell 7 rfl 3 rfl
          have z779 := H773.out.cell 5 rfl 0 rfl
          have z780 := H773.out.cell 5 rfl 1 rfl
          have z781 := H773.out.cell 5 rfl 2 rfl
          have z782 := H773.out.cell 5 rfl 3 rfl
          have z783 := H773.out.cell 3 rfl 0 rfl
          have z784 := H773.out.cell 3 rfl 1 rfl
          have z785 := H773.out.cell 3 rfl 2 rfl
          have z786 := H773.out.cell 3 rfl 3 rfl
          go_wp2_with fail
          clear z775 z776 z777 z778 z779 z780 z781 z782 z783 z784 z785 z786
          clear hlbl718 hlcl718 hlbl735 hlcl735 hlbl752 hlcl752
          go_loopw [24] (fun i wr => ∃ k : Nat, k ≤ NP ∧ i = .int .i64 k ∧ St B W [.cells D772 #[.int .i64 nw, .int .i64 nh, .int .i64 1000, .slice v770a pl.length v770c] 35, .own (.slice v770a pl.length v770c) pl, .cells D756 #[.int .i64 1] 3, .cells D753 #[.int .i64 nw, .int .i64 nh, .int .i64 1000000, .slice (some ⟨gz, 0, none⟩) l752.length v750c] 35, .own (.slice (some ⟨gz, 0, none⟩) l752.length v750c) l752, .cells D736 #[.int .i64 nw, .int .i64 nh, .int .i64 1000000, .slice (some ⟨gy, 0, none⟩) l735.length v733c] 35, .own (.slice (some ⟨gy, 0, none⟩) l735.length v733c) l735, .cells D719 #[.int .i64 nw, .int .i64 nh, .int .i64 1000000, .slice (some ⟨gx, 0, none⟩) l718.length v716c] 35, .own (.slice (some ⟨gx, 0, none⟩) l718.length v716c) l718, .cells D702 #[.int .i64 0, .int .i64 0, .int .i64 nw, .int .i64 nh] 33, .cells D699 #[.int .i64 x696, .int .i64 0] 38, .own (.slice pa pn pc) pl, .own (.slice qa qn qc) ql, .own (.slice sa sn sc) sl, .cells D22 #[.int .i64 nw, .int .i64 nh, .int .i64 1000, .slice pa pn pc] 35, .cells (D22 + 1) #[.int .i64 nw, .int .i64 nh, .int .i64 1000, .slice qa qn qc] 35, .cells D25 #[.int .i64 nw, .int .i64 nh, .int .i64 1000, .slice sa sn sc] 35, .own (.slice la ln lc) ll, .tape K1] [] wr) (fun i _ => NP - (intOf i).toNat)
          case atStart => exact ⟨0, by omega, rfl, H773.out⟩
          case round =>
            obtain ⟨k, hk, rfl, hst⟩ := hrel
            obtain ⟨u787, rfl⟩ : ∃ u787 : World, u787 = wr := ⟨_, rfl⟩
            have H788 := hid hst
            clear hst
            by_cases hkn : k < NP
            · skip
              have hkn' : (k : Int) < NP := by omega
              go_upto_region 26 with fail
              have hkm : k < nw * nh := by rw [HNP.out]; exact hkn
              have hxy := HXY.out k hkm
              have hb1 := HLBl718.out k hkm
              have hb2 := HLBl735.out k hkm
              obtain ⟨xz, hxz⟩ : ∃ xx', l718.getD k 0 = xx' := ⟨_, rfl⟩
              rw [hxz] at hxy hb1
              have HXZ := hid hxz
              clear hxz
              have kxz : (k : Int) < l718.length := by have := HLl718.out; omega
              obtain ⟨yz, hyz⟩ : ∃ xx', l735.getD k 0 = xx' := ⟨_, rfl⟩
              rw [hyz] at hxy hb2
              have HYZ := hid hyz
              clear hyz
              have kyz : (k : Int) < l735.length := by have := HLl735.out; omega
              obtain ⟨zz, hzz⟩ : ∃ xx', l752.getD k 0 = xx' := ⟨_, rfl⟩
              rw [hzz] at hxy
              have HZZ := hid hzz
              clear hzz
              have kzz : (k : Int) < l752.length := by have := HLl752.out; omega
              have wzz : IntKind.i64.wrap zz = zz := IntWalk.i64_in _ (by omega)
              clear hb1 hb2
              have H789 := hid H788.out.drew
              refine wp_region_held_drew (S := (fun w' => w'.cell? ⟨D719, 0, none⟩ = some (.int .i64 nw) ∧ w'.cell? ⟨D719, 1, none⟩ = some (.int .i64 nh) ∧ w'.cell? ⟨D719, 2, none⟩ = some (.int .i64 1000000) ∧ w'.cell? ⟨D719, 3, none⟩ = some (.slice (some ⟨gx, 0, none⟩) l718.length v716c) ∧ w'.cell? ⟨D736, 0, none⟩ = some (.int .i64 nw) ∧ w'.cell? ⟨D736, 1, none⟩ = some (.int .i64 nh) ∧ w'.cell? ⟨D736, 2, none⟩ = some (.int .i64 1000000) ∧ w'.cell? ⟨D736, 3, none⟩ = some (.slice (some ⟨gy, 0, none⟩) l735.length v733c) ∧ w'.cell? ⟨D753, 0, none⟩ = some (.int .i64 nw) ∧ w'.cell? ⟨D753, 1, none⟩ = some (.int .i64 nh) ∧ w'.cell? ⟨D753, 2, none⟩ = some (.int .i64 1000000) ∧ w'.cell? ⟨D753, 3, none⟩ = some (.slice (some ⟨gz, 0, none⟩) l752.length v750c) ∧ w'.cell? ⟨gx, k, none⟩ = some (.int .i64 xz) ∧ w'.cell? ⟨gy, k, none⟩ = some (.int .i64 yz) ∧ w'.cell? ⟨gz, k, none⟩ = some (.int .i64 zz))) (by kernel_rfl) ⟨H789.out.cell 7 rfl 0 rfl, H789.out.cell 7 rfl 1 rfl, H789.out.cell 7 rfl 2 rfl, H789.out.cell 7 rfl 3 rfl, H789.out.cell 5 rfl 0 rfl, H789.out.cell 5 rfl 1 rfl, H789.out.cell 5 rfl 2 rfl, H789.out.cell 5 rfl 3 rfl, H789.out.cell 3 rfl 0 rfl, H789.out.cell 3 rfl 1 rfl, H789.out.cell 3 rfl 2 rfl, H789.out.cell 3 rfl 3 rfl, (by have := (H789.out.get 8 rfl (j := k) (by rw [HLl718.out]; exact hkn)).1; rw [HXZ.out] at this; exact this), (by have := (H789.out.get 6 rfl (j := k) (by rw [HLl735.out]; exact hkn)).1; rw [HYZ.out] at this; exact this), (by have := (H789.out.get 4 rfl (j := k) (by rw [HLl752.out]; exact hkn)).1; rw [HZZ.out] at this; exact this)⟩ (fun hHeld => ?_)
              generalize u787.drew = k790 at *
              refine tkA 0 ?_
              try simp only [Act.put, p1, p2, p3, p4, p5, p6]
              refine tkA 1 ?_
              try simp only [Act.put, p1, p2, p3, p4, p5, p6]
              refine tkA 2 ?_
              try simp only [Act.put, p1, p2, p3, p4, p5, p6]
              refine tkA 3 ?_
              try simp only [Act.put, p1, p2, p3, p4, p5, p6]
              refine tkA 4 ?_
              try simp only [Act.put, p1, p2, p3, p4, p5, p6]
              refine tkA 5 ?_
              try simp only [Act.put, p1, p2, p3, p4, p5, p6]
              refine tkA 6 ?_
              try simp only [Act.put, p1, p2, p3, p4, p5, p6]
              refine tkA 7 ?_
              try simp only [Act.put, p1, p2, p3, p4, p5, p6]
              refine tkA 8 ?_
              try simp only [Act.put, p1, p2, p3, p4, p5, p6]
              refine tkA 9 ?_
              try simp only [Act.put, p1, p2, p3, p4, p5, p6]
              refine tkA 10 ?_
              try simp only [Act.put, p1, p2, p3, p4, p5, p6]
              refine tkA 11 ?_
              try simp only [Act.put, p1, p2, p3, p4, p5, p6]
              refine tkA 12 ?_
              try simp only [Act.put, p1, p2, p3, p4, p5, p6]
              refine tkA 13 ?_
              try simp only [Act.put, p1, p2, p3, p4, p5, p6]
              refine tkA 14 ?_
              try simp only [Act.put, p1, p2, p3, p4, p5, p6]
              refine tkA 15 ?_
              try simp only [Act.put, p1, p2, p3, p4, p5, p6]
              refine tkA 16 ?_
              try simp only [Act.put, p1, p2, p3, p4, p5, p6]
              refine wpAnyH_done (by kernel_rfl) ?_ _
              try clear hHeld
              clear wzz hxy
              go_wp2_with fail
              go_roundw
              case rel => exact ⟨k + 1, by omega, by go_num, H789.out⟩
              case measure => first | (simp [intOf]; omega) | (simp [intOf]; done)
            · skip
              have hkn' : ¬ ((k : Int) < NP) := by omega
              have z791 := H788.out.cell 0 rfl 0 rfl
              have z792 := H788.out.cell 0 rfl 1 rfl
              have z793 := H788.out.cell 0 rfl 2 rfl
              have z794 := H788.out.cell 0 rfl 3 rfl
              have z795 := H788.out.cell 14 rfl 0 rfl
              have z796 := H788.out.cell 14 rfl 1 rfl
              have z797 := H788.out.cell 14 rfl 2 rfl
              have z798 := H788.out.cell 14 rfl 3 rfl
              go_wp2_with fail
              clear z791 z792 z793 z794 z795 z796 z797 z798
              refine (qequal_any _ _ _ _ _ _ pl _ _ _ _ _ _ pl _ (H788.out.slc 1 rfl) (H788.out.slc 11 rfl)).mono ?_
              rintro e w799 ⟨rfl, hb⟩
              have H800 := hid (H788.out.call hb)
              clear hb
              rw [show pEq nw nh 1000 pl nw nh 1000 pl = true from by simp [pEq]]
              go_wp2_with fail
              refine (sane9 _).mono ?_
              rintro e w801 ⟨rfl, hb⟩
              have H802 := hid (H800.out.call hb)
              clear hb
              go_wp2_with fail
              go_ret
              exact ⟨rfl, by first | exact H802.out.below | exact H802.out.below'⟩
end Go.Proofs.Ytocikgdkigcjbaa
