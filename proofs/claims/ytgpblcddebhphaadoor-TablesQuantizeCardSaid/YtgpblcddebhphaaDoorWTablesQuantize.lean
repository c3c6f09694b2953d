/-
  The walk of TablesQuantize: quantized tables are those of the reference.
-/
import Derived.Test.YtgpblcddebhphaaDoorSane8
import Derived.Test.YtgpblcddebhphaaDoorKA
import Derived.Test.YtgpblcddebhphaaDoorKX
import Derived.Test.YtgpblcddebhphaaDoorTaps4
import Derived.Test.YtgpblcddebhphaaDoorTab5
import Derived.Test.YtgpblcddebhphaaDoorTab6
namespace Go.Proofs.YtgpblcddebhphaaDoor
open Go.RowKit
attribute [local go_sem ↓] Go.wp_at_zero Go.wp_at_succ
set_option linter.unusedVariables false
set_option linter.unusedSimpArgs false

set_option maxRecDepth 100000 in
set_option maxHeartbeats 12800000 in
theorem walk_TablesQuantize (a : Option Addr) (n c : Nat) (zs : List Int) (fa : Option Addr) (fx fc : Nat) (fs : List Int) (la : Option Addr) (lx lc : Nat) (ls : List (List Int)) (sh : Int) (W : World) (hr : RowIn .i64 W a n c zs) (hf : RowIn .i64 W fa fx fc fs) (hl : MatU W la lx lc ls) (_ : I64 sh) (hT : Tab W) :
    Calls Tryd.prog 5 #[.slice a n c, .slice fa fx fc, .slice la lx lc, .int .i64 sh] W fun e w' => e = .returned (.bool true) ∧ Below W.heap.size W w' := by
  obtain ⟨B, hB⟩ : ∃ B, W.heap.size = B := ⟨_, rfl⟩
  have HI0 := hid (St.init hB)
  have HT := hid hT
  have HB0 := hid (show 0 < B from by rw [← hB]; exact hT.pos)
  clear hT
  have HN := hid (nearRow hr hB)
  have HR := hid hr
  have HFS := hid (show Slc W fa fx fc fs from ⟨hf.row, hf.nc, hf.cap⟩)
  have HML := hid hl
  clear hr hf hl
  go_enter Tryd.func5, Tryd.ntmps5
  go_wp2_with fail
  obtain ⟨K1, hK1⟩ : ∃ D, W.heap.size = D := ⟨_, rfl⟩
  refine (newB_any B _ _ _ _ _ HR.out.len (HI0.out.oldRow HR.out.row) HN.out HI0.out.size).mono ?_
  rintro e w2 ⟨rfl, ht, hb, hs⟩
  rw [hK1] at ht ⊢
  have H3 := hid (HI0.out.newTape ht hb hK1)
  clear ht hb hs hK1
  go_wp2_with fail
  go_loopw [10] (fun i wr => ∃ j : Nat, j ≤ 3 ∧ i = .int .i64 j ∧ St B W [.tape K1] [] wr) (fun i _ => 3 - (intOf i).toNat)
  case atStart => exact ⟨0, by omega, rfl, H3.out.pick [0] rfl (by decide)⟩
  case round =>
    obtain ⟨j, hj, rfl, hst⟩ := hrel
    obtain ⟨u4, rfl⟩ : ∃ u4 : World, u4 = wr := ⟨_, rfl⟩
    have H5 := hid hst
    clear hst
    by_cases hj8 : j < 3
    · skip
      have hj8' : (j : Int) < 3 := by omega
      go_wp2_with fail
      refine (nextB_any B K1 _ _ (by omega) (H5.out.tapeAt 0 rfl)).mono ?_
      rintro e w7 ⟨x6, rfl, x6a, x6b, htn, hgn, hsn⟩
      have H8 := hid (H5.out.next 0 rfl htn hgn)
      clear htn hgn hsn
      go_wp2_with fail
      obtain ⟨NN, hNN⟩ : ∃ N : Nat, x6 = (N : Int) := ⟨x6.toNat, by omega⟩
      subst hNN
      have hNN3 : NN ≤ 3 := by omega
      have H9 := hid (show St B W [.own (.slice none 0 0) ([]), .tape K1] [] w7 from H8.out.grow (Below.refl _ _) (Own.nil _ _))
      have H10 := hid (H9.out.arrNilE 42 1)
      go_loopw [13, 11, 12] (fun i v v2 wr => ∃ (d : Nat) (pa : Option Addr) (pc : Nat) (pl : List Int) (ga : Option Addr) (gc : Nat) (YV : List Value) (RL : List Ch) (L : List (List Int)), d ≤ NN ∧ pl.length = d ∧ L.length = d ∧ UR YV RL L ∧ i = .int .i64 ((NN : Int) - (d : Int)) ∧ v = .slice pa pl.length pc ∧ v2 = .slice ga L.length gc ∧ St B W (.own (.slice pa pl.length pc) pl :: .arr (42) 1 (.slice ga L.length gc) (L.length) YV :: .tape K1 :: RL) [] wr) (fun i _ _ _ => (intOf i).toNat)
      case atStart => exact ⟨0, none, 0, [], none, 0, [], [], [], by omega, rfl, rfl, UR.nil, by simp, rfl, rfl, H10.out.pick [1, 0, 2] rfl (by decide)⟩
      case round =>
        obtain ⟨d, pa, pc, pl, ga, gc, YV, RL, L, hd, hpl, hLl, hur, rfl, rfl, rfl, hst⟩ := hrel
        obtain ⟨u11, rfl⟩ : ∃ u11 : World, u11 = wr := ⟨_, rfl⟩
        have H12 := hid hst
        clear hst
        have HUR := hid hur
        have HPL := hid hpl
        have HLL := hid hLl
        have hpl3 : pl.length ≤ 3 := by omega
        have hL3 : L.length ≤ 3 := by omega
        clear hur hpl hLl
        by_cases hd8 : d < NN
        · skip
          have hd8' : (0 : Int) < (NN : Int) - (d : Int) := by omega
          obtain ⟨D13, hD13⟩ : ∃ D, u11.heap.size = D := ⟨_, rfl⟩
          go_wp2_with fail
          have H14 := hid (show St B W (.cells D13 #[.int .i64 0, .int .i64 3, .int .i64 (-1), .int .i64 257] 3 :: .own (.slice pa pl.length pc) pl :: .arr (42) 1 (.slice ga L.length gc) (L.length) YV :: .tape K1 :: RL) [] (u11.alloc (.cells #[.int .i64 0, .int .i64 3, .int .i64 (-1), .int .i64 257] 3)) from (H12.out.alloc #[.int .i64 0, .int .i64 3, .int .i64 (-1), .int .i64 257] 3 hD13))
          first | refine gen_code H14.out ?_ | refine gen_list H14.out ?_ | refine gen_calls H14.out ?_
          intro w15 hG
          clear H14
          have H14 := hid hG
          clear hG
          clear hD13
          refine (pickB_any B K1 _ 4 4 [0, 3, (-1), 257] _ (by omega) (by omega) (H14.out.tapeAt 3 rfl) (H14.out.lit 0 [0, 3, (-1), 257] rfl (by simp)).row (.inr ⟨_, rfl, H14.out.ne 0 3 rfl rfl (by decide) rfl rfl⟩)).mono ?_
          rintro e w17 ⟨x16, rfl, hx16, htn, hgn, hsn⟩
          have H18 := hid (H14.out.next 3 rfl htn hgn)
          clear htn hgn hsn
          clear hx16
          obtain ⟨D19, hD19⟩ : ∃ D, w17.heap.size = D := ⟨_, rfl⟩
          have H20 := hid (show St B W (.cells D19 #[.int .i64 x16] 3 :: .cells D13 #[.int .i64 0, .int .i64 3, .int .i64 (-1), .int .i64 257] 3 :: .own (.slice pa pl.length pc) pl :: .arr (42) 1 (.slice ga L.length gc) (L.length) YV :: .tape K1 :: RL) [] (w17.alloc (.cells #[.int .i64 x16] 3)) from (H18.out.alloc #[.int .i64 x16] 3 hD19))
          go_wp2_with (at_builtin; refine append_int rfl _ _ rfl B _ pl x16 D19 1 rfl rfl (H20.out.own 2 rfl) (H20.out.cell 0 rfl 0 rfl) (by first | omega | (rw [List.length_append]; simp; omega)) H20.out.size ?_; intro v23 w24 ho hg hv; have H21 := hid (H20.out.append 2 rfl ho hg hv); clear ho hg hv)
          clear H20
          obtain ⟨v23a, v23c, hva, _⟩ := (H21.out.own 2 rfl).slc
          subst hva
          have H22 := hid (show St B W (.cells D13 #[.int .i64 0, .int .i64 3, .int .i64 (-1), .int .i64 257] 3 :: .own (.slice v23a ((pl ++ [x16]).length) v23c) (pl ++ [x16]) :: .arr (42) 1 (.slice ga L.length gc) (L.length) YV :: .tape K1 :: RL) [] w24 from St.pickT (l0 := [.cells D19 #[.int .i64 x16] 3, .cells D13 #[.int .i64 0, .int .i64 3, .int .i64 (-1), .int .i64 257] 3, .own (.slice v23a ((pl ++ [x16]).length) v23c) (pl ++ [x16]), .arr (42) 1 (.slice ga L.length gc) (L.length) YV, .tape K1]) (T := RL) (l' := [.cells D13 #[.int .i64 0, .int .i64 3, .int .i64 (-1), .int .i64 257] 3, .own (.slice v23a ((pl ++ [x16]).length) v23c) (pl ++ [x16]), .arr (42) 1 (.slice ga L.length gc) (L.length) YV, .tape K1]) H21.out [1, 2, 3, 4] rfl (by decide))
          obtain ⟨pq25, hpq25⟩ : ∃ q : List Int, pl ++ [x16] = q := ⟨_, rfl⟩
          rw [hpq25] at H22 ⊢
          have HLpq25 := hid (show pq25.length = pl.length + 1 from by rw [← hpq25]; simp)
          have hbpq25 : pq25.length ≤ 4 := by have := HLpq25.out; omega
          clear hpq25
          clear hD19
          refine (third_any B K1 _ (H22.out.tapeAt 3 rfl)).mono ?_
          rintro e w26 ⟨tg28, tl29, rfl, hlen, hu6, ho, htn, hgn⟩
          have H27 := hid (St.addE2 H22.out (H22.out.next 3 rfl htn hgn) ho)
          have HTUtl29 := hid hu6
          have hltl29 : tl29.length ≤ 3 := by omega
          clear hlen hu6 ho htn hgn
          obtain ⟨D30, hD30⟩ : ∃ D, w26.heap.size = D := ⟨_, rfl⟩
          have H31 := hid (show St B W (.cells D30 #[.slice (some ⟨tg28, 0, none⟩) tl29.length tl29.length] 42 :: .arr (52) 1 (.slice (some ⟨tg28, 0, none⟩) tl29.length tl29.length) (tl29.length) (tl29.map (Value.int .u64)) :: .cells D13 #[.int .i64 0, .int .i64 3, .int .i64 (-1), .int .i64 257] 3 :: .own (.slice v23a pq25.length v23c) pq25 :: .arr (42) 1 (.slice ga L.length gc) (L.length) YV :: .tape K1 :: RL) [] (w26.alloc (.cells #[.slice (some ⟨tg28, 0, none⟩) tl29.length tl29.length] 42)) from (H27.out.alloc #[.slice (some ⟨tg28, 0, none⟩) tl29.length tl29.length] 42 hD30))
          go_upto_region 9 with (at_builtin; refine append_vals rfl _ _ 41 42 1 24 (.slice none 0 0) Tryd.underlying41 info_urow rfl (by decide) (by decide) rfl B _ _ _ D30 1 1 [.slice (some ⟨tg28, 0, none⟩) tl29.length tl29.length] rfl rfl rfl (H31.out.arrOfT 4 rfl) (lit_news H31.out 0 [.slice (some ⟨tg28, 0, none⟩) tl29.length tl29.length] rfl) (by intro u hu; simp at hu; rcases hu with rfl; rfl) (by omega) H31.out.size ?_; intro v33 w34 ho hg hv; have H32 := hid (H31.out.appendE 4 rfl ho hg hv); clear ho hg hv)
          clear H31
          obtain ⟨g35, c36, hva⟩ := arr_posT (H32.out.arrOfT 4 rfl) (by omega)
          subst hva
          clear hD30
          go_wp2_with fail
          have hPK := St.pickT (l0 := [.cells D30 #[.slice (some ⟨tg28, 0, none⟩) tl29.length tl29.length] 42, .arr (52) 1 (.slice (some ⟨tg28, 0, none⟩) tl29.length tl29.length) (tl29.length) (tl29.map (Value.int .u64)), .cells D13 #[.int .i64 0, .int .i64 3, .int .i64 (-1), .int .i64 257] 3, .own (.slice v23a pq25.length v23c) pq25, .arr (42) 1 (.slice (some ⟨g35, 0, none⟩) (L.length + 1) c36) (L.length + 1) (YV ++ [.slice (some ⟨tg28, 0, none⟩) tl29.length tl29.length]), .tape K1]) (T := RL) (l' := [.own (.slice v23a pq25.length v23c) pq25, .arr (42) 1 (.slice (some ⟨g35, 0, none⟩) (L.length + 1) c36) (L.length + 1) (YV ++ [.slice (some ⟨tg28, 0, none⟩) tl29.length tl29.length]), .tape K1, .arr (52) 1 (.slice (some ⟨tg28, 0, none⟩) tl29.length tl29.length) (tl29.length) (tl29.map (Value.int .u64))]) H32.out [3, 4, 5, 1] rfl (by decide)
          go_roundw
          case rel => exact ⟨d + 1, v23a, v23c, pq25, (some ⟨g35, 0, none⟩), c36, YV ++ [uV tg28 tl29], uCh tg28 tl29 :: RL, L ++ [tl29], by omega, by have := HPL.out; have := HLpq25.out; omega, by rw [List.length_append, HLL.out]; rfl, HUR.out.push HTUtl29.out (by omega), by first | rfl | (congr 1; push_cast; omega), rfl, by rw [(show (L ++ [tl29]).length = L.length + 1 from by simp)], by rw [(show (L ++ [tl29]).length = L.length + 1 from by simp)]; exact hPK⟩
          case measure => first | (simp [intOf]; omega) | (simp [intOf]; done)
        · skip
          have hd8' : ¬ ((0 : Int) < (NN : Int) - (d : Int)) := by omega
          go_wp2_with fail
          refine (nextB_any B K1 _ _ (by omega) (H12.out.tapeAt 2 rfl)).mono ?_
          rintro e w38 ⟨x37, rfl, x37a, x37b, htn, hgn, hsn⟩
          have H39 := hid (H12.out.next 2 rfl htn hgn)
          clear htn hgn hsn
          by_cases c40 : (x37 : Int) = 5
          · obtain ⟨c40c, c40d⟩ : (x37 : Int) ≤ 5 ∧ (5 : Int) ≤ x37 := by omega
            have c40a : ((x37 : Int) == (5)) = true := by simpa using c40
            have c40b : ((x37 : Int) != (5)) = false := by simpa using c40
            have c40h := hid c40
            clear c40
            obtain ⟨D41, hD41⟩ : ∃ D, w38.heap.size = D := ⟨_, rfl⟩
            have H42 := hid (show St B W (.cells D41 #[.int .i64 1] 3 :: .own (.slice pa pl.length pc) pl :: .arr (42) 1 (.slice ga L.length gc) (L.length) YV :: .tape K1 :: RL) [] (w38.alloc (.cells #[.int .i64 1] 3)) from (H39.out.alloc #[.int .i64 1] 3 hD41))
            go_upto_region 13 with (at_builtin; refine append_int rfl _ _ rfl B _ pl 1 D41 1 rfl rfl (H42.out.own 1 rfl) (H42.out.cell 0 rfl 0 rfl) (by first | omega | (rw [List.length_append]; simp; omega)) H42.out.size ?_; intro v45 w46 ho hg hv; have H43 := hid (H42.out.append 1 rfl ho hg hv); clear ho hg hv)
            clear H42
            obtain ⟨v45a, v45c, hva, _⟩ := (H43.out.own 1 rfl).slc
            subst hva
            have H44 := hid (show St B W (.own (.slice v45a ((pl ++ [1]).length) v45c) (pl ++ [1]) :: .arr (42) 1 (.slice ga L.length gc) (L.length) YV :: .tape K1 :: RL) [] w46 from St.pickT (l0 := [.cells D41 #[.int .i64 1] 3, .own (.slice v45a ((pl ++ [1]).length) v45c) (pl ++ [1]), .arr (42) 1 (.slice ga L.length gc) (L.length) YV, .tape K1]) (T := RL) (l' := [.own (.slice v45a ((pl ++ [1]).length) v45c) (pl ++ [1]), .arr (42) 1 (.slice ga L.length gc) (L.length) YV, .tape K1]) H43.out [1, 2, 3] rfl (by decide))
            obtain ⟨pq47, hpq47⟩ : ∃ q : List Int, pl ++ [1] = q := ⟨_, rfl⟩
            rw [hpq47] at H44 ⊢
            have HLpq47 := hid (show pq47.length = pl.length + 1 from by rw [← hpq47]; simp)
            have hbpq47 : pq47.length ≤ 4 := by have := HLpq47.out; omega
            clear hpq47
            clear hD41
            go_wp2_with fail
            refine (nextB_any B K1 _ _ (by omega) (H44.out.tapeAt 2 rfl)).mono ?_
            rintro e w49 ⟨x48, rfl, x48a, x48b, htn, hgn, hsn⟩
            have H50 := hid (H44.out.next 2 rfl htn hgn)
            clear htn hgn hsn
            by_cases c51 : (j : Int) = 2
            · obtain ⟨c51c, c51d⟩ : (j : Int) ≤ 2 ∧ (2 : Int) ≤ j := by omega
              have c51a : ((j : Int) == (2)) = true := by simpa using c51
              have c51b : ((j : Int) != (2)) = false := by simpa using c51
              have c51h := hid c51
              clear c51
              by_cases c52 : (lx : Int) ≤ 200
              · skip
                by_cases c53 : (fx : Int) ≤ 200
                · skip
                  go_wp2_with fail
                  refine (tquant_any _ _ _ fs _ _ _ ls sh _ (H50.out.old HFS.out) (HML.out.call H50.out.below) (HT.out.below (by first | exact H50.out.below' | exact H50.out.below) HB0.out)).mono ?_
                  rintro e w54 ⟨v56, rfl, ho, hb⟩
                  obtain ⟨c63, hc63⟩ : ∃ xx', qtCode fs ls sh = xx' := ⟨_, rfl⟩
                  rw [hc63]
                  have HNc63 := hid hc63
                  clear hc63
                  obtain ⟨T64, hT64⟩ : ∃ xx', qtT fs ls sh = xx' := ⟨_, rfl⟩
                  rw [hT64] at ho
                  have HNT64 := hid hT64
                  clear hT64
                  obtain ⟨tp57, R58, ta61, tc62, rfl, htd, htq, hmo, hst⟩ := H50.out.addT' hb ho
                  have HQ59 := hid htq
                  have HD60 := hid htd
                  have H55 := hid hst
                  clear htq htd hmo hst ho hb
                  go_wp2_with fail
                  refine (rtquant_any _ _ _ fs _ _ _ ls sh _ (H55.out.old HFS.out) (HML.out.call H55.out.below)).mono ?_
                  rintro e w65 ⟨v67, rfl, ho, hb⟩
                  rw [HNc63.out]
                  rw [HNT64.out] at ho
                  obtain ⟨tp68, R69, ta72, tc73, rfl, htd, htq, hmo, hst⟩ := H55.out.addT' hb ho
                  have HQ70 := hid htq
                  have HD71 := hid htd
                  have HQ74 := hid (hmo _ HQ59.out)
                  have H66 := hid hst
                  clear htq htd hmo hst ho hb
                  go_wp2_with fail
                  refine (tsame_any _ _ _ T64 _ _ _ T64 _ ((by have ht := H66.out.taps 1 rfl HQ74.out; rw [HD60.out] at ht; exact ht)) ((by have ht := H66.out.taps 0 rfl HQ70.out; rw [HD71.out] at ht; exact ht))).mono ?_
                  rintro e w75 ⟨rfl, hb⟩
                  have H76 := hid (H66.out.call hb)
                  clear hb
                  rw [show tbEq T64 T64 = true from by unfold tbEq; simp]
                  go_wp2_with fail
                  go_roundw
                  case rel => exact ⟨j + 1, by omega, by go_num, (H76.out.pick [4] rfl (by decide)).noRo⟩
                  case measure => first | (simp [intOf]; omega) | (simp [intOf]; done)
                · skip
                  go_wp2_with fail
                  refine (tquant_any _ _ _ pq47 _ _ _ L (x48 - 1) _ (H50.out.slc 0 rfl) (St.matu' (l0 := [.own (.slice v45a pq47.length v45c) pq47, .arr (42) 1 (.slice ga L.length gc) (L.length) YV, .tape K1]) (RL := RL) H50.out HUR.out 1 rfl rfl) (HT.out.below (by first | exact H50.out.below' | exact H50.out.below) HB0.out)).mono ?_
                  rintro e w77 ⟨v79, rfl, ho, hb⟩
                  obtain ⟨c86, hc86⟩ : ∃ xx', qtCode pq47 L (x48 - 1) = xx' := ⟨_, rfl⟩
                  rw [hc86]
                  have HNc86 := hid hc86
                  clear hc86
                  obtain ⟨T87, hT87⟩ : ∃ xx', qtT pq47 L (x48 - 1) = xx' := ⟨_, rfl⟩
                  rw [hT87] at ho
                  have HNT87 := hid hT87
                  clear hT87
                  obtain ⟨tp80, R81, ta84, tc85, rfl, htd, htq, hmo, hst⟩ := H50.out.addT' hb ho
                  have HQ82 := hid htq
                  have HD83 := hid htd
                  have H78 := hid hst
                  clear htq htd hmo hst ho hb
                  go_wp2_with fail
                  refine (rtquant_any _ _ _ pq47 _ _ _ L (x48 - 1) _ (H78.out.slc 1 rfl) (St.matu' (l0 := [.arr (31) 2 (.slice ta84 T87.length tc85) (T87.length) (tapV tp80), .own (.slice v45a pq47.length v45c) pq47, .arr (42) 1 (.slice ga L.length gc) (L.length) YV, .tape K1]) (RL := RL) H78.out HUR.out 2 rfl rfl)).mono ?_
                  rintro e w88 ⟨v90, rfl, ho, hb⟩
                  rw [HNc86.out]
                  rw [HNT87.out] at ho
                  obtain ⟨tp91, R92, ta95, tc96, rfl, htd, htq, hmo, hst⟩ := H78.out.addT' hb ho
                  have HQ93 := hid htq
                  have HD94 := hid htd
                  have HQ97 := hid (hmo _ HQ82.out)
                  have H89 := hid hst
                  clear htq htd hmo hst ho hb
                  go_wp2_with fail
                  refine (tsame_any _ _ _ T87 _ _ _ T87 _ ((by have ht := H89.out.taps 1 rfl HQ97.out; rw [HD83.out] at ht; exact ht)) ((by have ht := H89.out.taps 0 rfl HQ93.out; rw [HD94.out] at ht; exact ht))).mono ?_
                  rintro e w98 ⟨rfl, hb⟩
                  have H99 := hid (H89.out.call hb)
                  clear hb
                  rw [show tbEq T87 T87 = true from by unfold tbEq; simp]
                  go_wp2_with fail
                  go_roundw
                  case rel => exact ⟨j + 1, by omega, by go_num, (H99.out.pick [4] rfl (by decide)).noRo⟩
                  case measure => first | (simp [intOf]; omega) | (simp [intOf]; done)
              · skip
                go_wp2_with fail
                refine (tquant_any _ _ _ pq47 _ _ _ L (x48 - 1) _ (H50.out.slc 0 rfl) (St.matu' (l0 := [.own (.slice v45a pq47.length v45c) pq47, .arr (42) 1 (.slice ga L.length gc) (L.length) YV, .tape K1]) (RL := RL) H50.out HUR.out 1 rfl rfl) (HT.out.below (by first | exact H50.out.below' | exact H50.out.below) HB0.out)).mono ?_
                rintro e w100 ⟨v102, rfl, ho, hb⟩
                obtain ⟨c109, hc109⟩ : ∃ xx', qtCode pq47 L (x48 - 1) = xx' := ⟨_, rfl⟩
                rw [hc109]
                have HNc109 := hid hc109
                clear hc109
                obtain ⟨T110, hT110⟩ : ∃ xx', qtT pq47 L (x48 - 1) = xx' := ⟨_, rfl⟩
                rw [hT110] at ho
                have HNT110 := hid hT110
                clear hT110
                obtain ⟨tp103, R104, ta107, tc108, rfl, htd, htq, hmo, hst⟩ := H50.out.addT' hb ho
                have HQ105 := hid htq
                have HD106 := hid htd
                have H101 := hid hst
                clear htq htd hmo hst ho hb
                go_wp2_with fail
                refine (rtquant_any _ _ _ pq47 _ _ _ L (x48 - 1) _ (H101.out.slc 1 rfl) (St.matu' (l0 := [.arr (31) 2 (.slice ta107 T110.length tc108) (T110.length) (tapV tp103), .own (.slice v45a pq47.length v45c) pq47, .arr (42) 1 (.slice ga L.length gc) (L.length) YV, .tape K1]) (RL := RL) H101.out HUR.out 2 rfl rfl)).mono ?_
                rintro e w111 ⟨v113, rfl, ho, hb⟩
                rw [HNc109.out]
                rw [HNT110.out] at ho
                obtain ⟨tp114, R115, ta118, tc119, rfl, htd, htq, hmo, hst⟩ := H101.out.addT' hb ho
                have HQ116 := hid htq
                have HD117 := hid htd
                have HQ120 := hid (hmo _ HQ105.out)
                have H112 := hid hst
                clear htq htd hmo hst ho hb
                go_wp2_with fail
                refine (tsame_any _ _ _ T110 _ _ _ T110 _ ((by have ht := H112.out.taps 1 rfl HQ120.out; rw [HD106.out] at ht; exact ht)) ((by have ht := H112.out.taps 0 rfl HQ116.out; rw [HD117.out] at ht; exact ht))).mono ?_
                rintro e w121 ⟨rfl, hb⟩
                have H122 := hid (H112.out.call hb)
                clear hb
                rw [show tbEq T110 T110 = true from by unfold tbEq; simp]
                go_wp2_with fail
                go_roundw
                case rel => exact ⟨j + 1, by omega, by go_num, (H122.out.pick [4] rfl (by decide)).noRo⟩
                case measure => first | (simp [intOf]; omega) | (simp [intOf]; done)
            · have c51a : ((j : Int) == (2)) = false := by simpa using c51
              have c51b : ((j : Int) != (2)) = true := by simpa using c51
              have c51h := hid c51
              clear c51
              go_wp2_with fail
              refine (tquant_any _ _ _ pq47 _ _ _ L (x48 - 1) _ (H50.out.slc 0 rfl) (St.matu' (l0 := [.own (.slice v45a pq47.length v45c) pq47, .arr (42) 1 (.slice ga L.length gc) (L.length) YV, .tape K1]) (RL := RL) H50.out HUR.out 1 rfl rfl) (HT.out.below (by first | exact H50.out.below' | exact H50.out.below) HB0.out)).mono ?_
              rintro e w123 ⟨v125, rfl, ho, hb⟩
              obtain ⟨c132, hc132⟩ : ∃ xx', qtCode pq47 L (x48 - 1) = xx' := ⟨_, rfl⟩
              rw [hc132]
              have HNc132 := hid hc132
              clear hc132
              obtain ⟨T133, hT133⟩ : ∃ xx', qtT pq47 L (x48 - 1) = xx' := ⟨_, rfl⟩
              rw [hT133] at ho
              have HNT133 := hid hT133
              clear hT133
              obtain ⟨tp126, R127, ta130, tc131, rfl, htd, htq, hmo, hst⟩ := H50.out.addT' hb ho
              have HQ128 := hid htq
              have HD129 := hid htd
              have H124 := hid hst
              clear htq htd hmo hst ho hb
              go_wp2_with fail
              refine (rtquant_any _ _ _ pq47 _ _ _ L (x48 - 1) _ (H124.out.slc 1 rfl) (St.matu' (l0 := [.arr (31) 2 (.slice ta130 T133.length tc131) (T133.length) (tapV tp126), .own (.slice v45a pq47.length v45c) pq47, .arr (42) 1 (.slice ga L.length gc) (L.length) YV, .tape K1]) (RL := RL) H124.out HUR.out 2 rfl rfl)).mono ?_
              rintro e w134 ⟨v136, rfl, ho, hb⟩
              rw [HNc132.out]
              rw [HNT133.out] at ho
              obtain ⟨tp137, R138, ta141, tc142, rfl, htd, htq, hmo, hst⟩ := H124.out.addT' hb ho
              have HQ139 := hid htq
              have HD140 := hid htd
              have HQ143 := hid (hmo _ HQ128.out)
              have H135 := hid hst
              clear htq htd hmo hst ho hb
              go_wp2_with fail
              refine (tsame_any _ _ _ T133 _ _ _ T133 _ ((by have ht := H135.out.taps 1 rfl HQ143.out; rw [HD129.out] at ht; exact ht)) ((by have ht := H135.out.taps 0 rfl HQ139.out; rw [HD140.out] at ht; exact ht))).mono ?_
              rintro e w144 ⟨rfl, hb⟩
              have H145 := hid (H135.out.call hb)
              clear hb
              rw [show tbEq T133 T133 = true from by unfold tbEq; simp]
              go_wp2_with fail
              go_roundw
              case rel => exact ⟨j + 1, by omega, by go_num, (H145.out.pick [4] rfl (by decide)).noRo⟩
              case measure => first | (simp [intOf]; omega) | (simp [intOf]; done)
          · have c40a : ((x37 : Int) == (5)) = false := by simpa using c40
            have c40b : ((x37 : Int) != (5)) = true := by simpa using c40
            have c40h := hid c40
            clear c40
            go_wp2_with fail
            refine (nextB_any B K1 _ _ (by omega) (H39.out.tapeAt 2 rfl)).mono ?_
            rintro e w147 ⟨x146, rfl, x146a, x146b, htn, hgn, hsn⟩
            have H148 := hid (H39.out.next 2 rfl htn hgn)
            clear htn hgn hsn
            by_cases c149 : (j : Int) = 2
            · obtain ⟨c149c, c149d⟩ : (j : Int) ≤ 2 ∧ (2 : Int) ≤ j := by omega
              have c149a : ((j : Int) == (2)) = true := by simpa using c149
              have c149b : ((j : Int) != (2)) = false := by simpa using c149
              have c149h := hid c149
              clear c149
              by_cases c150 : (lx : Int) ≤ 200
              · skip
                by_cases c151 : (fx : Int) ≤ 200
                · skip
                  go_wp2_with fail
                  refine (tquant_any _ _ _ fs _ _ _ ls sh _ (H148.out.old HFS.out) (HML.out.call H148.out.below) (HT.out.below (by first | exact H148.out.below' | exact H148.out.below) HB0.out)).mono ?_
                  rintro e w152 ⟨v154, rfl, ho, hb⟩
                  obtain ⟨c161, hc161⟩ : ∃ xx', qtCode fs ls sh = xx' := ⟨_, rfl⟩
                  rw [hc161]
                  have HNc161 := hid hc161
                  clear hc161
                  obtain ⟨T162, hT162⟩ : ∃ xx', qtT fs ls sh = xx' := ⟨_, rfl⟩
                  rw [hT162] at ho
                  have HNT162 := hid hT162
                  clear hT162
                  obtain ⟨tp155, R156, ta159, tc160, rfl, htd, htq, hmo, hst⟩ := H148.out.addT' hb ho
                  have HQ157 := hid htq
                  have HD158 := hid htd
                  have H153 := hid hst
                  clear htq htd hmo hst ho hb
                  go_wp2_with fail
                  refine (rtquant_any _ _ _ fs _ _ _ ls sh _ (H153.out.old HFS.out) (HML.out.call H153.out.below)).mono ?_
                  rintro e w163 ⟨v165, rfl, ho, hb⟩
                  rw [HNc161.out]
                  rw [HNT162.out] at ho
                  obtain ⟨tp166, R167, ta170, tc171, rfl, htd, htq, hmo, hst⟩ := H153.out.addT' hb ho
                  have HQ168 := hid htq
                  have HD169 := hid htd
                  have HQ172 := hid (hmo _ HQ157.out)
                  have H164 := hid hst
                  clear htq htd hmo hst ho hb
                  go_wp2_with fail
                  refine (tsame_any _ _ _ T162 _ _ _ T162 _ ((by have ht := H164.out.taps 1 rfl HQ172.out; rw [HD158.out] at ht; exact ht)) ((by have ht := H164.out.taps 0 rfl HQ168.out; rw [HD169.out] at ht; exact ht))).mono ?_
                  rintro e w173 ⟨rfl, hb⟩
                  have H174 := hid (H164.out.call hb)
                  clear hb
                  rw [show tbEq T162 T162 = true from by unfold tbEq; simp]
                  go_wp2_with fail
                  go_roundw
                  case rel => exact ⟨j + 1, by omega, by go_num, (H174.out.pick [4] rfl (by decide)).noRo⟩
                  case measure => first | (simp [intOf]; omega) | (simp [intOf]; done)
                · skip
                  go_wp2_with fail
                  refine (tquant_any _ _ _ pl _ _ _ L (x146 - 1) _ (H148.out.slc 0 rfl) (St.matu' (l0 := [.own (.slice pa pl.length pc) pl, .arr (42) 1 (.slice ga L.length gc) (L.length) YV, .tape K1]) (RL := RL) H148.out HUR.out 1 rfl rfl) (HT.out.below (by first | exact H148.out.below' | exact H148.out.below) HB0.out)).mono ?_
                  rintro e w175 ⟨v177, rfl, ho, hb⟩
                  obtain ⟨c184, hc184⟩ : ∃ xx', qtCode pl L (x146 - 1) = xx' := ⟨_, rfl⟩
                  rw [hc184]
                  have HNc184 := hid hc184
                  clear hc184
                  obtain ⟨T185, hT185⟩ : ∃ xx', qtT pl L (x146 - 1) = xx' := ⟨_, rfl⟩
                  rw [hT185] at ho
                  have HNT185 := hid hT185
                  clear hT185
                  obtain ⟨tp178, R179, ta182, tc183, rfl, htd, htq, hmo, hst⟩ := H148.out.addT' hb ho
                  have HQ180 := hid htq
                  have HD181 := hid htd
                  have H176 := hid hst
                  clear htq htd hmo hst ho hb
                  go_wp2_with fail
                  refine (rtquant_any _ _ _ pl _ _ _ L (x146 - 1) _ (H176.out.slc 1 rfl) (St.matu' (l0 := [.arr (31) 2 (.slice ta182 T185.length tc183) (T185.length) (tapV tp178), .own (.slice pa pl.length pc) pl, .arr (42) 1 (.slice ga L.length gc) (L.length) YV, .tape K1]) (RL := RL) H176.out HUR.out 2 rfl rfl)).mono ?_
                  rintro e w186 ⟨v188, rfl, ho, hb⟩
                  rw [HNc184.out]
                  rw [HNT185.out] at ho
                  obtain ⟨tp189, R190, ta193, tc194, rfl, htd, htq, hmo, hst⟩ := H176.out.addT' hb ho
                  have HQ191 := hid htq
                  have HD192 := hid htd
                  have HQ195 := hid (hmo _ HQ180.out)
                  have H187 := hid hst
                  clear htq htd hmo hst ho hb
                  go_wp2_with fail
                  refine (tsame_any _ _ _ T185 _ _ _ T185 _ ((by have ht := H187.out.taps 1 rfl HQ195.out; rw [HD181.out] at ht; exact ht)) ((by have ht := H187.out.taps 0 rfl HQ191.out; rw [HD192.out] at ht; exact ht))).mono ?_
                  rintro e w196 ⟨rfl, hb⟩
                  have H197 := hid (H187.out.call hb)
                  clear hb
                  rw [show tbEq T185 T185 = true from by unfold tbEq; simp]
                  go_wp2_with fail
                  go_roundw
                  case rel => exact ⟨j + 1, by omega, by go_num, (H197.out.pick [4] rfl (by decide)).noRo⟩
                  case measure => first | (simp [intOf]; omega) | (simp [intOf]; done)
              · skip
                go_wp2_with fail
                refine (tquant_any _ _ _ pl _ _ _ L (x146 - 1) _ (H148.out.slc 0 rfl) (St.matu' (l0 := [.own (.slice pa pl.length pc) pl, .arr (42) 1 (.slice ga L.length gc) (L.length) YV, .tape K1]) (RL := RL) H148.out HUR.out 1 rfl rfl) (HT.out.below (by first | exact H148.out.below' | exact H148.out.below) HB0.out)).mono ?_
                rintro e w198 ⟨v200, rfl, ho, hb⟩
                obtain ⟨c207, hc207⟩ : ∃ xx', qtCode pl L (x146 - 1) = xx' := ⟨_, rfl⟩
                rw [hc207]
                have HNc207 := hid hc207
                clear hc207
                obtain ⟨T208, hT208⟩ : ∃ xx', qtT pl L (x146 - 1) = xx' := ⟨_, rfl⟩
                rw [hT208] at ho
                have HNT208 := hid hT208
                clear hT208
                obtain ⟨tp201, R202, ta205, tc206, rfl, htd, htq, hmo, hst⟩ := H148.out.addT' hb ho
                have HQ203 := hid htq
                have HD204 := hid htd
                have H199 := hid hst
                clear htq htd hmo hst ho hb
                go_wp2_with fail
                refine (rtquant_any _ _ _ pl _ _ _ L (x146 - 1) _ (H199.out.slc 1 rfl) (St.matu' (l0 := [.arr (31) 2 (.slice ta205 T208.length tc206) (T208.length) (tapV tp201), .own (.slice pa pl.length pc) pl, .arr (42) 1 (.slice ga L.length gc) (L.length) YV, .tape K1]) (RL := RL) H199.out HUR.out 2 rfl rfl)).mono ?_
                rintro e w209 ⟨v211, rfl, ho, hb⟩
                rw [HNc207.out]
                rw [HNT208.out] at ho
                obtain ⟨tp212, R213, ta216, tc217, rfl, htd, htq, hmo, hst⟩ := H199.out.addT' hb ho
                have HQ214 := hid htq
                have HD215 := hid htd
                have HQ218 := hid (hmo _ HQ203.out)
                have H210 := hid hst
                clear htq htd hmo hst ho hb
                go_wp2_with fail
                refine (tsame_any _ _ _ T208 _ _ _ T208 _ ((by have ht := H210.out.taps 1 rfl HQ218.out; rw [HD204.out] at ht; exact ht)) ((by have ht := H210.out.taps 0 rfl HQ214.out; rw [HD215.out] at ht; exact ht))).mono ?_
                rintro e w219 ⟨rfl, hb⟩
                have H220 := hid (H210.out.call hb)
                clear hb
                rw [show tbEq T208 T208 = true from by unfold tbEq; simp]
                go_wp2_with fail
                go_roundw
                case rel => exact ⟨j + 1, by omega, by go_num, (H220.out.pick [4] rfl (by decide)).noRo⟩
                case measure => first | (simp [intOf]; omega) | (simp [intOf]; done)
            · have c149a : ((j : Int) == (2)) = false := by simpa using c149
              have c149b : ((j : Int) != (2)) = true := by simpa using c149
              have c149h := hid c149
              clear c149
              go_wp2_with fail
              refine (tquant_any _ _ _ pl _ _ _ L (x146 - 1) _ (H148.out.slc 0 rfl) (St.matu' (l0 := [.own (.slice pa pl.length pc) pl, .arr (42) 1 (.slice ga L.length gc) (L.length) YV, .tape K1]) (RL := RL) H148.out HUR.out 1 rfl rfl) (HT.out.below (by first | exact H148.out.below' | exact H148.out.below) HB0.out)).mono ?_
              rintro e w221 ⟨v223, rfl, ho, hb⟩
              obtain ⟨c230, hc230⟩ : ∃ xx', qtCode pl L (x146 - 1) = xx' := ⟨_, rfl⟩
              rw [hc230]
              have HNc230 := hid hc230
              clear hc230
              obtain ⟨T231, hT231⟩ : ∃ xx', qtT pl L (x146 - 1) = xx' := ⟨_, rfl⟩
              rw [hT231] at ho
              have HNT231 := hid hT231
              clear hT231
              obtain ⟨tp224, R225, ta228, tc229, rfl, htd, htq, hmo, hst⟩ := H148.out.addT' hb ho
              have HQ226 := hid htq
              have HD227 := hid htd
              have H222 := hid hst
              clear htq htd hmo hst ho hb
              go_wp2_with fail
              refine (rtquant_any _ _ _ pl _ _ _ L (x146 - 1) _ (H222.out.slc 1 rfl) (St.matu' (l0 := [.arr (31) 2 (.slice ta228 T231.length tc229) (T231.length) (tapV tp224), .own (.slice pa pl.length pc) pl, .arr (42) 1 (.slice ga L.length gc) (L.length) YV, .tape K1]) (RL := RL) H222.out HUR.out 2 rfl rfl)).mono ?_
              rintro e w232 ⟨v234, rfl, ho, hb⟩
              rw [HNc230.out]
              rw [HNT231.out] at ho
              obtain ⟨tp235, R236, ta239, tc240, rfl, htd, htq, hmo, hst⟩ := H222.out.addT' hb ho
              have HQ237 := hid htq
              have HD238 := hid htd
              have HQ241 := hid (hmo _ HQ226.out)
              have H233 := hid hst
              clear htq htd hmo hst ho hb
              go_wp2_with fail
              refine (tsame_any _ _ _ T231 _ _ _ T231 _ ((by have ht := H233.out.taps 1 rfl HQ241.out; rw [HD227.out] at ht; exact ht)) ((by have ht := H233.out.taps 0 rfl HQ237.out; rw [HD238.out] at ht; exact ht))).mono ?_
              rintro e w242 ⟨rfl, hb⟩
              have H243 := hid (H233.out.call hb)
              clear hb
              rw [show tbEq T231 T231 = true from by unfold tbEq; simp]
              go_wp2_with fail
              go_roundw
              case rel => exact ⟨j + 1, by omega, by go_num, (H243.out.pick [4] rfl (by decide)).noRo⟩
              case measure => first | (simp [intOf]; omega) | (simp [intOf]; done)
    · skip
      have hj8' : ¬ ((j : Int) < 3) := by omega
      go_wp2_with fail
      refine (sane8 _ (HT.out.below (by first | exact H5.out.below' | exact H5.out.below) HB0.out)).mono ?_
      rintro e w244 ⟨rfl, hb⟩
      have H245 := hid (H5.out.call hb)
      clear hb
      go_wp2_with fail
      go_ret
      exact ⟨rfl, by first | exact H245.out.below | exact H245.out.below'⟩
end Go.Proofs.YtgpblcddebhphaaDoor
