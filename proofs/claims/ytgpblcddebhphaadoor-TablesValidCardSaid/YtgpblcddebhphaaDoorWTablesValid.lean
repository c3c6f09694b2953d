/-
  The walk of TablesValid: both Valid answer alike, for made tables and for any table.
-/
import Derived.Test.YtgpblcddebhphaaDoorSane8
import Derived.Test.YtgpblcddebhphaaDoorKA
import Derived.Test.YtgpblcddebhphaaDoorKX
import Derived.Test.YtgpblcddebhphaaDoorTable
import Derived.Test.YtgpblcddebhphaaDoorTaps3
import Derived.Test.YtgpblcddebhphaaDoorWeights
import Derived.Test.YtgpblcddebhphaaDoorTab1
namespace Go.Proofs.YtgpblcddebhphaaDoor
open Go.RowKit
attribute [local go_sem ↓] Go.wp_at_zero Go.wp_at_succ
set_option linter.unusedVariables false
set_option linter.unusedSimpArgs false

set_option maxRecDepth 100000 in
set_option maxHeartbeats 12800000 in
theorem walk_TablesValid (a : Option Addr) (n c : Nat) (zs : List Int) (la : Option Addr) (lx lc : Nat) (ls : Tbl) (nn : Int) (W : World) (hr : RowIn .i64 W a n c zs) (hl : Tps W la lx lc ls) (_ : I64 nn) (hT : Tab W) :
    Calls Tryd.prog 3 #[.slice a n c, .slice la lx lc, .int .i64 nn] W fun e w' => e = .returned (.bool true) ∧ Below W.heap.size W w' := by
  obtain ⟨B, hB⟩ : ∃ B, W.heap.size = B := ⟨_, rfl⟩
  have HI0 := hid (St.init hB)
  have HT := hid hT
  have HB0 := hid (show 0 < B from by rw [← hB]; exact hT.pos)
  clear hT
  have HN := hid (nearRow hr hB)
  have HR := hid hr
  have HLT := hid hl
  clear hr hl
  go_enter Tryd.func3, Tryd.ntmps3
  go_wp2_with fail
  obtain ⟨K1, hK1⟩ : ∃ D, W.heap.size = D := ⟨_, rfl⟩
  refine (newB_any B _ _ _ _ _ HR.out.len (HI0.out.oldRow HR.out.row) HN.out HI0.out.size).mono ?_
  rintro e w2 ⟨rfl, ht, hb, hs⟩
  rw [hK1] at ht ⊢
  have H3 := hid (HI0.out.newTape ht hb hK1)
  clear ht hb hs hK1
  go_wp2_with fail
  go_loopw [8] (fun i wr => ∃ j : Nat, j ≤ 4 ∧ i = .int .i64 j ∧ St B W [.tape K1] [] wr) (fun i _ => 4 - (intOf i).toNat)
  case atStart => exact ⟨0, by omega, rfl, H3.out.pick [0] rfl (by decide)⟩
  case round =>
    obtain ⟨j, hj, rfl, hst⟩ := hrel
    obtain ⟨u4, rfl⟩ : ∃ u4 : World, u4 = wr := ⟨_, rfl⟩
    have H5 := hid hst
    clear hst
    by_cases hj8 : j < 4
    · skip
      have hj8' : (j : Int) < 4 := by omega
      go_wp2_with fail
      refine (nextB_any B K1 _ _ (by omega) (H5.out.tapeAt 0 rfl)).mono ?_
      rintro e w7 ⟨x6, rfl, x6a, x6b, htn, hgn, hsn⟩
      have H8 := hid (H5.out.next 0 rfl htn hgn)
      clear htn hgn hsn
      go_wp2_with fail
      refine (table_any B K1 (1 + x6) _ (by omega) (H8.out.tapeAt 0 rfl)).mono ?_
      rintro e w9 ⟨v11, T12, rfl, hok, ho, ht, hg⟩
      obtain ⟨tp13, R14, ta17, tc18, rfl, htd, htq, hmo, hst⟩ := St.addTT H8.out (H8.out.next 0 rfl ht hg) ho
      obtain ⟨T12l0, T12l1⟩ : 1 ≤ T12.length ∧ T12.length ≤ 6 := ⟨hok.l0, hok.l1⟩
      have HQ15 := hid htq
      have HD16 := hid htd
      have H10 := hid hst
      clear htd htq hmo hst ho ht hg hok
      by_cases hj5 : 1 < j
      · skip
        have hj5' : (1 : Int) < (j : Int) := by omega
        obtain ⟨D19, hD19⟩ : ∃ D, w9.heap.size = D := ⟨_, rfl⟩
        go_wp2_with fail
        have H20 := hid (show St B W [.cells D19 #[.int .i64 (-128), .int .i64 (-129), .int .i64 256, .int .i64 257] 3, .arr (31) 2 (.slice ta17 T12.length tc18) (T12.length) (tapV tp13), .tape K1] R14 (w9.alloc (.cells #[.int .i64 (-128), .int .i64 (-129), .int .i64 256, .int .i64 257] 3)) from (H10.out.alloc #[.int .i64 (-128), .int .i64 (-129), .int .i64 256, .int .i64 257] 3 hD19))
        first | refine gen_code H20.out ?_ | refine gen_list H20.out ?_ | refine gen_calls H20.out ?_
        intro w21 hG
        clear H20
        have H20 := hid hG
        clear hG
        clear hD19
        refine (pickB_any B K1 _ 4 4 [(-128), (-129), 256, 257] _ (by omega) (by omega) (H20.out.tapeAt 2 rfl) (H20.out.lit 0 [(-128), (-129), 256, 257] rfl (by simp)).row (.inr ⟨_, rfl, H20.out.ne 0 2 rfl rfl (by decide) rfl rfl⟩)).mono ?_
        rintro e w23 ⟨x22, rfl, hx22, htn, hgn, hsn⟩
        have H24 := hid (H20.out.next 2 rfl htn hgn)
        clear htn hgn hsn
        obtain ⟨x22p, x22q⟩ : -129 ≤ x22 ∧ x22 ≤ 257 := by simp only [List.mem_cons, List.not_mem_nil, or_false] at hx22; omega
        clear hx22
        obtain ⟨D25, hD25⟩ : ∃ D, w23.heap.size = D := ⟨_, rfl⟩
        go_wp2_with fail
        have H26 := hid (show St B W [.cells D25 #[.int .i64 0, .int .i64 1, .int .i64 8, .int .i64 9] 3, .cells D19 #[.int .i64 (-128), .int .i64 (-129), .int .i64 256, .int .i64 257] 3, .arr (31) 2 (.slice ta17 T12.length tc18) (T12.length) (tapV tp13), .tape K1] R14 (w23.alloc (.cells #[.int .i64 0, .int .i64 1, .int .i64 8, .int .i64 9] 3)) from (H24.out.alloc #[.int .i64 0, .int .i64 1, .int .i64 8, .int .i64 9] 3 hD25))
        first | refine gen_code H26.out ?_ | refine gen_list H26.out ?_ | refine gen_calls H26.out ?_
        intro w27 hG
        clear H26
        have H26 := hid hG
        clear hG
        clear hD25
        refine (pickB_any B K1 _ 4 4 [0, 1, 8, 9] _ (by omega) (by omega) (H26.out.tapeAt 3 rfl) (H26.out.lit 0 [0, 1, 8, 9] rfl (by simp)).row (.inr ⟨_, rfl, H26.out.ne 0 3 rfl rfl (by decide) rfl rfl⟩)).mono ?_
        rintro e w29 ⟨x28, rfl, hx28, htn, hgn, hsn⟩
        have H30 := hid (H26.out.next 3 rfl htn hgn)
        clear htn hgn hsn
        obtain ⟨x28p, x28q⟩ : 0 ≤ x28 ∧ x28 ≤ 9 := by simp only [List.mem_cons, List.not_mem_nil, or_false] at hx28; omega
        clear hx28
        go_wp2_with fail
        refine (weights_any B K1 _ _ (by omega) (H30.out.tapeAt 3 rfl)).mono ?_
        rintro e w31 ⟨wv32, wl33, rfl, hlen, hin, ho, ht, hg⟩
        have H34 := hid (H30.out.add (H30.out.next 3 rfl ht hg) ho)
        have HWLwl33 := hid hlen
        have HWBwl33 := hid hin
        obtain ⟨wv32a, wv32c, rfl, -⟩ := ho.slc
        clear hlen hin ho ht hg
        obtain ⟨D35, hD35⟩ : ∃ D, w31.heap.size = D := ⟨_, rfl⟩
        have H36 := hid (show St B W [.cells D35 #[.int .i64 x22, .slice wv32a wl33.length wv32c] 31, .own (.slice wv32a wl33.length wv32c) wl33, .cells D25 #[.int .i64 0, .int .i64 1, .int .i64 8, .int .i64 9] 3, .cells D19 #[.int .i64 (-128), .int .i64 (-129), .int .i64 256, .int .i64 257] 3, .arr (31) 2 (.slice ta17 T12.length tc18) (T12.length) (tapV tp13), .tape K1] R14 (w31.alloc (.cells #[.int .i64 x22, .slice wv32a wl33.length wv32c] 31)) from (H34.out.alloc #[.int .i64 x22, .slice wv32a wl33.length wv32c] 31 hD35))
        go_upto_region 9 with (at_builtin; refine append_vals rfl _ _ 23 31 2 32 (.agg #[.int .i64 0, .slice none 0 0]) Tryd.underlying23 info_tap rfl (by decide) (by decide) rfl B _ _ _ D35 1 1 [.int .i64 x22, .slice wv32a wl33.length wv32c] rfl rfl rfl (H36.out.arrOfT 4 rfl) (lit_news H36.out 0 [.int .i64 x22, .slice wv32a wl33.length wv32c] rfl) (by intro u hu; simp at hu; rcases hu with rfl | rfl <;> rfl) (by omega) H36.out.size ?_; intro v38 w39 ho hg hv; have H37 := hid (H36.out.appendE 4 rfl ho hg hv); clear ho hg hv)
        clear H36
        obtain ⟨g40, c41, hva⟩ := arr_posT (H37.out.arrOfT 4 rfl) (by omega)
        subst hva
        clear hD35
        have H42 := H37.out.pick (l' := [.own (.slice wv32a wl33.length wv32c) wl33, .arr (31) 2 (.slice (some ⟨g40, 0, none⟩) (T12.length + 1) c41) (T12.length + 1) (tapV tp13 ++ [.int .i64 x22, .slice wv32a wl33.length wv32c]), .tape K1]) [1, 4, 5] rfl (by decide)
        have hNW := H42.lay 0 rfl
        have hLY := H42.freeze 0 rfl
        simp only [List.eraseIdx] at hLY
        rw [show tapV tp13 ++ [.int .i64 x22, .slice wv32a wl33.length wv32c] = tapV (tp13 ++ [(x22, ⟨wv32a, wl33.length, wv32c, wl33⟩)]) from by rw [tapV_app]; rfl] at hLY
        obtain ⟨tp44, htp44⟩ : ∃ t : List (Int × Ro), tp13 ++ [(x22, ⟨wv32a, wl33.length, wv32c, wl33⟩)] = t := ⟨_, rfl⟩
        have HQ45 := hid (show TQ B (⟨wv32a, wl33.length, wv32c, wl33⟩ :: R14) tp44 from by rw [← htp44]; exact HQ15.out.snoc hNW)
        have HD46 := hid (show tapD tp44 = T12 ++ [(x22, wl33)] from by rw [← htp44, tapD_app, HD16.out]; rfl)
        rw [htp44] at hLY
        have H43 := hid hLY
        clear H42 hNW hLY htp44
        go_wp2_with fail
        refine (tvalid_any _ _ _ (T12 ++ [(x22, wl33)]) (1 + x6) _ ((by have ht := H43.out.taps 0 rfl HQ45.out; rw [HD46.out] at ht; exact ht))).mono ?_
        rintro e w47 ⟨rfl, hb⟩
        have H48 := hid (H43.out.call hb)
        clear hb
        obtain ⟨c49, hc49⟩ : ∃ xx', tvCode (T12 ++ [(x22, wl33)]) (1 + x6) = xx' := ⟨_, rfl⟩
        rw [hc49]
        have HNc49 := hid hc49
        clear hc49
        go_wp2_with fail
        refine (rtvalid_any _ _ _ (T12 ++ [(x22, wl33)]) (1 + x6) _ ((by have ht := H48.out.taps 0 rfl HQ45.out; rw [HD46.out] at ht; exact ht))).mono ?_
        rintro e w50 ⟨rfl, hb⟩
        have H51 := hid (H48.out.call hb)
        clear hb
        rw [HNc49.out]
        go_wp2_with fail
        refine (tvalid_any _ _ _ (T12 ++ [(x22, wl33)]) nn _ ((by have ht := H51.out.taps 0 rfl HQ45.out; rw [HD46.out] at ht; exact ht))).mono ?_
        rintro e w52 ⟨rfl, hb⟩
        have H53 := hid (H51.out.call hb)
        clear hb
        obtain ⟨c54, hc54⟩ : ∃ xx', tvCode (T12 ++ [(x22, wl33)]) nn = xx' := ⟨_, rfl⟩
        rw [hc54]
        have HNc54 := hid hc54
        clear hc54
        go_wp2_with fail
        refine (rtvalid_any _ _ _ (T12 ++ [(x22, wl33)]) nn _ ((by have ht := H53.out.taps 0 rfl HQ45.out; rw [HD46.out] at ht; exact ht))).mono ?_
        rintro e w55 ⟨rfl, hb⟩
        have H56 := hid (H53.out.call hb)
        clear hb
        rw [HNc54.out]
        by_cases c57 : (lx : Int) ≤ 200
        · skip
          go_wp2_with fail
          refine (tvalid_any _ _ _ ls (1 + x6) _ (H56.out.oldTps HLT.out)).mono ?_
          rintro e w58 ⟨rfl, hb⟩
          have H59 := hid (H56.out.call hb)
          clear hb
          obtain ⟨c60, hc60⟩ : ∃ xx', tvCode ls (1 + x6) = xx' := ⟨_, rfl⟩
          rw [hc60]
          have HNc60 := hid hc60
          clear hc60
          go_wp2_with fail
          refine (rtvalid_any _ _ _ ls (1 + x6) _ (H59.out.oldTps HLT.out)).mono ?_
          rintro e w61 ⟨rfl, hb⟩
          have H62 := hid (H59.out.call hb)
          clear hb
          rw [HNc60.out]
          go_wp2_with fail
          refine (tvalid_any _ _ _ ls nn _ (H62.out.oldTps HLT.out)).mono ?_
          rintro e w63 ⟨rfl, hb⟩
          have H64 := hid (H62.out.call hb)
          clear hb
          obtain ⟨c65, hc65⟩ : ∃ xx', tvCode ls nn = xx' := ⟨_, rfl⟩
          rw [hc65]
          have HNc65 := hid hc65
          clear hc65
          go_wp2_with fail
          refine (rtvalid_any _ _ _ ls nn _ (H64.out.oldTps HLT.out)).mono ?_
          rintro e w66 ⟨rfl, hb⟩
          have H67 := hid (H64.out.call hb)
          clear hb
          rw [HNc65.out]
          go_wp2_with fail
          go_roundw
          case rel => exact ⟨j + 1, by omega, by go_num, (H67.out.pick [1] rfl (by decide)).noRo⟩
          case measure => first | (simp [intOf]; omega) | (simp [intOf]; done)
        · skip
          go_wp2_with fail
          go_roundw
          case rel => exact ⟨j + 1, by omega, by go_num, (H56.out.pick [1] rfl (by decide)).noRo⟩
          case measure => first | (simp [intOf]; omega) | (simp [intOf]; done)
      · skip
        have hj5' : ¬ ((1 : Int) < (j : Int)) := by omega
        go_wp2_with fail
        refine (tvalid_any _ _ _ T12 (1 + x6) _ ((by have ht := H10.out.taps 0 rfl HQ15.out; rw [HD16.out] at ht; exact ht))).mono ?_
        rintro e w68 ⟨rfl, hb⟩
        have H69 := hid (H10.out.call hb)
        clear hb
        obtain ⟨c70, hc70⟩ : ∃ xx', tvCode T12 (1 + x6) = xx' := ⟨_, rfl⟩
        rw [hc70]
        have HNc70 := hid hc70
        clear hc70
        go_wp2_with fail
        refine (rtvalid_any _ _ _ T12 (1 + x6) _ ((by have ht := H69.out.taps 0 rfl HQ15.out; rw [HD16.out] at ht; exact ht))).mono ?_
        rintro e w71 ⟨rfl, hb⟩
        have H72 := hid (H69.out.call hb)
        clear hb
        rw [HNc70.out]
        go_wp2_with fail
        refine (tvalid_any _ _ _ T12 nn _ ((by have ht := H72.out.taps 0 rfl HQ15.out; rw [HD16.out] at ht; exact ht))).mono ?_
        rintro e w73 ⟨rfl, hb⟩
        have H74 := hid (H72.out.call hb)
        clear hb
        obtain ⟨c75, hc75⟩ : ∃ xx', tvCode T12 nn = xx' := ⟨_, rfl⟩
        rw [hc75]
        have HNc75 := hid hc75
        clear hc75
        go_wp2_with fail
        refine (rtvalid_any _ _ _ T12 nn _ ((by have ht := H74.out.taps 0 rfl HQ15.out; rw [HD16.out] at ht; exact ht))).mono ?_
        rintro e w76 ⟨rfl, hb⟩
        have H77 := hid (H74.out.call hb)
        clear hb
        rw [HNc75.out]
        by_cases c78 : (lx : Int) ≤ 200
        · skip
          go_wp2_with fail
          refine (tvalid_any _ _ _ ls (1 + x6) _ (H77.out.oldTps HLT.out)).mono ?_
          rintro e w79 ⟨rfl, hb⟩
          have H80 := hid (H77.out.call hb)
          clear hb
          obtain ⟨c81, hc81⟩ : ∃ xx', tvCode ls (1 + x6) = xx' := ⟨_, rfl⟩
          rw [hc81]
          have HNc81 := hid hc81
          clear hc81
          go_wp2_with fail
          refine (rtvalid_any _ _ _ ls (1 + x6) _ (H80.out.oldTps HLT.out)).mono ?_
          rintro e w82 ⟨rfl, hb⟩
          have H83 := hid (H80.out.call hb)
          clear hb
          rw [HNc81.out]
          go_wp2_with fail
          refine (tvalid_any _ _ _ ls nn _ (H83.out.oldTps HLT.out)).mono ?_
          rintro e w84 ⟨rfl, hb⟩
          have H85 := hid (H83.out.call hb)
          clear hb
          obtain ⟨c86, hc86⟩ : ∃ xx', tvCode ls nn = xx' := ⟨_, rfl⟩
          rw [hc86]
          have HNc86 := hid hc86
          clear hc86
          go_wp2_with fail
          refine (rtvalid_any _ _ _ ls nn _ (H85.out.oldTps HLT.out)).mono ?_
          rintro e w87 ⟨rfl, hb⟩
          have H88 := hid (H85.out.call hb)
          clear hb
          rw [HNc86.out]
          go_wp2_with fail
          go_roundw
          case rel => exact ⟨j + 1, by omega, by go_num, (H88.out.pick [1] rfl (by decide)).noRo⟩
          case measure => first | (simp [intOf]; omega) | (simp [intOf]; done)
        · skip
          go_wp2_with fail
          go_roundw
          case rel => exact ⟨j + 1, by omega, by go_num, (H77.out.pick [1] rfl (by decide)).noRo⟩
          case measure => first | (simp [intOf]; omega) | (simp [intOf]; done)
    · skip
      have hj8' : ¬ ((j : Int) < 4) := by omega
      go_wp2_with fail
      refine (sane8 _ (HT.out.below (by first | exact H5.out.below' | exact H5.out.below) HB0.out)).mono ?_
      rintro e w89 ⟨rfl, hb⟩
      have H90 := hid (H5.out.call hb)
      clear hb
      go_wp2_with fail
      go_ret
      exact ⟨rfl, by first | exact H90.out.below | exact H90.out.below'⟩
end Go.Proofs.YtgpblcddebhphaaDoor
