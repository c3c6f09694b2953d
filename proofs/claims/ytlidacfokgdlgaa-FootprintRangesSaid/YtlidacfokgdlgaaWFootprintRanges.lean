/-
  The walk of FootprintRanges: the needed columns of a convolution with BorderClamp or BorderConstant are those between the bounds of border.Range.
-/
import Derived.Test.YtlidacfokgdlgaaSane16
import Derived.Test.YtlidacfokgdlgaaStRg
import Derived.Test.YtlidacfokgdlgaaBorder2
import Derived.Test.YtlidacfokgdlgaaKX
import Derived.Test.YtlidacfokgdlgaaSetRow
namespace Go.Proofs.Ytlidacfokgdlgaa
open Go.RowKit
attribute [local go_sem ↓] Go.wp_at_zero Go.wp_at_succ
set_option linter.unusedVariables false
set_option linter.unusedSimpArgs false

set_option maxRecDepth 100000 in
set_option maxHeartbeats 12800000 in
theorem walk_FootprintRanges (a : Option Addr) (n c : Nat) (zs : List Int) (fr : Int) (W : World) (hr : RowIn .i64 W a n c zs) (_ : I64 fr) :
    Calls Try.prog 6 #[.slice a n c, .int .i64 fr] W fun e w' => e = .returned (.bool true) ∧ Below W.heap.size W w' := by
  obtain ⟨B, hB⟩ : ∃ B, W.heap.size = B := ⟨_, rfl⟩
  have HI0 := hid (St.init hB)
  have HN := hid (nearRow hr hB)
  have HR := hid hr
  clear hr
  go_enter Try.func6, Try.ntmps6
  go_wp2_with fail
  obtain ⟨K1, hK1⟩ : ∃ D, W.heap.size = D := ⟨_, rfl⟩
  refine (newB_any B _ _ _ _ _ HR.out.len (HI0.out.oldRow HR.out.row) HN.out HI0.out.size).mono ?_
  rintro e w2 ⟨rfl, ht, hb, hs⟩
  rw [hK1] at ht ⊢
  have H3 := hid (HI0.out.newTape ht hb hK1)
  clear ht hb hs hK1
  obtain ⟨D4, hD4⟩ : ∃ D, w2.heap.size = D := ⟨_, rfl⟩
  go_wp2_with fail
  have H5 := hid (show St B W [.cells D4 #[.int .i64 0, .int .i64 3] 3, .tape K1] [] (w2.alloc (.cells #[.int .i64 0, .int .i64 3] 3)) from (H3.out.alloc #[.int .i64 0, .int .i64 3] 3 hD4))
  first | refine gen_code H5.out ?_ | refine gen_list H5.out ?_ | refine gen_calls H5.out ?_
  intro w6 hG
  clear H5
  have H5 := hid hG
  clear hG
  clear hD4
  refine (nextB_any B K1 _ _ (by omega) (H5.out.tapeAt 1 rfl)).mono ?_
  rintro e w8 ⟨x7, rfl, x7a, x7b, htn, hgn, hsn⟩
  have H9 := hid (H5.out.next 1 rfl htn hgn)
  clear htn hgn hsn
  obtain ⟨XN, hXN⟩ : ∃ m : Nat, x7 = m := ⟨x7.toNat, by omega⟩
  subst hXN
  obtain ⟨p, hp, cz⟩ : ∃ p : Int, (p = 0 ∨ p = 3) ∧ w8.cell? ⟨D4, XN, none⟩ = some (.int .i64 p) := by rcases (show XN = 0 ∨ XN = 1 by omega) with h | h <;> subst h; exact ⟨0, .inl rfl, H9.out.cell 0 rfl 0 rfl⟩; exact ⟨3, .inr rfl, H9.out.cell 0 rfl 1 rfl⟩
  go_wp2_with fail
  refine (wide_any _ _).mono ?_
  rintro e w12 ⟨A11, wa10, rfl, hA9, hb⟩
  have H13 := hid (H9.out.call hb)
  clear hb
  have HA11 := hid hA9
  clear hA9
  obtain ⟨D14, hD14⟩ : ∃ D, w12.heap.size = D := ⟨_, rfl⟩
  have H15 := hid (show St B W [.cells D14 #[.int .i64 0, .int .i64 0, .int .i64 0, .bool false, .int .i64 0, .int .i64 0, .int .i64 0, .int .i64 0, .slice none 0 0, .slice none 0 0, .slice none 0 0, .int .i64 0, .int .i64 0, .slice none 0 0, .slice none 0 0, .int .i64 0, .slice none 0 0, .int .i64 0] 33, .cells D4 #[.int .i64 0, .int .i64 3] 3, .tape K1] [] (w12.alloc (.cells #[.int .i64 0, .int .i64 0, .int .i64 0, .bool false, .int .i64 0, .int .i64 0, .int .i64 0, .int .i64 0, .slice none 0 0, .slice none 0 0, .slice none 0 0, .int .i64 0, .int .i64 0, .slice none 0 0, .slice none 0 0, .int .i64 0, .slice none 0 0, .int .i64 0] 33)) from (H13.out.alloc #[.int .i64 0, .int .i64 0, .int .i64 0, .bool false, .int .i64 0, .int .i64 0, .int .i64 0, .int .i64 0, .slice none 0 0, .slice none 0 0, .slice none 0 0, .int .i64 0, .int .i64 0, .slice none 0 0, .slice none 0 0, .int .i64 0, .slice none 0 0, .int .i64 0] 33 hD14))
  go_upto_region 3 with (refine storeArm (H15.out.rowAt 0 rfl) (cs' := A11) (by rw [HA11.out]; first | rfl | kernel_rfl) (by rw [HA11.out]; first | rfl | kernel_rfl) (by rw [HA11.out]; first | rfl | kernel_rfl) (by rfl) (by rfl) (by rfl) ?_)
  clear H15
  have H16 := hid (show St B W [.cells D14 A11 33, .cells D4 #[.int .i64 0, .int .i64 3] 3, .tape K1] [] ((w12.alloc (.cells #[.int .i64 0, .int .i64 0, .int .i64 0, .bool false, .int .i64 0, .int .i64 0, .int .i64 0, .int .i64 0, .slice none 0 0, .slice none 0 0, .slice none 0 0, .int .i64 0, .int .i64 0, .slice none 0 0, .slice none 0 0, .int .i64 0, .slice none 0 0, .int .i64 0] 33)).setRow D14 A11) from ((H13.out.alloc #[.int .i64 0, .int .i64 0, .int .i64 0, .bool false, .int .i64 0, .int .i64 0, .int .i64 0, .int .i64 0, .slice none 0 0, .slice none 0 0, .slice none 0 0, .int .i64 0, .int .i64 0, .slice none 0 0, .slice none 0 0, .int .i64 0, .slice none 0 0, .int .i64 0] 33 hD14).setRow 0 rfl A11))
  first | refine gen_code H16.out ?_ | refine gen_list H16.out ?_ | refine gen_calls H16.out ?_
  intro w17 hG
  clear H16
  have H16 := hid hG
  clear hG
  clear hD14
  try clear cz
  go_wp2_with fail
  refine (nextB_any B K1 _ _ (by omega) (H16.out.tapeAt 2 rfl)).mono ?_
  rintro e w19 ⟨x18, rfl, x18a, x18b, htn, hgn, hsn⟩
  have H20 := hid (H16.out.next 2 rfl htn hgn)
  clear htn hgn hsn
  have H21 := hid (show St B W [.cells D14 #[.int .i64 1, .int .i64 0, .int .i64 (-1), .bool false, .int .i64 p, .int .i64 0, .int .i64 3, .int .i64 1, .slice wa10 3 3, .slice none 0 0, .slice none 0 0, .int .i64 0, .int .i64 0, .slice none 0 0, .slice none 0 0, .int .i64 0, .slice none 0 0, .int .i64 9] 33, .cells D4 #[.int .i64 0, .int .i64 3] 3, .tape K1] [] w19 from by have h9 := H20.out; rw [HA11.out] at h9; exact h9)
  have z22 := H21.out.cell 0 rfl 0 rfl
  have z23 := H21.out.free 0 rfl 0
  have z24 := H21.out.cell 0 rfl 1 rfl
  have z25 := H21.out.free 0 rfl 1
  have z26 := H21.out.cell 0 rfl 2 rfl
  have z27 := H21.out.free 0 rfl 2
  have z28 := H21.out.cell 0 rfl 3 rfl
  have z29 := H21.out.free 0 rfl 3
  have z30 := H21.out.cell 0 rfl 4 rfl
  have z31 := H21.out.free 0 rfl 4
  have z32 := H21.out.cell 0 rfl 5 rfl
  have z33 := H21.out.free 0 rfl 5
  have z34 := H21.out.cell 0 rfl 6 rfl
  have z35 := H21.out.free 0 rfl 6
  have z36 := H21.out.cell 0 rfl 7 rfl
  have z37 := H21.out.free 0 rfl 7
  have z38 := H21.out.cell 0 rfl 8 rfl
  have z39 := H21.out.free 0 rfl 8
  have z40 := H21.out.cell 0 rfl 9 rfl
  have z41 := H21.out.free 0 rfl 9
  have z42 := H21.out.cell 0 rfl 10 rfl
  have z43 := H21.out.free 0 rfl 10
  have z44 := H21.out.cell 0 rfl 11 rfl
  have z45 := H21.out.free 0 rfl 11
  have z46 := H21.out.cell 0 rfl 12 rfl
  have z47 := H21.out.free 0 rfl 12
  have z48 := H21.out.cell 0 rfl 13 rfl
  have z49 := H21.out.free 0 rfl 13
  have z50 := H21.out.cell 0 rfl 14 rfl
  have z51 := H21.out.free 0 rfl 14
  have z52 := H21.out.cell 0 rfl 15 rfl
  have z53 := H21.out.free 0 rfl 15
  have z54 := H21.out.cell 0 rfl 16 rfl
  have z55 := H21.out.free 0 rfl 16
  have z56 := H21.out.cell 0 rfl 17 rfl
  have z57 := H21.out.free 0 rfl 17
  go_upto_region 4 with fail
  clear z22 z23 z24 z25 z26 z27 z28 z29 z30 z31 z32 z33 z34 z35 z36 z37 z38 z39 z40 z41 z42 z43 z44 z45 z46 z47 z48 z49 z50 z51 z52 z53 z54 z55 z56 z57
  have H58 := hid (show St B W [.cells D14 #[.int .i64 1, .int .i64 0, .int .i64 (-1), .bool false, .int .i64 p, .int .i64 0, .int .i64 (1 + x18), .int .i64 1, .slice wa10 3 3, .slice none 0 0, .slice none 0 0, .int .i64 0, .int .i64 0, .slice none 0 0, .slice none 0 0, .int .i64 0, .slice none 0 0, .int .i64 9] 33, .cells D4 #[.int .i64 0, .int .i64 3] 3, .tape K1] [] (w19.setCell ⟨D14, 6, none⟩ (.int .i64 (1 + x18))) from (H21.out.set 0 rfl 6 (.int .i64 (1 + x18))))
  first | refine gen_code H58.out ?_ | refine gen_list H58.out ?_ | refine gen_calls H58.out ?_
  intro w59 hG
  clear H58
  have H58 := hid hG
  clear hG
  obtain ⟨A9, hA9⟩ : ∃ z : Array Value, #[.int .i64 1, .int .i64 0, .int .i64 (-1), .bool false, .int .i64 p, .int .i64 0, .int .i64 (1 + x18), .int .i64 1, .slice wa10 3 3, .slice none 0 0, .slice none 0 0, .int .i64 0, .int .i64 0, .slice none 0 0, .slice none 0 0, .int .i64 0, .slice none 0 0, .int .i64 9] = z := ⟨_, rfl⟩
  have H60 := hid (show St B W [.cells D14 A9 33, .cells D4 #[.int .i64 0, .int .i64 3] 3, .tape K1] [] w59 from by have h9 := H58.out; rw [hA9] at h9; exact h9)
  have HA9 := hid hA9.symm
  clear hA9
  go_wp2_with fail
  refine (nextB_any B K1 _ _ (by omega) (H60.out.tapeAt 2 rfl)).mono ?_
  rintro e w62 ⟨x61, rfl, x61a, x61b, htn, hgn, hsn⟩
  have H63 := hid (H60.out.next 2 rfl htn hgn)
  clear htn hgn hsn
  go_wp2_with fail
  refine (mod_any _ _ _ (by omega) (by omega)).mono ?_
  rintro e w64 ⟨rfl, hsw⟩
  have hsw2 : w62 = w64 := by first | exact hsw | exact hsw.symm
  clear hsw
  subst hsw2
  obtain ⟨md65, hmd65⟩ : ∃ xx', fr % (1 + x61) = xx' := ⟨_, rfl⟩
  rw [hmd65]
  have HNmd65 := hid hmd65
  clear hmd65
  obtain ⟨md65a, md65b⟩ : 0 ≤ md65 ∧ md65 < 1 + x61 := by rw [← HNmd65.out]; exact ⟨Int.emod_nonneg _ (by omega), Int.emod_lt_of_pos _ (by omega)⟩
  go_wp2_with fail
  refine (nextB_any B K1 _ _ (by omega) (H63.out.tapeAt 2 rfl)).mono ?_
  rintro e w67 ⟨x66, rfl, x66a, x66b, htn, hgn, hsn⟩
  have H68 := hid (H63.out.next 2 rfl htn hgn)
  clear htn hgn hsn
  have z69 := H68.out.loadStg 0 rfl (by rw [HA9.out]; rfl)
  go_wp2_with (refine loadArm z69 (by rfl) (by rfl) ?_)
  clear z69
  refine (columns_A HA9.out [] [] _ _ _ _ (Tps.nil _) (Tps.nil _)).mono ?_
  rintro e w70 ⟨v71, rfl, ho, hb⟩
  have H72 := hid (H68.out.grow hb ho)
  obtain ⟨v71a, v71c, rfl, _⟩ := ho.slc
  clear ho hb
  obtain ⟨L9, hL9⟩ : ∃ xx', stCol 1 (-1) p 0 (1 + x18) 1 3 0 0 0 0 0 0 0 0 9 [] [] (1 + x61) md65 (md65 + 1 + x66) = xx' := ⟨_, rfl⟩
  rw [hL9] at H72 ⊢
  have HLL9 := hid hL9
  clear hL9
  go_upto_region 8 with fail
  obtain ⟨hf, hhf⟩ : ∃ z, Int.tdiv (1 + x18) 2 = z := ⟨_, rfl⟩
  have hf1 : 0 ≤ hf ∧ hf ≤ 4 := by rw [← hhf, Int.tdiv_eq_ediv_of_nonneg (by omega)]; omega
  have HHF := hid hhf
  have whf : IntKind.i64.wrap hf = hf := IntWalk.i64_in _ (by omega)
  have z73 := H72.out.cell 1 rfl 6 (show A9[6]? = some (.int .i64 (1 + x18)) from by rw [HA9.out]; rfl)
  have z74 := H72.out.cell 1 rfl 4 (show A9[4]? = some (.int .i64 p) from by rw [HA9.out]; rfl)
  go_wp2_with fail
  clear z73 z74
  refine (range_any _ _ _ _ _).mono ?_
  rintro e w75 ⟨lo, hi, ok, rfl, hrs, hsw⟩
  have hsw2 : w70 = w75 := by first | exact hsw | exact hsw.symm
  clear hsw
  subst hsw2
  obtain ⟨hok, hlen, lo0, lohi, hiw, hall⟩ := ranges_law (K := 1 + x18) (w := 1 + x61) (a := md65) (b := md65 + 1 + x66) hp ⟨by omega, by omega⟩ HHF.out ⟨by omega, by omega⟩ ⟨by omega, by omega⟩ (by omega) hrs
  subst hok
  rw [HLL9.out] at hlen hall
  have HALL := hid hall
  clear hall hrs
  obtain ⟨LN, hLN⟩ : ∃ m : Nat, L9.length = m := ⟨_, rfl⟩
  have HLN := hid hLN
  rw [hLN] at hlen
  have hne : (((LN : Nat) : Int) != hi - lo + 1) = false := by simpa using hlen
  have H76 := hid (show St B W [.own (.slice v71a LN v71c) L9, .cells D14 A9 33, .cells D4 #[.int .i64 0, .int .i64 3] 3, .tape K1] [] w70 from by have h9 := H72.out; rw [hLN] at h9; exact h9)
  rw [hLN]
  clear hLN
  go_upto_region 11 with fail
  obtain ⟨g9, c9, hva⟩ := (H76.out.own 0 rfl).pos (by rw [HLN.out]; omega)
  injection hva with hv1 hv2 hv3
  subst hv1 hv3
  go_wp2_with fail
  go_loopw [14] (fun i wr => ∃ j : Nat, j ≤ LN ∧ i = .int .i64 j ∧ St B W [.own (.slice (some ⟨g9, 0, none⟩) LN v71c) L9, .cells D14 A9 33, .cells D4 #[.int .i64 0, .int .i64 3] 3, .tape K1] [] wr) (fun i _ => LN - (intOf i).toNat)
  case atStart => exact ⟨0, by omega, rfl, H76.out⟩
  case round =>
    obtain ⟨j, hj, rfl, hst⟩ := hrel
    obtain ⟨u77, rfl⟩ : ∃ u77 : World, u77 = wr := ⟨_, rfl⟩
    have H78 := hid hst
    clear hst
    by_cases hjn : j < LN
    · skip
      have hjn' : (j : Int) < LN := by omega
      have cz := (H78.out.get 0 rfl (j := j) (by rw [HLN.out]; exact hjn)).1
      rw [HALL.out j (by rw [HLN.out]; exact hjn)] at cz
      go_wp2_with fail
      go_roundw
      case rel => exact ⟨j + 1, by omega, by go_num, H78.out⟩
      case measure => first | (simp [intOf]; omega) | (simp [intOf]; done)
    · skip
      have hjn' : ¬ ((j : Int) < LN) := by omega
      go_wp2_with fail
      refine (sane16 _).mono ?_
      rintro e w79 ⟨rfl, hb⟩
      have H80 := hid (H78.out.call hb)
      clear hb
      go_wp2_with fail
      go_ret
      exact ⟨rfl, by first | exact H80.out.below | exact H80.out.below'⟩
end Go.Proofs.Ytlidacfokgdlgaa
