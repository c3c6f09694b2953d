/-
  The walk of PlaneBlits: cropping what was blitted gives it back; blitting a crop at its place changes nothing; other pixels stay.
-/
import Derived.Test.YtoojiabdgaflgaaSane4
import Derived.Test.YtoojiabdgaflgaaTRect
import Derived.Test.YtoojiabdgaflgaaNear
import Derived.Test.YtoojiabdgaflgaaPlaneLaw
namespace Go.Proofs.Ytoojiabdgaflgaa
open Go.RowKit
attribute [local go_sem ↓] Go.wp_at_zero Go.wp_at_succ
set_option linter.unusedVariables false


set_option maxRecDepth 100000 in
set_option maxHeartbeats 1600000 in
theorem qcontains_any (a0 a1 a2 a3 x y : Int) (w : World) :
    Calls Try.prog 63 #[.agg #[.int .i64 a0, .int .i64 a1, .int .i64 a2, .int .i64 a3], .int .i64 x, .int .i64 y] w fun e w' => e = .returned (.bool (rContains a0 a1 a2 a3 x y)) ∧ Below w.heap.size w w' := by
  obtain ⟨B, hB⟩ : ∃ B, w.heap.size = B := ⟨_, rfl⟩
  cases va : rValid a0 a1 a2 a3 with
  | false =>
    have VA := hid va
    clear va
    go_enter Try.func63, Try.ntmps63
    go_wp2_with fail
    refine (qvalid_any _ _ _ _ _).mono ?_
    rintro e w1 ⟨rfl, hb⟩
    rw [VA.out]
    have S1 := hid (Since.call ((Since.self hB).alloc _) hb)
    clear hb 
    go_wp2
    go_ret
    exact ⟨ret_b (by simp [rContains, VA.out]), by first | exact S1.out.all hB | exact S1.out.below⟩
  | true =>
    have VA := hid va
    clear va
    go_enter Try.func63, Try.ntmps63
    go_wp2_with fail
    refine (qvalid_any _ _ _ _ _).mono ?_
    rintro e w1 ⟨rfl, hb⟩
    rw [VA.out]
    obtain ⟨KA, a1_0, a1_1, a1_2, a1_3⟩ := kept4 hb (alloc_at _ hB)
    have S1 := hid (Since.call ((Since.self hB).alloc _) hb)
    have HA1 := hid KA
    clear hb KA
    go_wp2
    all_goals go_ret
    all_goals refine ⟨ret_b ?_, by first | exact S1.out.all hB | exact S1.out.below⟩
    all_goals (simp only [rContains, VA.out])
    all_goals go_light
    all_goals (refine bool_of_iff ?_; simp; try omega)

set_option linter.unusedSimpArgs false

set_option maxRecDepth 100000 in
set_option maxHeartbeats 12800000 in
theorem walk_PlaneBlits (a : Option Addr) (n c : Nat) (zs : List Int) (atv : Int) (W : World) (hr : RowIn .i64 W a n c zs) (_ : I64 atv) :
    Calls Try.prog 16 #[.slice a n c, .int .i64 atv] W fun e w' => e = .returned (.bool true) ∧ Below W.heap.size W w' := by
  obtain ⟨B, hB⟩ : ∃ B, W.heap.size = B := ⟨_, rfl⟩
  have HI0 := hid (St.init hB)
  have HN := hid (nearRow hr hB)
  have HR := hid hr
  clear hr
  go_enter Try.func16, Try.ntmps16
  go_wp2_with fail
  obtain ⟨K1, hK1⟩ : ∃ D, W.heap.size = D := ⟨_, rfl⟩
  refine (newB_any B _ _ _ _ _ HR.out.len (HI0.out.oldRow HR.out.row) HN.out HI0.out.size).mono ?_
  rintro e w2 ⟨rfl, ht, hb, hs⟩
  rw [hK1] at ht ⊢
  have H3 := hid (HI0.out.newTape ht hb hK1)
  clear ht hb hs hK1
  go_wp2_with fail
  refine (nextB_any B K1 _ _ (by omega) (H3.out.tapeAt 0 rfl)).mono ?_
  rintro e w5 ⟨x4, rfl, x4a, x4b, htn, hgn, hsn⟩
  have H6 := hid (H3.out.next 0 rfl htn hgn)
  clear htn hgn hsn
  go_wp2_with fail
  refine (nextB_any B K1 _ _ (by omega) (H6.out.tapeAt 0 rfl)).mono ?_
  rintro e w8 ⟨x7, rfl, x7a, x7b, htn, hgn, hsn⟩
  have H9 := hid (H6.out.next 0 rfl htn hgn)
  clear htn hgn hsn
  go_wp2_with fail
  refine (sized_any B K1 _ _ _ (by omega) (by omega) (by omega) (by omega) (H9.out.tapeAt 0 rfl)).mono ?_
  rintro e w11 ⟨pm10, pv10, ps10, rfl, hv, hm, ho, ht, hg⟩
  have H12 := hid (H9.out.add (H9.out.next 0 rfl ht hg) ho)
  obtain ⟨pw10, hpw10⟩ : ∃ z, 2 + x4 = z := ⟨_, rfl⟩
  rw [hpw10] at hv ⊢
  have Hpw10 := hid hpw10
  obtain ⟨pw101, pw102⟩ : 1 ≤ pw10 ∧ pw10 ≤ 12 := by omega
  clear hpw10
  obtain ⟨ph10, hph10⟩ : ∃ z, 2 + x7 = z := ⟨_, rfl⟩
  rw [hph10] at hv ⊢
  have Hph10 := hid hph10
  obtain ⟨ph101, ph102⟩ : 1 ≤ ph10 ∧ ph10 ≤ 12 := by omega
  clear hph10
  have HVps10 := hid hv
  have HMps10 := hid hm
  obtain ⟨pv10a, pv10c, rfl, _⟩ := ho.slc
  clear hv hm ho ht hg
  obtain ⟨D13, hD13⟩ : ∃ D, w11.heap.size = D := ⟨_, rfl⟩
  go_upto_region 3 with fail
  have H14 := hid (show St B W [.cells D13 #[.int .i64 pw10, .int .i64 ph10, .int .i64 pm10, .slice pv10a ps10.length pv10c] 26, .own (.slice pv10a ps10.length pv10c) ps10, .tape K1] [] (w11.alloc (.cells #[.int .i64 pw10, .int .i64 ph10, .int .i64 pm10, .slice pv10a ps10.length pv10c] 26)) from (H12.out.alloc #[.int .i64 pw10, .int .i64 ph10, .int .i64 pm10, .slice pv10a ps10.length pv10c] 26 hD13))
  first | refine gen_code H14.out ?_ | refine gen_list H14.out ?_ | refine gen_calls H14.out ?_
  intro w15 hG
  clear H14
  have H14 := hid hG
  clear hG
  clear hD13
  have z16 := H14.out.cell 0 rfl 0 rfl
  have z17 := H14.out.cell 0 rfl 1 rfl
  have z18 := H14.out.cell 0 rfl 2 rfl
  have z19 := H14.out.cell 0 rfl 3 rfl
  go_wp2_with fail
  clear z16 z17 z18 z19
  refine (within_any B K1 _ _ _ (by omega) (by omega) (by omega) (by omega) (H14.out.tapeAt 2 rfl)).mono ?_
  rintro e w21 ⟨q20_0, q20_1, q20_2, q20_3, rfl, hq20, ht, hg⟩
  have H22 := hid (H14.out.next 2 rfl ht hg)
  have HWq20 := hid hq20
  clear hq20 ht hg
  obtain ⟨hq0, hq1, hq2, hq3, hq4, hq5⟩ := HWq20.out
  obtain ⟨D23, hD23⟩ : ∃ D, w21.heap.size = D := ⟨_, rfl⟩
  go_upto_region 4 with fail
  have H24 := hid (show St B W [.cells D23 #[.int .i64 q20_0, .int .i64 q20_1, .int .i64 q20_2, .int .i64 q20_3] 39, .cells D13 #[.int .i64 pw10, .int .i64 ph10, .int .i64 pm10, .slice pv10a ps10.length pv10c] 26, .own (.slice pv10a ps10.length pv10c) ps10, .tape K1] [] (w21.alloc (.cells #[.int .i64 q20_0, .int .i64 q20_1, .int .i64 q20_2, .int .i64 q20_3] 39)) from (H22.out.alloc #[.int .i64 q20_0, .int .i64 q20_1, .int .i64 q20_2, .int .i64 q20_3] 39 hD23))
  first | refine gen_code H24.out ?_ | refine gen_list H24.out ?_ | refine gen_calls H24.out ?_
  intro w25 hG
  clear H24
  have H24 := hid hG
  clear hG
  clear hD23
  have z26 := H24.out.cell 1 rfl 0 rfl
  have z27 := H24.out.cell 1 rfl 1 rfl
  have z28 := H24.out.cell 1 rfl 2 rfl
  have z29 := H24.out.cell 1 rfl 3 rfl
  have z30 := H24.out.cell 0 rfl 0 rfl
  have z31 := H24.out.cell 0 rfl 1 rfl
  have z32 := H24.out.cell 0 rfl 2 rfl
  have z33 := H24.out.cell 0 rfl 3 rfl
  go_wp2_with fail
  clear z26 z27 z28 z29 z30 z31 z32 z33
  refine (pcrop_any _ _ _ _ _ _ ps10 _ _ _ _ _ (H24.out.slc 2 rfl)).mono ?_
  rintro e w34 ⟨v35, rfl, ho, hb⟩
  have hcv := crop_ok HVps10.out HWq20.out
  have hci : ∀ z, cIf pw10 ph10 pm10 ps10 q20_0 q20_1 q20_2 q20_3 z = z := fun z => by unfold cIf; rw [if_pos hcv]
  have hcl : cList pw10 ph10 pm10 ps10 q20_0 q20_1 q20_2 q20_3 = cAll pw10 ps10 q20_0 q20_1 q20_2 q20_3 := by unfold cList; rw [if_pos hcv]
  simp only [hci, hcv]
  rw [hcl] at ho
  clear hci hcl hcv
  obtain ⟨l37, hl37⟩ : ∃ z, cAll pw10 ps10 q20_0 q20_1 q20_2 q20_3 = z := ⟨_, rfl⟩
  rw [hl37] at ho
  have HNl37 := hid hl37
  clear hl37
  obtain ⟨cw38, hcw38⟩ : ∃ z, q20_2 - q20_0 = z := ⟨_, rfl⟩
  rw [hcw38]
  have HNcw38 := hid hcw38
  clear hcw38
  obtain ⟨ch39, hch39⟩ : ∃ z, q20_3 - q20_1 = z := ⟨_, rfl⟩
  rw [hch39]
  have HNch39 := hid hch39
  clear hch39
  have HVl37 := hid (show pValid cw38 ch39 pm10 l37 = true from by rw [← HNcw38.out, ← HNch39.out, ← HNl37.out]; exact crop_valid HVps10.out HWq20.out)
  have H36 := hid (H24.out.grow hb ho)
  obtain ⟨v35a, v35c, rfl, _⟩ := ho.slc
  clear ho hb
  obtain ⟨D40, hD40⟩ : ∃ D, w34.heap.size = D := ⟨_, rfl⟩
  go_upto_region 5 with fail
  have H41 := hid (show St B W [.cells D40 #[.int .i64 cw38, .int .i64 ch39, .int .i64 pm10, .slice v35a l37.length v35c] 26, .own (.slice v35a l37.length v35c) l37, .cells D23 #[.int .i64 q20_0, .int .i64 q20_1, .int .i64 q20_2, .int .i64 q20_3] 39, .cells D13 #[.int .i64 pw10, .int .i64 ph10, .int .i64 pm10, .slice pv10a ps10.length pv10c] 26, .own (.slice pv10a ps10.length pv10c) ps10, .tape K1] [] (w34.alloc (.cells #[.int .i64 cw38, .int .i64 ch39, .int .i64 pm10, .slice v35a l37.length v35c] 26)) from (H36.out.alloc #[.int .i64 cw38, .int .i64 ch39, .int .i64 pm10, .slice v35a l37.length v35c] 26 hD40))
  first | refine gen_code H41.out ?_ | refine gen_list H41.out ?_ | refine gen_calls H41.out ?_
  intro w42 hG
  clear H41
  have H41 := hid hG
  clear hG
  clear hD40
  have z43 := H41.out.cell 3 rfl 0 rfl
  have z44 := H41.out.cell 3 rfl 1 rfl
  have z45 := H41.out.cell 3 rfl 2 rfl
  have z46 := H41.out.cell 3 rfl 3 rfl
  have z47 := H41.out.cell 0 rfl 0 rfl
  have z48 := H41.out.cell 0 rfl 1 rfl
  have z49 := H41.out.cell 0 rfl 2 rfl
  have z50 := H41.out.cell 0 rfl 3 rfl
  have z51 := H41.out.cell 2 rfl 0 rfl
  have z52 := H41.out.cell 2 rfl 1 rfl
  have z53 := H41.out.cell 2 rfl 2 rfl
  have z54 := H41.out.cell 2 rfl 3 rfl
  go_wp2_with fail
  clear z43 z44 z45 z46 z47 z48 z49 z50 z51 z52 z53 z54
  have HBC := hid (show bl ps10 l37 pw10.toNat q20_0.toNat q20_1.toNat cw38.toNat ch39.toNat = ps10 from by rw [← HNl37.out, ← HNcw38.out, ← HNch39.out]; exact blit_crop' HVps10.out HWq20.out)
  have hcv := blit_ok HVps10.out HVl37.out (x := q20_0) (y := q20_1) (by have h1 := HNcw38.out; have h2 := HNch39.out; have h3 := HWq20.out; omega)
  refine (pblit_any _ _ _ _ _ _ ps10 _ _ _ _ _ _ l37 _ _ _ (H41.out.slc 4 rfl) (H41.out.slc 1 rfl)).mono ?_
  rintro e w55 ⟨v56, rfl, ho, hb⟩
  have hci : ∀ z, blIf pw10 ph10 pm10 ps10 cw38 ch39 pm10 l37 q20_0 q20_1 z = z := fun z => by unfold blIf; rw [if_pos hcv]
  have hcl : blList pw10 ph10 pm10 ps10 cw38 ch39 pm10 l37 q20_0 q20_1 = bl ps10 l37 pw10.toNat q20_0.toNat q20_1.toNat cw38.toNat ch39.toNat := by unfold blList; rw [if_pos hcv]
  simp only [hci, hcv]
  rw [hcl] at ho
  clear hci hcl hcv
  obtain ⟨l58, hl58⟩ : ∃ z, bl ps10 l37 pw10.toNat q20_0.toNat q20_1.toNat cw38.toNat ch39.toNat = z := ⟨_, rfl⟩
  rw [hl58] at ho
  have HNl58 := hid hl58
  clear hl58
  have H57 := hid (H41.out.grow hb ho)
  obtain ⟨v56a, v56c, rfl, _⟩ := ho.slc
  clear ho hb
  have hle : ps10 = l58 := by rw [← HNl58.out]; exact HBC.out.symm
  subst hle
  obtain ⟨D59, hD59⟩ : ∃ D, w55.heap.size = D := ⟨_, rfl⟩
  go_upto_region 6 with fail
  have H60 := hid (show St B W [.cells D59 #[.int .i64 pw10, .int .i64 ph10, .int .i64 pm10, .slice v56a ps10.length v56c] 26, .own (.slice v56a ps10.length v56c) ps10, .cells D40 #[.int .i64 cw38, .int .i64 ch39, .int .i64 pm10, .slice v35a l37.length v35c] 26, .own (.slice v35a l37.length v35c) l37, .cells D23 #[.int .i64 q20_0, .int .i64 q20_1, .int .i64 q20_2, .int .i64 q20_3] 39, .cells D13 #[.int .i64 pw10, .int .i64 ph10, .int .i64 pm10, .slice pv10a ps10.length pv10c] 26, .own (.slice pv10a ps10.length pv10c) ps10, .tape K1] [] (w55.alloc (.cells #[.int .i64 pw10, .int .i64 ph10, .int .i64 pm10, .slice v56a ps10.length v56c] 26)) from (H57.out.alloc #[.int .i64 pw10, .int .i64 ph10, .int .i64 pm10, .slice v56a ps10.length v56c] 26 hD59))
  first | refine gen_code H60.out ?_ | refine gen_list H60.out ?_ | refine gen_calls H60.out ?_
  intro w61 hG
  clear H60
  have H60 := hid hG
  clear hG
  clear hD59
  have z62 := H60.out.cell 0 rfl 0 rfl
  have z63 := H60.out.cell 0 rfl 1 rfl
  have z64 := H60.out.cell 0 rfl 2 rfl
  have z65 := H60.out.cell 0 rfl 3 rfl
  have z66 := H60.out.cell 5 rfl 0 rfl
  have z67 := H60.out.cell 5 rfl 1 rfl
  have z68 := H60.out.cell 5 rfl 2 rfl
  have z69 := H60.out.cell 5 rfl 3 rfl
  go_wp2_with fail
  clear z62 z63 z64 z65 z66 z67 z68 z69
  refine (pequal_any _ _ _ _ _ _ ps10 _ _ _ _ _ _ ps10 _ (H60.out.slc 1 rfl) (H60.out.slc 6 rfl)).mono ?_
  rintro e w70 ⟨rfl, hb⟩
  have H71 := hid (H60.out.call hb)
  clear hb
  rw [show pEq pw10 ph10 pm10 ps10 pw10 ph10 pm10 ps10 = true from by simp [pEq]]
  go_wp2_with fail
  have hvq := HVl37.out
  have HQ0 := hid (show ∀ i, 0 ≤ l37.getD i 0 ∧ l37.getD i 0 ≤ pm10 from fun i => by
    rcases Nat.lt_or_ge i l37.length with h | h
    · exact (pValid_iff.1 hvq).2.2 _ (getD_mem' h)
    · rw [List.getD_eq_getElem?_getD, List.getElem?_eq_none h]
      have := (pOk_iff.1 (pValid_iff.1 hvq).1).2.2.2.2.2.1
      show (0 : Int) ≤ 0 ∧ (0 : Int) ≤ _
      omega)
  obtain ⟨hvl1, hvl2⟩ := valid_len hvq
  have hpm1 := (pOk_iff.1 (pValid_iff.1 hvq).1).2.2.2.2.2
  obtain ⟨hpm2, hpm3⟩ := hpm1
  clear hvq
  go_loopw [12] (fun i wr => ∃ (j : Nat) (ql : List Int), j ≤ l37.length ∧ ql.length = l37.length ∧ (∀ i, 0 ≤ ql.getD i 0 ∧ ql.getD i 0 ≤ pm10) ∧ i = .int .i64 j ∧ St B W [.cells D59 #[.int .i64 pw10, .int .i64 ph10, .int .i64 pm10, .slice v56a ps10.length v56c] 26, .own (.slice v56a ps10.length v56c) ps10, .cells D40 #[.int .i64 cw38, .int .i64 ch39, .int .i64 pm10, .slice v35a l37.length v35c] 26, .own (.slice v35a l37.length v35c) ql, .cells D23 #[.int .i64 q20_0, .int .i64 q20_1, .int .i64 q20_2, .int .i64 q20_3] 39, .cells D13 #[.int .i64 pw10, .int .i64 ph10, .int .i64 pm10, .slice pv10a ps10.length pv10c] 26, .own (.slice pv10a ps10.length pv10c) ps10, .tape K1] [] wr) (fun i _ => l37.length - (intOf i).toNat)
  case atStart => exact ⟨0, l37, by omega, rfl, HQ0.out, rfl, H71.out⟩
  case round =>
    obtain ⟨j, ql, hj, hql, hqi, rfl, hst⟩ := hrel
    obtain ⟨u72, rfl⟩ : ∃ u72 : World, u72 = wr := ⟨_, rfl⟩
    have H73 := hid hst
    clear hst
    have HLQ := hid hql
    have HQI := hid hqi
    clear hql hqi
    by_cases hjn : j < l37.length
    · skip
      have hjn' : (j : Int) < l37.length := by omega
      obtain ⟨gg, gc, hgg⟩ := (H73.out.own 3 rfl).pos (by rw [HLQ.out]; omega)
      rw [HLQ.out] at hgg
      injection hgg with hga hgb hgc
      subst hga
      clear hgb hgc
      have wpm : IntKind.i64.wrap (pm10 + 1) = pm10 + 1 := IntWalk.i64_in _ (by omega)
      have z74 := H73.out.cell 2 rfl 0 rfl
      have z75 := H73.out.cell 2 rfl 1 rfl
      have z76 := H73.out.cell 2 rfl 2 rfl
      have z77 := H73.out.cell 2 rfl 3 rfl
      go_upto_region 11 with fail
      clear z74 z75 z76 z77
      have H78 := hid H73.out.drew
      refine wp_region_held_drew (S := (fun w' => w'.cell? ⟨D40, 0, none⟩ = some (.int .i64 cw38) ∧ w'.cell? ⟨D40, 1, none⟩ = some (.int .i64 ch39) ∧ w'.cell? ⟨D40, 2, none⟩ = some (.int .i64 pm10) ∧ w'.cell? ⟨D40, 3, none⟩ = some (.slice (some ⟨gg, 0, none⟩) l37.length v35c) ∧ w'.cell? ⟨D13, 0, none⟩ = some (.int .i64 pw10) ∧ w'.cell? ⟨D13, 1, none⟩ = some (.int .i64 ph10) ∧ w'.cell? ⟨D13, 2, none⟩ = some (.int .i64 pm10) ∧ w'.cell? ⟨D13, 3, none⟩ = some (.slice pv10a ps10.length pv10c))) (by kernel_rfl) ⟨H78.out.cell 2 rfl 0 rfl, H78.out.cell 2 rfl 1 rfl, H78.out.cell 2 rfl 2 rfl, H78.out.cell 2 rfl 3 rfl, H78.out.cell 5 rfl 0 rfl, H78.out.cell 5 rfl 1 rfl, H78.out.cell 5 rfl 2 rfl, H78.out.cell 5 rfl 3 rfl⟩ (fun hHeld => ?_)
      generalize u72.drew = k79 at *
      refine wpAnyH_take (i := 0) (oi := _) (v := ?_) rfl (by kernel_rfl) (by kernel_rfl) (by kernel_rfl) (fun _ _ _ h => h) (Or.inl ⟨by rfl, ?_⟩) (by assumption) ?_
      rotate_left
      focus (intro wS hSw; (try dsimp only at hSw); go_simp; (try with_reducible rfl))
      try simp only [Act.put, List.getElem_toArray, List.getElem_cons_zero, List.getElem_cons_succ, List.setIfInBounds_toArray, List.set_cons_zero, List.set_cons_succ]
      refine wpAnyH_take (i := 1) (oi := _) (v := ?_) rfl (by kernel_rfl) (by kernel_rfl) (by kernel_rfl) (fun _ _ _ h => h) (Or.inl ⟨by rfl, ?_⟩) (by assumption) ?_
      rotate_left
      focus (intro wS hSw; (try dsimp only at hSw); go_simp; (try with_reducible rfl))
      try simp only [Act.put, List.getElem_toArray, List.getElem_cons_zero, List.getElem_cons_succ, List.setIfInBounds_toArray, List.set_cons_zero, List.set_cons_succ]
      refine wpAnyH_take (i := 2) (oi := _) (v := ?_) rfl (by kernel_rfl) (by kernel_rfl) (by kernel_rfl) (fun _ _ _ h => h) (Or.inl ⟨by rfl, ?_⟩) (by assumption) ?_
      rotate_left
      focus (intro wS hSw; (try dsimp only at hSw); go_simp; (try with_reducible rfl))
      try simp only [Act.put, List.getElem_toArray, List.getElem_cons_zero, List.getElem_cons_succ, List.setIfInBounds_toArray, List.set_cons_zero, List.set_cons_succ]
      refine wpAnyH_take (i := 3) (oi := _) (v := ?_) rfl (by kernel_rfl) (by kernel_rfl) (by kernel_rfl) (fun _ _ _ h => h) (Or.inl ⟨by rfl, ?_⟩) (by assumption) ?_
      rotate_left
      focus (intro wS hSw; (try dsimp only at hSw); go_simp; (try with_reducible rfl))
      try simp only [Act.put, List.getElem_toArray, List.getElem_cons_zero, List.getElem_cons_succ, List.setIfInBounds_toArray, List.set_cons_zero, List.set_cons_succ]
      refine wpAnyH_take (i := 4) (oi := _) (v := ?_) rfl (by kernel_rfl) (by kernel_rfl) (by kernel_rfl) (fun _ _ _ h => h) (Or.inl ⟨by rfl, ?_⟩) (by assumption) ?_
      rotate_left
      focus (intro wS hSw; (try dsimp only at hSw); go_simp; (try with_reducible rfl))
      try simp only [Act.put, List.getElem_toArray, List.getElem_cons_zero, List.getElem_cons_succ, List.setIfInBounds_toArray, List.set_cons_zero, List.set_cons_succ]
      refine wpAnyH_take (i := 5) (oi := _) (v := ?_) rfl (by kernel_rfl) (by kernel_rfl) (by kernel_rfl) (fun _ _ _ h => h) (Or.inl ⟨by rfl, ?_⟩) (by assumption) ?_
      rotate_left
      focus (intro wS hSw; (try dsimp only at hSw); go_simp; (try with_reducible rfl))
      try simp only [Act.put, List.getElem_toArray, List.getElem_cons_zero, List.getElem_cons_succ, List.setIfInBounds_toArray, List.set_cons_zero, List.set_cons_succ]
      refine wpAnyH_take (i := 6) (oi := _) (v := ?_) rfl (by kernel_rfl) (by kernel_rfl) (by kernel_rfl) (fun _ _ _ h => h) (Or.inl ⟨by rfl, ?_⟩) (by assumption) ?_
      rotate_left
      focus (intro wS hSw; (try dsimp only at hSw); go_simp; (try with_reducible rfl))
      try simp only [Act.put, List.getElem_toArray, List.getElem_cons_zero, List.getElem_cons_succ, List.setIfInBounds_toArray, List.set_cons_zero, List.set_cons_succ]
      refine wpAnyH_ready (rs := [7]) (by kernel_rfl) (by simp) (AllReadyH.cons (o := _) rfl (fun K hK => ?_) AllReadyH.nil)
      go_simp
      go_at_call 20
      refine (nextB_any B K1 _ _ (by omega) (H78.out.tapeAt 7 rfl)).mono ?_
      rintro e w81 ⟨x80, rfl, x80a, x80b, htn, hgn, hsn⟩
      have H82 := hid (H78.out.next 7 rfl htn hgn)
      clear htn hgn hsn
      have HZ1 := hid x80a
      have HZ2 := hid (show x80 ≤ pm10 from by omega)
      refine hK.out _ _ ?_ (fun hHeld2 => ?_)
      focus ((try dsimp only); (exact ⟨H82.out.cell 2 rfl 0 rfl, H82.out.cell 2 rfl 1 rfl, H82.out.cell 2 rfl 2 rfl, H82.out.cell 2 rfl 3 rfl, H82.out.cell 5 rfl 0 rfl, H82.out.cell 5 rfl 1 rfl, H82.out.cell 5 rfl 2 rfl, H82.out.cell 5 rfl 3 rfl⟩))
      clear hK K
      try simp only [Act.put, List.getElem_toArray, List.getElem_cons_zero, List.getElem_cons_succ, List.setIfInBounds_toArray, List.set_cons_zero, List.set_cons_succ]
      clear hHeld
      have hHeld := hHeld2
      clear hHeld2
      refine wpAnyH_take (i := 8) (oi := _) (v := ?_) rfl (by kernel_rfl) (by kernel_rfl) (by kernel_rfl) (fun _ _ _ h => h) (Or.inl ⟨by rfl, ?_⟩) (by assumption) ?_
      rotate_left
      focus (intro wS hSw; (try dsimp only at hSw); go_simp; (try with_reducible rfl))
      try simp only [Act.put, List.getElem_toArray, List.getElem_cons_zero, List.getElem_cons_succ, List.setIfInBounds_toArray, List.set_cons_zero, List.set_cons_succ]
      refine wpAnyH_ready (rs := [9]) (by kernel_rfl) (by simp) (AllReadyH.cons (o := _) rfl (fun K hK => ?_) AllReadyH.nil)
      obtain ⟨s83, s84⟩ := H82.out.get 3 rfl (j := j) (by rw [HLQ.out]; exact hjn)
      have H85 := hid (show St B W [.cells D59 #[.int .i64 pw10, .int .i64 ph10, .int .i64 pm10, .slice v56a ps10.length v56c] 26, .own (.slice v56a ps10.length v56c) ps10, .cells D40 #[.int .i64 cw38, .int .i64 ch39, .int .i64 pm10, .slice (some ⟨gg, 0, none⟩) l37.length v35c] 26, .own (.slice (some ⟨gg, 0, none⟩) l37.length v35c) (ql.set j x80), .cells D23 #[.int .i64 q20_0, .int .i64 q20_1, .int .i64 q20_2, .int .i64 q20_3] 39, .cells D13 #[.int .i64 pw10, .int .i64 ph10, .int .i64 pm10, .slice pv10a ps10.length pv10c] 26, .own (.slice pv10a ps10.length pv10c) ps10, .tape K1] [] (w81.setCell ⟨gg, j, none⟩ (.int .i64 x80)) from (H82.out.store 3 rfl j x80))
      go_simp
      refine hK.out _ _ ?_ (fun hHeld2 => ?_)
      focus ((try dsimp only); (exact ⟨H85.out.cell 2 rfl 0 rfl, H85.out.cell 2 rfl 1 rfl, H85.out.cell 2 rfl 2 rfl, H85.out.cell 2 rfl 3 rfl, H85.out.cell 5 rfl 0 rfl, H85.out.cell 5 rfl 1 rfl, H85.out.cell 5 rfl 2 rfl, H85.out.cell 5 rfl 3 rfl⟩))
      clear hK K hHeld
      try simp only [Act.put, List.getElem_toArray, List.getElem_cons_zero, List.getElem_cons_succ, List.setIfInBounds_toArray, List.set_cons_zero, List.set_cons_succ]
      clear s83 s84
      generalize (w81.setCell ⟨gg, j, none⟩ (.int .i64 x80)) = k86 at *
      have hHeld := hHeld2
      clear hHeld2
      refine wpAnyH_done (by kernel_rfl) ?_ _
      try clear hHeld
      go_wp2_with fail
      go_roundw
      case rel => exact ⟨j + 1, _, by omega, by rw [List.length_set]; exact HLQ.out, in_set HQI.out HZ1.out HZ2.out, by go_num, H85.out⟩
      case measure => first | (simp [intOf]; omega) | (simp [intOf]; done)
    · skip
      have hjn' : ¬ ((j : Int) < l37.length) := by omega
      have HVql := hid (show pValid cw38 ch39 pm10 ql = true from pValid_iff.2 ⟨(pValid_iff.1 HVl37.out).1, by rw [HLQ.out]; exact (pValid_iff.1 HVl37.out).2.1, fun v hv => by obtain ⟨i, hi, rfl⟩ := mem_getD' hv; exact HQI.out i⟩)
      have z87 := H73.out.cell 2 rfl 0 rfl
      have z88 := H73.out.cell 2 rfl 1 rfl
      have z89 := H73.out.cell 2 rfl 2 rfl
      have z90 := H73.out.cell 2 rfl 3 rfl
      have z91 := H73.out.cell 5 rfl 0 rfl
      have z92 := H73.out.cell 5 rfl 1 rfl
      have z93 := H73.out.cell 5 rfl 2 rfl
      have z94 := H73.out.cell 5 rfl 3 rfl
      have z95 := H73.out.cell 4 rfl 0 rfl
      have z96 := H73.out.cell 4 rfl 1 rfl
      have z97 := H73.out.cell 4 rfl 2 rfl
      have z98 := H73.out.cell 4 rfl 3 rfl
      go_wp2_with fail
      clear z87 z88 z89 z90 z91 z92 z93 z94 z95 z96 z97 z98
      have hcv := blit_ok HVps10.out HVql.out (x := q20_0) (y := q20_1) (by have h1 := HNcw38.out; have h2 := HNch39.out; have h3 := HWq20.out; omega)
      refine (pblit_any _ _ _ _ _ _ ps10 _ _ _ _ _ _ ql _ _ _ (H73.out.slc 6 rfl) (H73.out.slc 3 rfl)).mono ?_
      rintro e w99 ⟨v100, rfl, ho, hb⟩
      have hci : ∀ z, blIf pw10 ph10 pm10 ps10 cw38 ch39 pm10 ql q20_0 q20_1 z = z := fun z => by unfold blIf; rw [if_pos hcv]
      have hcl : blList pw10 ph10 pm10 ps10 cw38 ch39 pm10 ql q20_0 q20_1 = bl ps10 ql pw10.toNat q20_0.toNat q20_1.toNat cw38.toNat ch39.toNat := by unfold blList; rw [if_pos hcv]
      simp only [hci, hcv]
      rw [hcl] at ho
      clear hci hcl hcv
      obtain ⟨l102, hl102⟩ : ∃ z, bl ps10 ql pw10.toNat q20_0.toNat q20_1.toNat cw38.toNat ch39.toNat = z := ⟨_, rfl⟩
      rw [hl102] at ho
      have HNl102 := hid hl102
      clear hl102
      have H101 := hid (H73.out.grow hb ho)
      obtain ⟨v100a, v100c, rfl, _⟩ := ho.slc
      clear ho hb
      have HVl102 := hid (show pValid pw10 ph10 pm10 l102 = true from by rw [← HNl102.out, ← HNcw38.out, ← HNch39.out]; exact blit_valid' HVps10.out HWq20.out (by rw [HNcw38.out, HNch39.out]; exact HVql.out))
      obtain ⟨D103, hD103⟩ : ∃ D, w99.heap.size = D := ⟨_, rfl⟩
      go_upto_region 13 with fail
      have H104 := hid (show St B W [.cells D103 #[.int .i64 pw10, .int .i64 ph10, .int .i64 pm10, .slice v100a l102.length v100c] 26, .own (.slice v100a l102.length v100c) l102, .cells D59 #[.int .i64 pw10, .int .i64 ph10, .int .i64 pm10, .slice v56a ps10.length v56c] 26, .own (.slice v56a ps10.length v56c) ps10, .cells D40 #[.int .i64 cw38, .int .i64 ch39, .int .i64 pm10, .slice v35a l37.length v35c] 26, .own (.slice v35a l37.length v35c) ql, .cells D23 #[.int .i64 q20_0, .int .i64 q20_1, .int .i64 q20_2, .int .i64 q20_3] 39, .cells D13 #[.int .i64 pw10, .int .i64 ph10, .int .i64 pm10, .slice pv10a ps10.length pv10c] 26, .own (.slice pv10a ps10.length pv10c) ps10, .tape K1] [] (w99.alloc (.cells #[.int .i64 pw10, .int .i64 ph10, .int .i64 pm10, .slice v100a l102.length v100c] 26)) from (H101.out.alloc #[.int .i64 pw10, .int .i64 ph10, .int .i64 pm10, .slice v100a l102.length v100c] 26 hD103))
      first | refine gen_code H104.out ?_ | refine gen_list H104.out ?_ | refine gen_calls H104.out ?_
      intro w105 hG
      clear H104
      have H104 := hid hG
      clear hG
      clear hD103
      have z106 := H104.out.cell 0 rfl 0 rfl
      have z107 := H104.out.cell 0 rfl 1 rfl
      have z108 := H104.out.cell 0 rfl 2 rfl
      have z109 := H104.out.cell 0 rfl 3 rfl
      have z110 := H104.out.cell 6 rfl 0 rfl
      have z111 := H104.out.cell 6 rfl 1 rfl
      have z112 := H104.out.cell 6 rfl 2 rfl
      have z113 := H104.out.cell 6 rfl 3 rfl
      go_wp2_with fail
      clear z106 z107 z108 z109 z110 z111 z112 z113
      refine (pcrop_any _ _ _ _ _ _ l102 _ _ _ _ _ (H104.out.slc 1 rfl)).mono ?_
      rintro e w114 ⟨v115, rfl, ho, hb⟩
      have hcv := crop_ok HVl102.out HWq20.out
      have hci : ∀ z, cIf pw10 ph10 pm10 l102 q20_0 q20_1 q20_2 q20_3 z = z := fun z => by unfold cIf; rw [if_pos hcv]
      have hcl : cList pw10 ph10 pm10 l102 q20_0 q20_1 q20_2 q20_3 = ql := by unfold cList; rw [if_pos hcv, ← HNl102.out, ← HNcw38.out, ← HNch39.out]; exact crop_blit' HVps10.out HWq20.out (by rw [HNcw38.out, HNch39.out]; exact HVql.out)
      simp only [hci, hcv]
      rw [hcl] at ho
      rw [HNcw38.out, HNch39.out]
      clear hci hcl hcv
      have H116 := hid (H104.out.grow hb ho)
      obtain ⟨v115a, v115c, rfl, _⟩ := ho.slc
      clear ho hb
      obtain ⟨D117, hD117⟩ : ∃ D, w114.heap.size = D := ⟨_, rfl⟩
      go_upto_region 14 with fail
      have H118 := hid (show St B W [.cells D117 #[.int .i64 cw38, .int .i64 ch39, .int .i64 pm10, .slice v115a ql.length v115c] 26, .own (.slice v115a ql.length v115c) ql, .cells D103 #[.int .i64 pw10, .int .i64 ph10, .int .i64 pm10, .slice v100a l102.length v100c] 26, .own (.slice v100a l102.length v100c) l102, .cells D59 #[.int .i64 pw10, .int .i64 ph10, .int .i64 pm10, .slice v56a ps10.length v56c] 26, .own (.slice v56a ps10.length v56c) ps10, .cells D40 #[.int .i64 cw38, .int .i64 ch39, .int .i64 pm10, .slice v35a l37.length v35c] 26, .own (.slice v35a l37.length v35c) ql, .cells D23 #[.int .i64 q20_0, .int .i64 q20_1, .int .i64 q20_2, .int .i64 q20_3] 39, .cells D13 #[.int .i64 pw10, .int .i64 ph10, .int .i64 pm10, .slice pv10a ps10.length pv10c] 26, .own (.slice pv10a ps10.length pv10c) ps10, .tape K1] [] (w114.alloc (.cells #[.int .i64 cw38, .int .i64 ch39, .int .i64 pm10, .slice v115a ql.length v115c] 26)) from (H116.out.alloc #[.int .i64 cw38, .int .i64 ch39, .int .i64 pm10, .slice v115a ql.length v115c] 26 hD117))
      first | refine gen_code H118.out ?_ | refine gen_list H118.out ?_ | refine gen_calls H118.out ?_
      intro w119 hG
      clear H118
      have H118 := hid hG
      clear hG
      clear hD117
      have z120 := H118.out.cell 9 rfl 0 rfl
      have z121 := H118.out.cell 9 rfl 1 rfl
      have z122 := H118.out.cell 9 rfl 2 rfl
      have z123 := H118.out.cell 9 rfl 3 rfl
      go_wp2_with fail
      clear z120 z121 z122 z123
      have hvl := valid_len HVps10.out
      refine (mod_any _ _ _ (by omega) (by omega)).mono ?_
      rintro e w124 ⟨rfl, hsw⟩
      have hsw2 : w119 = w124 := by first | exact hsw | exact hsw.symm
      clear hsw
      subst hsw2
      obtain ⟨nn, hnn⟩ : ∃ m : Nat, atv % (ps10.length : Int) = m := ⟨(atv % (ps10.length : Int)).toNat, by have := Int.emod_nonneg atv (b := (ps10.length : Int)) (by omega); omega⟩
      have hnl : (nn : Int) < ps10.length := by rw [← hnn]; exact Int.emod_lt_of_pos _ (by omega)
      rw [hnn]
      clear hnn
      go_upto_region 15 with fail
      obtain ⟨cm, hcm⟩ : ∃ z, Int.tmod (nn : Int) pw10 = z := ⟨_, rfl⟩
      obtain ⟨dm, hdm⟩ : ∃ z, Int.tdiv (nn : Int) pw10 = z := ⟨_, rfl⟩
      have hce : (nn : Int) % pw10 = cm := by rw [← hcm, Int.tmod_eq_emod_of_nonneg (by omega)]
      have hde : (nn : Int) / pw10 = dm := by rw [← hdm, Int.tdiv_eq_ediv_of_nonneg (by omega)]
      have hc1 : 0 ≤ cm ∧ cm < pw10 := by rw [← hce]; exact ⟨Int.emod_nonneg _ (by omega), Int.emod_lt_of_pos _ (by omega)⟩
      have hd1 : 0 ≤ dm ∧ dm ≤ nn := by rw [← hde]; exact ⟨Int.ediv_nonneg (by omega) (by omega), Int.ediv_le_self _ (by omega)⟩
      obtain ⟨hc2, hc3⟩ := hc1
      obtain ⟨hd2, hd3⟩ := hd1
      have hvl2 := (valid_len HVps10.out).2
      have HCE := hid hce
      have HDE := hid hde
      clear hce hde
      have wc : IntKind.i64.wrap cm = cm := IntWalk.i64_in _ (by omega)
      have wd : IntKind.i64.wrap dm = dm := IntWalk.i64_in _ (by omega)
      have pwn : ¬ (pw10 = 0) := by omega
      go_upto_region 15 with fail
      have H125 := hid H118.out.drew
      refine wp_region_held_drew (S := (fun w' => w'.cell? ⟨D23, 0, none⟩ = some (.int .i64 q20_0) ∧ w'.cell? ⟨D23, 1, none⟩ = some (.int .i64 q20_1) ∧ w'.cell? ⟨D23, 2, none⟩ = some (.int .i64 q20_2) ∧ w'.cell? ⟨D23, 3, none⟩ = some (.int .i64 q20_3) ∧ w'.cell? ⟨D13, 0, none⟩ = some (.int .i64 pw10) ∧ w'.cell? ⟨D13, 1, none⟩ = some (.int .i64 ph10) ∧ w'.cell? ⟨D13, 2, none⟩ = some (.int .i64 pm10) ∧ w'.cell? ⟨D13, 3, none⟩ = some (.slice pv10a ps10.length pv10c))) (by kernel_rfl) ⟨H125.out.cell 8 rfl 0 rfl, H125.out.cell 8 rfl 1 rfl, H125.out.cell 8 rfl 2 rfl, H125.out.cell 8 rfl 3 rfl, H125.out.cell 9 rfl 0 rfl, H125.out.cell 9 rfl 1 rfl, H125.out.cell 9 rfl 2 rfl, H125.out.cell 9 rfl 3 rfl⟩ (fun hHeld => ?_)
      generalize w119.drew = k126 at *
      refine wpAnyH_take (i := 0) (oi := _) (v := ?_) rfl (by kernel_rfl) (by kernel_rfl) (by kernel_rfl) (fun _ _ _ h => h) (Or.inl ⟨by rfl, ?_⟩) (by assumption) ?_
      rotate_left
      focus (intro wS hSw; (try dsimp only at hSw); go_simp; (try with_reducible rfl))
      try simp only [Act.put, List.getElem_toArray, List.getElem_cons_zero, List.getElem_cons_succ, List.setIfInBounds_toArray, List.set_cons_zero, List.set_cons_succ]
      refine wpAnyH_take (i := 1) (oi := _) (v := ?_) rfl (by kernel_rfl) (by kernel_rfl) (by kernel_rfl) (fun _ _ _ h => h) (Or.inl ⟨by rfl, ?_⟩) (by assumption) ?_
      rotate_left
      focus (intro wS hSw; (try dsimp only at hSw); go_simp; (try with_reducible rfl))
      try simp only [Act.put, List.getElem_toArray, List.getElem_cons_zero, List.getElem_cons_succ, List.setIfInBounds_toArray, List.set_cons_zero, List.set_cons_succ]
      refine wpAnyH_take (i := 2) (oi := _) (v := ?_) rfl (by kernel_rfl) (by kernel_rfl) (by kernel_rfl) (fun _ _ _ h => h) (Or.inl ⟨by rfl, ?_⟩) (by assumption) ?_
      rotate_left
      focus (intro wS hSw; (try dsimp only at hSw); go_simp; (try with_reducible rfl))
      try simp only [Act.put, List.getElem_toArray, List.getElem_cons_zero, List.getElem_cons_succ, List.setIfInBounds_toArray, List.set_cons_zero, List.set_cons_succ]
      refine wpAnyH_take (i := 3) (oi := _) (v := ?_) rfl (by kernel_rfl) (by kernel_rfl) (by kernel_rfl) (fun _ _ _ h => h) (Or.inl ⟨by rfl, ?_⟩) (by assumption) ?_
      rotate_left
      focus (intro wS hSw; (try dsimp only at hSw); go_simp; (try with_reducible rfl))
      try simp only [Act.put, List.getElem_toArray, List.getElem_cons_zero, List.getElem_cons_succ, List.setIfInBounds_toArray, List.set_cons_zero, List.set_cons_succ]
      refine wpAnyH_take (i := 4) (oi := _) (v := ?_) rfl (by kernel_rfl) (by kernel_rfl) (by kernel_rfl) (fun _ _ _ h => h) (Or.inl ⟨by rfl, ?_⟩) (by assumption) ?_
      rotate_left
      focus (intro wS hSw; (try dsimp only at hSw); go_simp; (try with_reducible rfl))
      try simp only [Act.put, List.getElem_toArray, List.getElem_cons_zero, List.getElem_cons_succ, List.setIfInBounds_toArray, List.set_cons_zero, List.set_cons_succ]
      refine wpAnyH_take (i := 5) (oi := _) (v := ?_) rfl (by kernel_rfl) (by kernel_rfl) (by kernel_rfl) (fun _ _ _ h => h) (Or.inl ⟨by rfl, ?_⟩) (by assumption) ?_
      rotate_left
      focus (intro wS hSw; (try dsimp only at hSw); go_simp; (try with_reducible rfl))
      try simp only [Act.put, List.getElem_toArray, List.getElem_cons_zero, List.getElem_cons_succ, List.setIfInBounds_toArray, List.set_cons_zero, List.set_cons_succ]
      refine wpAnyH_take (i := 6) (oi := _) (v := ?_) rfl (by kernel_rfl) (by kernel_rfl) (by kernel_rfl) (fun _ _ _ h => h) (Or.inl ⟨by rfl, ?_⟩) (by assumption) ?_
      rotate_left
      focus (intro wS hSw; (try dsimp only at hSw); go_simp; (try with_reducible rfl))
      try simp only [Act.put, List.getElem_toArray, List.getElem_cons_zero, List.getElem_cons_succ, List.setIfInBounds_toArray, List.set_cons_zero, List.set_cons_succ]
      refine wpAnyH_take (i := 7) (oi := _) (v := ?_) rfl (by kernel_rfl) (by kernel_rfl) (by kernel_rfl) (fun _ _ _ h => h) (Or.inl ⟨by rfl, ?_⟩) (by assumption) ?_
      rotate_left
      focus (intro wS hSw; (try dsimp only at hSw); go_simp; (try with_reducible rfl))
      try simp only [Act.put, List.getElem_toArray, List.getElem_cons_zero, List.getElem_cons_succ, List.setIfInBounds_toArray, List.set_cons_zero, List.set_cons_succ]
      refine wpAnyH_take (i := 8) (oi := _) (v := ?_) rfl (by kernel_rfl) (by kernel_rfl) (by kernel_rfl) (fun _ _ _ h => h) (Or.inl ⟨by rfl, ?_⟩) (by assumption) ?_
      rotate_left
      focus (intro wS hSw; (try dsimp only at hSw); go_simp; (try with_reducible rfl))
      try simp only [Act.put, List.getElem_toArray, List.getElem_cons_zero, List.getElem_cons_succ, List.setIfInBounds_toArray, List.set_cons_zero, List.set_cons_succ]
      refine wpAnyH_ready (rs := [9]) (by kernel_rfl) (by simp) (AllReadyH.cons (o := _) rfl (fun K hK => ?_) AllReadyH.nil)
      go_simp
      go_at_call 63
      refine (qcontains_any _ _ _ _ _ _ _).mono ?_
      rintro e w127 ⟨rfl, hb⟩
      have H128 := hid (H125.out.call hb)
      clear hb
      obtain ⟨b129, hb129⟩ : ∃ z, rContains q20_0 q20_1 q20_2 q20_3 cm dm = z := ⟨_, rfl⟩
      rw [hb129]
      have HNb129 := hid hb129
      clear hb129
      refine hK.out _ _ ?_ (fun hHeld2 => ?_)
      focus ((try dsimp only); (exact ⟨H128.out.cell 8 rfl 0 rfl, H128.out.cell 8 rfl 1 rfl, H128.out.cell 8 rfl 2 rfl, H128.out.cell 8 rfl 3 rfl, H128.out.cell 9 rfl 0 rfl, H128.out.cell 9 rfl 1 rfl, H128.out.cell 9 rfl 2 rfl, H128.out.cell 9 rfl 3 rfl⟩))
      clear hK K
      try simp only [Act.put, List.getElem_toArray, List.getElem_cons_zero, List.getElem_cons_succ, List.setIfInBounds_toArray, List.set_cons_zero, List.set_cons_succ]
      clear hHeld
      have hHeld := hHeld2
      clear hHeld2
      refine wpAnyH_take (i := 10) (oi := _) (v := ?_) rfl (by kernel_rfl) (by kernel_rfl) (by kernel_rfl) (fun _ _ _ h => h) (Or.inl ⟨by rfl, ?_⟩) (by assumption) ?_
      rotate_left
      focus (intro wS hSw; (try dsimp only at hSw); go_simp; (try with_reducible rfl))
      try simp only [Act.put, List.getElem_toArray, List.getElem_cons_zero, List.getElem_cons_succ, List.setIfInBounds_toArray, List.set_cons_zero, List.set_cons_succ]
      refine wpAnyH_done (by kernel_rfl) ?_ _
      try clear hHeld
      have HLB := hid (show l102.length = ps10.length from by have h1 := (pValid_iff.1 HVl102.out).2.1; have h2 := (pValid_iff.1 HVps10.out).2.1; omega)
      have hlc := HLB.out
      have hlc2 : (l102.length : Int) = ps10.length := by omega
      have hlc3 : ((l102.length : Int) == (ps10.length : Int)) = true := by rw [hlc2]; simp
      clear hlc hlc2
      cases b129 with
      | true =>
        go_upto_region 16 with fail
        have H130 := hid H128.out.drew
        refine wp_region_held_drew (S := (fun w' => w'.cell? ⟨D117, 0, none⟩ = some (.int .i64 cw38) ∧ w'.cell? ⟨D117, 1, none⟩ = some (.int .i64 ch39) ∧ w'.cell? ⟨D117, 2, none⟩ = some (.int .i64 pm10) ∧ w'.cell? ⟨D117, 3, none⟩ = some (.slice v115a ql.length v115c) ∧ w'.cell? ⟨D40, 0, none⟩ = some (.int .i64 cw38) ∧ w'.cell? ⟨D40, 1, none⟩ = some (.int .i64 ch39) ∧ w'.cell? ⟨D40, 2, none⟩ = some (.int .i64 pm10) ∧ w'.cell? ⟨D40, 3, none⟩ = some (.slice v35a l37.length v35c) ∧ w'.cell? ⟨D103, 0, none⟩ = some (.int .i64 pw10) ∧ w'.cell? ⟨D103, 1, none⟩ = some (.int .i64 ph10) ∧ w'.cell? ⟨D103, 2, none⟩ = some (.int .i64 pm10) ∧ w'.cell? ⟨D103, 3, none⟩ = some (.slice v100a l102.length v100c) ∧ w'.cell? ⟨D13, 0, none⟩ = some (.int .i64 pw10) ∧ w'.cell? ⟨D13, 1, none⟩ = some (.int .i64 ph10) ∧ w'.cell? ⟨D13, 2, none⟩ = some (.int .i64 pm10) ∧ w'.cell? ⟨D13, 3, none⟩ = some (.slice pv10a ps10.length pv10c))) (by kernel_rfl) ⟨H130.out.cell 0 rfl 0 rfl, H130.out.cell 0 rfl 1 rfl, H130.out.cell 0 rfl 2 rfl, H130.out.cell 0 rfl 3 rfl, H130.out.cell 6 rfl 0 rfl, H130.out.cell 6 rfl 1 rfl, H130.out.cell 6 rfl 2 rfl, H130.out.cell 6 rfl 3 rfl, H130.out.cell 2 rfl 0 rfl, H130.out.cell 2 rfl 1 rfl, H130.out.cell 2 rfl 2 rfl, H130.out.cell 2 rfl 3 rfl, H130.out.cell 9 rfl 0 rfl, H130.out.cell 9 rfl 1 rfl, H130.out.cell 9 rfl 2 rfl, H130.out.cell 9 rfl 3 rfl⟩ (fun hHeld => ?_)
        generalize w127.drew = k131 at *
        refine wpAnyH_take (i := 0) (oi := _) (v := ?_) rfl (by kernel_rfl) (by kernel_rfl) (by kernel_rfl) (fun _ _ _ h => h) (Or.inl ⟨by rfl, ?_⟩) (by assumption) ?_
        rotate_left
        focus (intro wS hSw; (try dsimp only at hSw); go_simp; (try with_reducible rfl))
        try simp only [Act.put, List.getElem_toArray, List.getElem_cons_zero, List.getElem_cons_succ, List.setIfInBounds_toArray, List.set_cons_zero, List.set_cons_succ]
        refine wpAnyH_take (i := 1) (oi := _) (v := ?_) rfl (by kernel_rfl) (by kernel_rfl) (by kernel_rfl) (fun _ _ _ h => h) (Or.inl ⟨by rfl, ?_⟩) (by assumption) ?_
        rotate_left
        focus (intro wS hSw; (try dsimp only at hSw); go_simp; (try with_reducible rfl))
        try simp only [Act.put, List.getElem_toArray, List.getElem_cons_zero, List.getElem_cons_succ, List.setIfInBounds_toArray, List.set_cons_zero, List.set_cons_succ]
        refine wpAnyH_take (i := 2) (oi := _) (v := ?_) rfl (by kernel_rfl) (by kernel_rfl) (by kernel_rfl) (fun _ _ _ h => h) (Or.inl ⟨by rfl, ?_⟩) (by assumption) ?_
        rotate_left
        focus (intro wS hSw; (try dsimp only at hSw); go_simp; (try with_reducible rfl))
        try simp only [Act.put, List.getElem_toArray, List.getElem_cons_zero, List.getElem_cons_succ, List.setIfInBounds_toArray, List.set_cons_zero, List.set_cons_succ]
        refine wpAnyH_take (i := 3) (oi := _) (v := ?_) rfl (by kernel_rfl) (by kernel_rfl) (by kernel_rfl) (fun _ _ _ h => h) (Or.inl ⟨by rfl, ?_⟩) (by assumption) ?_
        rotate_left
        focus (intro wS hSw; (try dsimp only at hSw); go_simp; (try with_reducible rfl))
        try simp only [Act.put, List.getElem_toArray, List.getElem_cons_zero, List.getElem_cons_succ, List.setIfInBounds_toArray, List.set_cons_zero, List.set_cons_succ]
        refine wpAnyH_take (i := 4) (oi := _) (v := ?_) rfl (by kernel_rfl) (by kernel_rfl) (by kernel_rfl) (fun _ _ _ h => h) (Or.inl ⟨by rfl, ?_⟩) (by assumption) ?_
        rotate_left
        focus (intro wS hSw; (try dsimp only at hSw); go_simp; (try with_reducible rfl))
        try simp only [Act.put, List.getElem_toArray, List.getElem_cons_zero, List.getElem_cons_succ, List.setIfInBounds_toArray, List.set_cons_zero, List.set_cons_succ]
        refine wpAnyH_take (i := 5) (oi := _) (v := ?_) rfl (by kernel_rfl) (by kernel_rfl) (by kernel_rfl) (fun _ _ _ h => h) (Or.inl ⟨by rfl, ?_⟩) (by assumption) ?_
        rotate_left
        focus (intro wS hSw; (try dsimp only at hSw); go_simp; (try with_reducible rfl))
        try simp only [Act.put, List.getElem_toArray, List.getElem_cons_zero, List.getElem_cons_succ, List.setIfInBounds_toArray, List.set_cons_zero, List.set_cons_succ]
        refine wpAnyH_take (i := 6) (oi := _) (v := ?_) rfl (by kernel_rfl) (by kernel_rfl) (by kernel_rfl) (fun _ _ _ h => h) (Or.inl ⟨by rfl, ?_⟩) (by assumption) ?_
        rotate_left
        focus (intro wS hSw; (try dsimp only at hSw); go_simp; (try with_reducible rfl))
        try simp only [Act.put, List.getElem_toArray, List.getElem_cons_zero, List.getElem_cons_succ, List.setIfInBounds_toArray, List.set_cons_zero, List.set_cons_succ]
        refine wpAnyH_ready (rs := [7]) (by kernel_rfl) (by simp) (AllReadyH.cons (o := _) rfl (fun K hK => ?_) AllReadyH.nil)
        go_simp
        go_at_call 51
        refine (pequal_any _ _ _ _ _ _ ql _ _ _ _ _ _ ql _ (H130.out.slc 1 rfl) (H130.out.slc 7 rfl)).mono ?_
        rintro e w132 ⟨rfl, hb⟩
        have H133 := hid (H130.out.call hb)
        clear hb
        rw [show pEq cw38 ch39 pm10 ql cw38 ch39 pm10 ql = true from by simp [pEq]]
        refine hK.out _ _ ?_ (fun hHeld2 => ?_)
        focus ((try dsimp only); (exact ⟨H133.out.cell 0 rfl 0 rfl, H133.out.cell 0 rfl 1 rfl, H133.out.cell 0 rfl 2 rfl, H133.out.cell 0 rfl 3 rfl, H133.out.cell 6 rfl 0 rfl, H133.out.cell 6 rfl 1 rfl, H133.out.cell 6 rfl 2 rfl, H133.out.cell 6 rfl 3 rfl, H133.out.cell 2 rfl 0 rfl, H133.out.cell 2 rfl 1 rfl, H133.out.cell 2 rfl 2 rfl, H133.out.cell 2 rfl 3 rfl, H133.out.cell 9 rfl 0 rfl, H133.out.cell 9 rfl 1 rfl, H133.out.cell 9 rfl 2 rfl, H133.out.cell 9 rfl 3 rfl⟩))
        clear hK K
        try simp only [Act.put, List.getElem_toArray, List.getElem_cons_zero, List.getElem_cons_succ, List.setIfInBounds_toArray, List.set_cons_zero, List.set_cons_succ]
        clear hHeld
        have hHeld := hHeld2
        clear hHeld2
        refine wpAnyH_take (i := 8) (oi := _) (v := ?_) rfl (by kernel_rfl) (by kernel_rfl) (by kernel_rfl) (fun _ _ _ h => h) (Or.inl ⟨by rfl, ?_⟩) (by assumption) ?_
        rotate_left
        focus (intro wS hSw; (try dsimp only at hSw); go_simp; (try with_reducible rfl))
        try simp only [Act.put, List.getElem_toArray, List.getElem_cons_zero, List.getElem_cons_succ, List.setIfInBounds_toArray, List.set_cons_zero, List.set_cons_succ]
        refine wpAnyH_take (i := 9) (oi := _) (v := ?_) rfl (by kernel_rfl) (by kernel_rfl) (by kernel_rfl) (fun _ _ _ h => h) (Or.inl ⟨by rfl, ?_⟩) (by assumption) ?_
        rotate_left
        focus (intro wS hSw; (try dsimp only at hSw); go_simp; (try with_reducible rfl))
        try simp only [Act.put, List.getElem_toArray, List.getElem_cons_zero, List.getElem_cons_succ, List.setIfInBounds_toArray, List.set_cons_zero, List.set_cons_succ]
        refine wpAnyH_take (i := 10) (oi := _) (v := ?_) rfl (by kernel_rfl) (by kernel_rfl) (by kernel_rfl) (fun _ _ _ h => h) (Or.inl ⟨by rfl, ?_⟩) (by assumption) ?_
        rotate_left
        focus (intro wS hSw; (try dsimp only at hSw); go_simp; (try with_reducible rfl))
        try simp only [Act.put, List.getElem_toArray, List.getElem_cons_zero, List.getElem_cons_succ, List.setIfInBounds_toArray, List.set_cons_zero, List.set_cons_succ]
        refine wpAnyH_take (i := 11) (oi := _) (v := ?_) rfl (by kernel_rfl) (by kernel_rfl) (by kernel_rfl) (fun _ _ _ h => h) (Or.inl ⟨by rfl, ?_⟩) (by assumption) ?_
        rotate_left
        focus (intro wS hSw; (try dsimp only at hSw); go_simp; (try with_reducible rfl))
        try simp only [Act.put, List.getElem_toArray, List.getElem_cons_zero, List.getElem_cons_succ, List.setIfInBounds_toArray, List.set_cons_zero, List.set_cons_succ]
        refine wpAnyH_take (i := 12) (oi := _) (v := ?_) rfl (by kernel_rfl) (by kernel_rfl) (by kernel_rfl) (fun _ _ _ h => h) (Or.inl ⟨by rfl, ?_⟩) (by assumption) ?_
        rotate_left
        focus (intro wS hSw; (try dsimp only at hSw); go_simp; (try with_reducible rfl))
        try simp only [Act.put, List.getElem_toArray, List.getElem_cons_zero, List.getElem_cons_succ, List.setIfInBounds_toArray, List.set_cons_zero, List.set_cons_succ]
        refine wpAnyH_take (i := 13) (oi := _) (v := ?_) rfl (by kernel_rfl) (by kernel_rfl) (by kernel_rfl) (fun _ _ _ h => h) (Or.inl ⟨by rfl, ?_⟩) (by assumption) ?_
        rotate_left
        focus (intro wS hSw; (try dsimp only at hSw); go_simp; (try with_reducible rfl))
        try simp only [Act.put, List.getElem_toArray, List.getElem_cons_zero, List.getElem_cons_succ, List.setIfInBounds_toArray, List.set_cons_zero, List.set_cons_succ]
        refine wpAnyH_take (i := 14) (oi := _) (v := ?_) rfl (by kernel_rfl) (by kernel_rfl) (by kernel_rfl) (fun _ _ _ h => h) (Or.inl ⟨by rfl, ?_⟩) (by assumption) ?_
        rotate_left
        focus (intro wS hSw; (try dsimp only at hSw); go_simp; (try with_reducible rfl))
        try simp only [Act.put, List.getElem_toArray, List.getElem_cons_zero, List.getElem_cons_succ, List.setIfInBounds_toArray, List.set_cons_zero, List.set_cons_succ]
        refine wpAnyH_take (i := 15) (oi := _) (v := ?_) rfl (by kernel_rfl) (by kernel_rfl) (by kernel_rfl) (fun _ _ _ h => h) (Or.inl ⟨by rfl, ?_⟩) (by assumption) ?_
        rotate_left
        focus (intro wS hSw; (try dsimp only at hSw); go_simp; (try with_reducible rfl))
        try simp only [Act.put, List.getElem_toArray, List.getElem_cons_zero, List.getElem_cons_succ, List.setIfInBounds_toArray, List.set_cons_zero, List.set_cons_succ]
        refine wpAnyH_take (i := 16) (oi := _) (v := ?_) rfl (by kernel_rfl) (by kernel_rfl) (by kernel_rfl) (fun _ _ _ h => h) (Or.inl ⟨by rfl, ?_⟩) (by assumption) ?_
        rotate_left
        focus (intro wS hSw; (try dsimp only at hSw); go_simp; (try with_reducible rfl))
        try simp only [Act.put, List.getElem_toArray, List.getElem_cons_zero, List.getElem_cons_succ, List.setIfInBounds_toArray, List.set_cons_zero, List.set_cons_succ]
        refine wpAnyH_take (i := 17) (oi := _) (v := ?_) rfl (by kernel_rfl) (by kernel_rfl) (by kernel_rfl) (fun _ _ _ h => h) (Or.inl ⟨by rfl, ?_⟩) (by assumption) ?_
        rotate_left
        focus (intro wS hSw; (try dsimp only at hSw); go_simp; (try with_reducible rfl))
        try simp only [Act.put, List.getElem_toArray, List.getElem_cons_zero, List.getElem_cons_succ, List.setIfInBounds_toArray, List.set_cons_zero, List.set_cons_succ]
        refine wpAnyH_take (i := 18) (oi := _) (v := ?_) rfl (by kernel_rfl) (by kernel_rfl) (by kernel_rfl) (fun _ _ _ h => h) (Or.inl ⟨by rfl, ?_⟩) (by assumption) ?_
        rotate_left
        focus (intro wS hSw; (try dsimp only at hSw); go_simp; (try with_reducible rfl))
        try simp only [Act.put, List.getElem_toArray, List.getElem_cons_zero, List.getElem_cons_succ, List.setIfInBounds_toArray, List.set_cons_zero, List.set_cons_succ]
        refine wpAnyH_take (i := 19) (oi := _) (v := ?_) rfl (by kernel_rfl) (by kernel_rfl) (by kernel_rfl) (fun _ _ _ h => h) (Or.inl ⟨by rfl, ?_⟩) (by assumption) ?_
        rotate_left
        focus (intro wS hSw; (try dsimp only at hSw); go_simp; (try with_reducible rfl))
        try simp only [Act.put, List.getElem_toArray, List.getElem_cons_zero, List.getElem_cons_succ, List.setIfInBounds_toArray, List.set_cons_zero, List.set_cons_succ]
        refine wpAnyH_take (i := 20) (oi := _) (v := ?_) rfl (by kernel_rfl) (by kernel_rfl) (by kernel_rfl) (fun _ _ _ h => h) (Or.inl ⟨by rfl, ?_⟩) (by assumption) ?_
        rotate_left
        focus (intro wS hSw; (try dsimp only at hSw); go_simp; (try with_reducible rfl))
        try simp only [Act.put, List.getElem_toArray, List.getElem_cons_zero, List.getElem_cons_succ, List.setIfInBounds_toArray, List.set_cons_zero, List.set_cons_succ]
        refine wpAnyH_take (i := 21) (oi := _) (v := _) rfl (by kernel_rfl) (by kernel_rfl) (by kernel_rfl) (fun _ _ _ h => h) (Or.inr ⟨by rfl, rfl⟩) (by assumption) ?_
        try simp only [Act.put, List.getElem_toArray, List.getElem_cons_zero, List.getElem_cons_succ, List.setIfInBounds_toArray, List.set_cons_zero, List.set_cons_succ]
        refine wpAnyH_take (i := 22) (oi := _) (v := _) rfl (by kernel_rfl) (by kernel_rfl) (by kernel_rfl) (fun _ _ _ h => h) (Or.inr ⟨by rfl, rfl⟩) (by assumption) ?_
        try simp only [Act.put, List.getElem_toArray, List.getElem_cons_zero, List.getElem_cons_succ, List.setIfInBounds_toArray, List.set_cons_zero, List.set_cons_succ]
        refine wpAnyH_take (i := 23) (oi := _) (v := _) rfl (by kernel_rfl) (by kernel_rfl) (by kernel_rfl) (fun _ _ _ h => h) (Or.inr ⟨by rfl, rfl⟩) (by assumption) ?_
        try simp only [Act.put, List.getElem_toArray, List.getElem_cons_zero, List.getElem_cons_succ, List.setIfInBounds_toArray, List.set_cons_zero, List.set_cons_succ]
        refine wpAnyH_take (i := 24) (oi := _) (v := _) rfl (by kernel_rfl) (by kernel_rfl) (by kernel_rfl) (fun _ _ _ h => h) (Or.inr ⟨by rfl, rfl⟩) (by assumption) ?_
        try simp only [Act.put, List.getElem_toArray, List.getElem_cons_zero, List.getElem_cons_succ, List.setIfInBounds_toArray, List.set_cons_zero, List.set_cons_succ]
        refine wpAnyH_take (i := 25) (oi := _) (v := _) rfl (by kernel_rfl) (by kernel_rfl) (by kernel_rfl) (fun _ _ _ h => h) (Or.inr ⟨by rfl, rfl⟩) (by assumption) ?_
        try simp only [Act.put, List.getElem_toArray, List.getElem_cons_zero, List.getElem_cons_succ, List.setIfInBounds_toArray, List.set_cons_zero, List.set_cons_succ]
        refine wpAnyH_take (i := 26) (oi := _) (v := _) rfl (by kernel_rfl) (by kernel_rfl) (by kernel_rfl) (fun _ _ _ h => h) (Or.inr ⟨by rfl, rfl⟩) (by assumption) ?_
        try simp only [Act.put, List.getElem_toArray, List.getElem_cons_zero, List.getElem_cons_succ, List.setIfInBounds_toArray, List.set_cons_zero, List.set_cons_succ]
        refine wpAnyH_take (i := 27) (oi := _) (v := _) rfl (by kernel_rfl) (by kernel_rfl) (by kernel_rfl) (fun _ _ _ h => h) (Or.inr ⟨by rfl, rfl⟩) (by assumption) ?_
        try simp only [Act.put, List.getElem_toArray, List.getElem_cons_zero, List.getElem_cons_succ, List.setIfInBounds_toArray, List.set_cons_zero, List.set_cons_succ]
        refine wpAnyH_take (i := 28) (oi := _) (v := _) rfl (by kernel_rfl) (by kernel_rfl) (by kernel_rfl) (fun _ _ _ h => h) (Or.inr ⟨by rfl, rfl⟩) (by assumption) ?_
        try simp only [Act.put, List.getElem_toArray, List.getElem_cons_zero, List.getElem_cons_succ, List.setIfInBounds_toArray, List.set_cons_zero, List.set_cons_succ]
        refine wpAnyH_take (i := 29) (oi := _) (v := _) rfl (by kernel_rfl) (by kernel_rfl) (by kernel_rfl) (fun _ _ _ h => h) (Or.inr ⟨by rfl, rfl⟩) (by assumption) ?_
        try simp only [Act.put, List.getElem_toArray, List.getElem_cons_zero, List.getElem_cons_succ, List.setIfInBounds_toArray, List.set_cons_zero, List.set_cons_succ]
        refine wpAnyH_take (i := 30) (oi := _) (v := _) rfl (by kernel_rfl) (by kernel_rfl) (by kernel_rfl) (fun _ _ _ h => h) (Or.inr ⟨by rfl, rfl⟩) (by assumption) ?_
        try simp only [Act.put, List.getElem_toArray, List.getElem_cons_zero, List.getElem_cons_succ, List.setIfInBounds_toArray, List.set_cons_zero, List.set_cons_succ]
        refine wpAnyH_take (i := 31) (oi := _) (v := _) rfl (by kernel_rfl) (by kernel_rfl) (by kernel_rfl) (fun _ _ _ h => h) (Or.inr ⟨by rfl, rfl⟩) (by assumption) ?_
        try simp only [Act.put, List.getElem_toArray, List.getElem_cons_zero, List.getElem_cons_succ, List.setIfInBounds_toArray, List.set_cons_zero, List.set_cons_succ]
        refine wpAnyH_take (i := 32) (oi := _) (v := ?_) rfl (by kernel_rfl) (by kernel_rfl) (by kernel_rfl) (fun _ _ _ h => h) (Or.inl ⟨by rfl, ?_⟩) (by assumption) ?_
        rotate_left
        focus (intro wS hSw; (try dsimp only at hSw); go_simp; (try with_reducible rfl))
        try simp only [Act.put, List.getElem_toArray, List.getElem_cons_zero, List.getElem_cons_succ, List.setIfInBounds_toArray, List.set_cons_zero, List.set_cons_succ]
        refine wpAnyH_take (i := 33) (oi := _) (v := ?_) rfl (by kernel_rfl) (by kernel_rfl) (by kernel_rfl) (fun _ _ _ h => h) (Or.inl ⟨by rfl, ?_⟩) (by assumption) ?_
        rotate_left
        focus (intro wS hSw; (try dsimp only at hSw); go_simp; (try with_reducible rfl))
        try simp only [Act.put, List.getElem_toArray, List.getElem_cons_zero, List.getElem_cons_succ, List.setIfInBounds_toArray, List.set_cons_zero, List.set_cons_succ]
        refine wpAnyH_take (i := 34) (oi := _) (v := ?_) rfl (by kernel_rfl) (by kernel_rfl) (by kernel_rfl) (fun _ _ _ h => h) (Or.inl ⟨by rfl, ?_⟩) (by assumption) ?_
        rotate_left
        focus (intro wS hSw; (try dsimp only at hSw); go_simp; (try with_reducible rfl))
        try simp only [Act.put, List.getElem_toArray, List.getElem_cons_zero, List.getElem_cons_succ, List.setIfInBounds_toArray, List.set_cons_zero, List.set_cons_succ]
        refine wpAnyH_ready (rs := [35]) (by kernel_rfl) (by simp) (AllReadyH.cons (o := _) rfl (fun K hK => ?_) AllReadyH.nil)
        go_simp
        go_at_call 54
        refine (sane4 _).mono ?_
        rintro e w134 ⟨rfl, hb⟩
        have H135 := hid (H133.out.call hb)
        clear hb
        refine hK.out _ _ ?_ (fun hHeld2 => ?_)
        focus ((try dsimp only); (exact ⟨H135.out.cell 0 rfl 0 rfl, H135.out.cell 0 rfl 1 rfl, H135.out.cell 0 rfl 2 rfl, H135.out.cell 0 rfl 3 rfl, H135.out.cell 6 rfl 0 rfl, H135.out.cell 6 rfl 1 rfl, H135.out.cell 6 rfl 2 rfl, H135.out.cell 6 rfl 3 rfl, H135.out.cell 2 rfl 0 rfl, H135.out.cell 2 rfl 1 rfl, H135.out.cell 2 rfl 2 rfl, H135.out.cell 2 rfl 3 rfl, H135.out.cell 9 rfl 0 rfl, H135.out.cell 9 rfl 1 rfl, H135.out.cell 9 rfl 2 rfl, H135.out.cell 9 rfl 3 rfl⟩))
        clear hK K
        try simp only [Act.put, List.getElem_toArray, List.getElem_cons_zero, List.getElem_cons_succ, List.setIfInBounds_toArray, List.set_cons_zero, List.set_cons_succ]
        clear hHeld
        have hHeld := hHeld2
        clear hHeld2
        refine wpAnyH_take (i := 36) (oi := _) (v := ?_) rfl (by kernel_rfl) (by kernel_rfl) (by kernel_rfl) (fun _ _ _ h => h) (Or.inl ⟨by rfl, ?_⟩) (by assumption) ?_
        rotate_left
        focus (intro wS hSw; (try dsimp only at hSw); go_simp; (try with_reducible rfl))
        try simp only [Act.put, List.getElem_toArray, List.getElem_cons_zero, List.getElem_cons_succ, List.setIfInBounds_toArray, List.set_cons_zero, List.set_cons_succ]
        refine wpAnyH_take (i := 37) (oi := _) (v := ?_) rfl (by kernel_rfl) (by kernel_rfl) (by kernel_rfl) (fun _ _ _ h => h) (Or.inl ⟨by rfl, ?_⟩) (by assumption) ?_
        rotate_left
        focus (intro wS hSw; (try dsimp only at hSw); go_simp; (try with_reducible rfl))
        try simp only [Act.put, List.getElem_toArray, List.getElem_cons_zero, List.getElem_cons_succ, List.setIfInBounds_toArray, List.set_cons_zero, List.set_cons_succ]
        refine wpAnyH_done (by kernel_rfl) ?_ _
        try clear hHeld
        go_wp2_with fail
        go_ret
        exact ⟨rfl, by first | exact H135.out.below | exact H135.out.below'⟩
      | false =>
        have hnz : nn < ps10.length := by omega
        have hpx : l102.getD nn 0 = ps10.getD nn 0 := by rw [← HNl102.out, ← HNcw38.out, ← HNch39.out]; exact bl_out' HVps10.out HWq20.out hnz (by
          intro hh
          have h1 := HNb129.out
          unfold rContains rValid at h1
          have h2 := HWq20.out
          rw [HCE.out, HDE.out] at hh
          simp at h1
          have h3 := (pOk_iff.1 (pValid_iff.1 HVps10.out).1)
          omega)
        obtain ⟨pz, hpz⟩ : ∃ z, ps10.getD nn 0 = z := ⟨_, rfl⟩
        have HPZ := hid hpz
        have HPX := hid (hpx.trans hpz)
        clear hpx hpz
        have hlb : l102.length = ps10.length := HLB.out
        obtain ⟨bg, bo, hbg⟩ := row_at (H128.out.slc 3 rfl).row (by omega)
        obtain ⟨pg, po, hpg⟩ := row_at (H128.out.slc 10 rfl).row (by omega)
        subst hbg hpg
        go_upto_region 16 with fail
        have H136 := hid H128.out.drew
        refine wp_region_held_drew (S := (fun w' => w'.cell? ⟨D117, 0, none⟩ = some (.int .i64 cw38) ∧ w'.cell? ⟨D117, 1, none⟩ = some (.int .i64 ch39) ∧ w'.cell? ⟨D117, 2, none⟩ = some (.int .i64 pm10) ∧ w'.cell? ⟨D117, 3, none⟩ = some (.slice v115a ql.length v115c) ∧ w'.cell? ⟨D40, 0, none⟩ = some (.int .i64 cw38) ∧ w'.cell? ⟨D40, 1, none⟩ = some (.int .i64 ch39) ∧ w'.cell? ⟨D40, 2, none⟩ = some (.int .i64 pm10) ∧ w'.cell? ⟨D40, 3, none⟩ = some (.slice v35a l37.length v35c) ∧ w'.cell? ⟨D103, 0, none⟩ = some (.int .i64 pw10) ∧ w'.cell? ⟨D103, 1, none⟩ = some (.int .i64 ph10) ∧ w'.cell? ⟨D103, 2, none⟩ = some (.int .i64 pm10) ∧ w'.cell? ⟨D103, 3, none⟩ = some (.slice (some ⟨bg, bo, none⟩) l102.length v100c) ∧ w'.cell? ⟨D13, 0, none⟩ = some (.int .i64 pw10) ∧ w'.cell? ⟨D13, 1, none⟩ = some (.int .i64 ph10) ∧ w'.cell? ⟨D13, 2, none⟩ = some (.int .i64 pm10) ∧ w'.cell? ⟨D13, 3, none⟩ = some (.slice (some ⟨pg, po, none⟩) ps10.length pv10c) ∧ w'.cell? ⟨bg, bo + nn, none⟩ = some (.int .i64 pz) ∧ w'.cell? ⟨pg, po + nn, none⟩ = some (.int .i64 pz))) (by kernel_rfl) ⟨H136.out.cell 0 rfl 0 rfl, H136.out.cell 0 rfl 1 rfl, H136.out.cell 0 rfl 2 rfl, H136.out.cell 0 rfl 3 rfl, H136.out.cell 6 rfl 0 rfl, H136.out.cell 6 rfl 1 rfl, H136.out.cell 6 rfl 2 rfl, H136.out.cell 6 rfl 3 rfl, H136.out.cell 2 rfl 0 rfl, H136.out.cell 2 rfl 1 rfl, H136.out.cell 2 rfl 2 rfl, H136.out.cell 2 rfl 3 rfl, H136.out.cell 9 rfl 0 rfl, H136.out.cell 9 rfl 1 rfl, H136.out.cell 9 rfl 2 rfl, H136.out.cell 9 rfl 3 rfl, (by have := row_cell (H136.out.slc 3 rfl).row (j := nn) (by omega); rw [HPX.out] at this; exact this), (by have := row_cell (H136.out.slc 10 rfl).row (j := nn) hnz; rw [HPZ.out] at this; exact this)⟩ (fun hHeld => ?_)
        generalize w127.drew = k137 at *
        refine wpAnyH_take (i := 0) (oi := _) (v := ?_) rfl (by kernel_rfl) (by kernel_rfl) (by kernel_rfl) (fun _ _ _ h => h) (Or.inl ⟨by rfl, ?_⟩) (by assumption) ?_
        rotate_left
        focus (intro wS hSw; (try dsimp only at hSw); go_simp; (try with_reducible rfl))
        try simp only [Act.put, List.getElem_toArray, List.getElem_cons_zero, List.getElem_cons_succ, List.setIfInBounds_toArray, List.set_cons_zero, List.set_cons_succ]
        refine wpAnyH_take (i := 1) (oi := _) (v := ?_) rfl (by kernel_rfl) (by kernel_rfl) (by kernel_rfl) (fun _ _ _ h => h) (Or.inl ⟨by rfl, ?_⟩) (by assumption) ?_
        rotate_left
        focus (intro wS hSw; (try dsimp only at hSw); go_simp; (try with_reducible rfl))
        try simp only [Act.put, List.getElem_toArray, List.getElem_cons_zero, List.getElem_cons_succ, List.setIfInBounds_toArray, List.set_cons_zero, List.set_cons_succ]
        refine wpAnyH_take (i := 2) (oi := _) (v := ?_) rfl (by kernel_rfl) (by kernel_rfl) (by kernel_rfl) (fun _ _ _ h => h) (Or.inl ⟨by rfl, ?_⟩) (by assumption) ?_
        rotate_left
        focus (intro wS hSw; (try dsimp only at hSw); go_simp; (try with_reducible rfl))
        try simp only [Act.put, List.getElem_toArray, List.getElem_cons_zero, List.getElem_cons_succ, List.setIfInBounds_toArray, List.set_cons_zero, List.set_cons_succ]
        refine wpAnyH_take (i := 3) (oi := _) (v := ?_) rfl (by kernel_rfl) (by kernel_rfl) (by kernel_rfl) (fun _ _ _ h => h) (Or.inl ⟨by rfl, ?_⟩) (by assumption) ?_
        rotate_left
        focus (intro wS hSw; (try dsimp only at hSw); go_simp; (try with_reducible rfl))
        try simp only [Act.put, List.getElem_toArray, List.getElem_cons_zero, List.getElem_cons_succ, List.setIfInBounds_toArray, List.set_cons_zero, List.set_cons_succ]
        refine wpAnyH_take (i := 4) (oi := _) (v := ?_) rfl (by kernel_rfl) (by kernel_rfl) (by kernel_rfl) (fun _ _ _ h => h) (Or.inl ⟨by rfl, ?_⟩) (by assumption) ?_
        rotate_left
        focus (intro wS hSw; (try dsimp only at hSw); go_simp; (try with_reducible rfl))
        try simp only [Act.put, List.getElem_toArray, List.getElem_cons_zero, List.getElem_cons_succ, List.setIfInBounds_toArray, List.set_cons_zero, List.set_cons_succ]
        refine wpAnyH_take (i := 5) (oi := _) (v := ?_) rfl (by kernel_rfl) (by kernel_rfl) (by kernel_rfl) (fun _ _ _ h => h) (Or.inl ⟨by rfl, ?_⟩) (by assumption) ?_
        rotate_left
        focus (intro wS hSw; (try dsimp only at hSw); go_simp; (try with_reducible rfl))
        try simp only [Act.put, List.getElem_toArray, List.getElem_cons_zero, List.getElem_cons_succ, List.setIfInBounds_toArray, List.set_cons_zero, List.set_cons_succ]
        refine wpAnyH_take (i := 6) (oi := _) (v := ?_) rfl (by kernel_rfl) (by kernel_rfl) (by kernel_rfl) (fun _ _ _ h => h) (Or.inl ⟨by rfl, ?_⟩) (by assumption) ?_
        rotate_left
        focus (intro wS hSw; (try dsimp only at hSw); go_simp; (try with_reducible rfl))
        try simp only [Act.put, List.getElem_toArray, List.getElem_cons_zero, List.getElem_cons_succ, List.setIfInBounds_toArray, List.set_cons_zero, List.set_cons_succ]
        refine wpAnyH_ready (rs := [7]) (by kernel_rfl) (by simp) (AllReadyH.cons (o := _) rfl (fun K hK => ?_) AllReadyH.nil)
        go_simp
        go_at_call 51
        refine (pequal_any _ _ _ _ _ _ ql _ _ _ _ _ _ ql _ (H136.out.slc 1 rfl) (H136.out.slc 7 rfl)).mono ?_
        rintro e w138 ⟨rfl, hb⟩
        have H139 := hid (H136.out.call hb)
        clear hb
        rw [show pEq cw38 ch39 pm10 ql cw38 ch39 pm10 ql = true from by simp [pEq]]
        refine hK.out _ _ ?_ (fun hHeld2 => ?_)
        focus ((try dsimp only); (exact ⟨H139.out.cell 0 rfl 0 rfl, H139.out.cell 0 rfl 1 rfl, H139.out.cell 0 rfl 2 rfl, H139.out.cell 0 rfl 3 rfl, H139.out.cell 6 rfl 0 rfl, H139.out.cell 6 rfl 1 rfl, H139.out.cell 6 rfl 2 rfl, H139.out.cell 6 rfl 3 rfl, H139.out.cell 2 rfl 0 rfl, H139.out.cell 2 rfl 1 rfl, H139.out.cell 2 rfl 2 rfl, H139.out.cell 2 rfl 3 rfl, H139.out.cell 9 rfl 0 rfl, H139.out.cell 9 rfl 1 rfl, H139.out.cell 9 rfl 2 rfl, H139.out.cell 9 rfl 3 rfl, (by have := row_cell (H139.out.slc 3 rfl).row (j := nn) (by omega); rw [HPX.out] at this; exact this), (by have := row_cell (H139.out.slc 10 rfl).row (j := nn) hnz; rw [HPZ.out] at this; exact this)⟩))
        clear hK K
        try simp only [Act.put, List.getElem_toArray, List.getElem_cons_zero, List.getElem_cons_succ, List.setIfInBounds_toArray, List.set_cons_zero, List.set_cons_succ]
        clear hHeld
        have hHeld := hHeld2
        clear hHeld2
        refine wpAnyH_take (i := 8) (oi := _) (v := ?_) rfl (by kernel_rfl) (by kernel_rfl) (by kernel_rfl) (fun _ _ _ h => h) (Or.inl ⟨by rfl, ?_⟩) (by assumption) ?_
        rotate_left
        focus (intro wS hSw; (try dsimp only at hSw); go_simp; (try with_reducible rfl))
        try simp only [Act.put, List.getElem_toArray, List.getElem_cons_zero, List.getElem_cons_succ, List.setIfInBounds_toArray, List.set_cons_zero, List.set_cons_succ]
        refine wpAnyH_take (i := 9) (oi := _) (v := ?_) rfl (by kernel_rfl) (by kernel_rfl) (by kernel_rfl) (fun _ _ _ h => h) (Or.inl ⟨by rfl, ?_⟩) (by assumption) ?_
        rotate_left
        focus (intro wS hSw; (try dsimp only at hSw); go_simp; (try with_reducible rfl))
        try simp only [Act.put, List.getElem_toArray, List.getElem_cons_zero, List.getElem_cons_succ, List.setIfInBounds_toArray, List.set_cons_zero, List.set_cons_succ]
        refine wpAnyH_take (i := 10) (oi := _) (v := ?_) rfl (by kernel_rfl) (by kernel_rfl) (by kernel_rfl) (fun _ _ _ h => h) (Or.inl ⟨by rfl, ?_⟩) (by assumption) ?_
        rotate_left
        focus (intro wS hSw; (try dsimp only at hSw); go_simp; (try with_reducible rfl))
        try simp only [Act.put, List.getElem_toArray, List.getElem_cons_zero, List.getElem_cons_succ, List.setIfInBounds_toArray, List.set_cons_zero, List.set_cons_succ]
        refine wpAnyH_take (i := 11) (oi := _) (v := ?_) rfl (by kernel_rfl) (by kernel_rfl) (by kernel_rfl) (fun _ _ _ h => h) (Or.inl ⟨by rfl, ?_⟩) (by assumption) ?_
        rotate_left
        focus (intro wS hSw; (try dsimp only at hSw); go_simp; (try with_reducible rfl))
        try simp only [Act.put, List.getElem_toArray, List.getElem_cons_zero, List.getElem_cons_succ, List.setIfInBounds_toArray, List.set_cons_zero, List.set_cons_succ]
        refine wpAnyH_take (i := 12) (oi := _) (v := ?_) rfl (by kernel_rfl) (by kernel_rfl) (by kernel_rfl) (fun _ _ _ h => h) (Or.inl ⟨by rfl, ?_⟩) (by assumption) ?_
        rotate_left
        focus (intro wS hSw; (try dsimp only at hSw); go_simp; (try with_reducible rfl))
        try simp only [Act.put, List.getElem_toArray, List.getElem_cons_zero, List.getElem_cons_succ, List.setIfInBounds_toArray, List.set_cons_zero, List.set_cons_succ]
        refine wpAnyH_take (i := 13) (oi := _) (v := ?_) rfl (by kernel_rfl) (by kernel_rfl) (by kernel_rfl) (fun _ _ _ h => h) (Or.inl ⟨by rfl, ?_⟩) (by assumption) ?_
        rotate_left
        focus (intro wS hSw; (try dsimp only at hSw); go_simp; (try with_reducible rfl))
        try simp only [Act.put, List.getElem_toArray, List.getElem_cons_zero, List.getElem_cons_succ, List.setIfInBounds_toArray, List.set_cons_zero, List.set_cons_succ]
        refine wpAnyH_take (i := 14) (oi := _) (v := ?_) rfl (by kernel_rfl) (by kernel_rfl) (by kernel_rfl) (fun _ _ _ h => h) (Or.inl ⟨by rfl, ?_⟩) (by assumption) ?_
        rotate_left
        focus (intro wS hSw; (try dsimp only at hSw); go_simp; (try with_reducible rfl))
        try simp only [Act.put, List.getElem_toArray, List.getElem_cons_zero, List.getElem_cons_succ, List.setIfInBounds_toArray, List.set_cons_zero, List.set_cons_succ]
        refine wpAnyH_take (i := 15) (oi := _) (v := ?_) rfl (by kernel_rfl) (by kernel_rfl) (by kernel_rfl) (fun _ _ _ h => h) (Or.inl ⟨by rfl, ?_⟩) (by assumption) ?_
        rotate_left
        focus (intro wS hSw; (try dsimp only at hSw); go_simp; (try with_reducible rfl))
        try simp only [Act.put, List.getElem_toArray, List.getElem_cons_zero, List.getElem_cons_succ, List.setIfInBounds_toArray, List.set_cons_zero, List.set_cons_succ]
        refine wpAnyH_take (i := 16) (oi := _) (v := ?_) rfl (by kernel_rfl) (by kernel_rfl) (by kernel_rfl) (fun _ _ _ h => h) (Or.inl ⟨by rfl, ?_⟩) (by assumption) ?_
        rotate_left
        focus (intro wS hSw; (try dsimp only at hSw); go_simp; (try with_reducible rfl))
        try simp only [Act.put, List.getElem_toArray, List.getElem_cons_zero, List.getElem_cons_succ, List.setIfInBounds_toArray, List.set_cons_zero, List.set_cons_succ]
        refine wpAnyH_take (i := 17) (oi := _) (v := ?_) rfl (by kernel_rfl) (by kernel_rfl) (by kernel_rfl) (fun _ _ _ h => h) (Or.inl ⟨by rfl, ?_⟩) (by assumption) ?_
        rotate_left
        focus (intro wS hSw; (try dsimp only at hSw); go_simp; (try with_reducible rfl))
        try simp only [Act.put, List.getElem_toArray, List.getElem_cons_zero, List.getElem_cons_succ, List.setIfInBounds_toArray, List.set_cons_zero, List.set_cons_succ]
        refine wpAnyH_take (i := 18) (oi := _) (v := ?_) rfl (by kernel_rfl) (by kernel_rfl) (by kernel_rfl) (fun _ _ _ h => h) (Or.inl ⟨by rfl, ?_⟩) (by assumption) ?_
        rotate_left
        focus (intro wS hSw; (try dsimp only at hSw); go_simp; (try with_reducible rfl))
        try simp only [Act.put, List.getElem_toArray, List.getElem_cons_zero, List.getElem_cons_succ, List.setIfInBounds_toArray, List.set_cons_zero, List.set_cons_succ]
        refine wpAnyH_take (i := 19) (oi := _) (v := ?_) rfl (by kernel_rfl) (by kernel_rfl) (by kernel_rfl) (fun _ _ _ h => h) (Or.inl ⟨by rfl, ?_⟩) (by assumption) ?_
        rotate_left
        focus (intro wS hSw; (try dsimp only at hSw); go_simp; (try with_reducible rfl))
        try simp only [Act.put, List.getElem_toArray, List.getElem_cons_zero, List.getElem_cons_succ, List.setIfInBounds_toArray, List.set_cons_zero, List.set_cons_succ]
        refine wpAnyH_take (i := 20) (oi := _) (v := ?_) rfl (by kernel_rfl) (by kernel_rfl) (by kernel_rfl) (fun _ _ _ h => h) (Or.inl ⟨by rfl, ?_⟩) (by assumption) ?_
        rotate_left
        focus (intro wS hSw; (try dsimp only at hSw); go_simp; (try with_reducible rfl))
        try simp only [Act.put, List.getElem_toArray, List.getElem_cons_zero, List.getElem_cons_succ, List.setIfInBounds_toArray, List.set_cons_zero, List.set_cons_succ]
        refine wpAnyH_take (i := 21) (oi := _) (v := ?_) rfl (by kernel_rfl) (by kernel_rfl) (by kernel_rfl) (fun _ _ _ h => h) (Or.inl ⟨by rfl, ?_⟩) (by assumption) ?_
        rotate_left
        focus (intro wS hSw; (try dsimp only at hSw); go_simp; (try with_reducible rfl))
        try simp only [Act.put, List.getElem_toArray, List.getElem_cons_zero, List.getElem_cons_succ, List.setIfInBounds_toArray, List.set_cons_zero, List.set_cons_succ]
        refine wpAnyH_take (i := 22) (oi := _) (v := ?_) rfl (by kernel_rfl) (by kernel_rfl) (by kernel_rfl) (fun _ _ _ h => h) (Or.inl ⟨by rfl, ?_⟩) (by assumption) ?_
        rotate_left
        focus (intro wS hSw; (try dsimp only at hSw); go_simp; (try with_reducible rfl))
        try simp only [Act.put, List.getElem_toArray, List.getElem_cons_zero, List.getElem_cons_succ, List.setIfInBounds_toArray, List.set_cons_zero, List.set_cons_succ]
        refine wpAnyH_take (i := 23) (oi := _) (v := ?_) rfl (by kernel_rfl) (by kernel_rfl) (by kernel_rfl) (fun _ _ _ h => h) (Or.inl ⟨by rfl, ?_⟩) (by assumption) ?_
        rotate_left
        focus (intro wS hSw; (try dsimp only at hSw); go_simp; (try with_reducible rfl))
        try simp only [Act.put, List.getElem_toArray, List.getElem_cons_zero, List.getElem_cons_succ, List.setIfInBounds_toArray, List.set_cons_zero, List.set_cons_succ]
        refine wpAnyH_take (i := 24) (oi := _) (v := ?_) rfl (by kernel_rfl) (by kernel_rfl) (by kernel_rfl) (fun _ _ _ h => h) (Or.inl ⟨by rfl, ?_⟩) (by assumption) ?_
        rotate_left
        focus (intro wS hSw; (try dsimp only at hSw); go_simp; (try with_reducible rfl))
        try simp only [Act.put, List.getElem_toArray, List.getElem_cons_zero, List.getElem_cons_succ, List.setIfInBounds_toArray, List.set_cons_zero, List.set_cons_succ]
        refine wpAnyH_take (i := 25) (oi := _) (v := ?_) rfl (by kernel_rfl) (by kernel_rfl) (by kernel_rfl) (fun _ _ _ h => h) (Or.inl ⟨by rfl, ?_⟩) (by assumption) ?_
        rotate_left
        focus (intro wS hSw; (try dsimp only at hSw); go_simp; (try with_reducible rfl))
        try simp only [Act.put, List.getElem_toArray, List.getElem_cons_zero, List.getElem_cons_succ, List.setIfInBounds_toArray, List.set_cons_zero, List.set_cons_succ]
        refine wpAnyH_take (i := 26) (oi := _) (v := ?_) rfl (by kernel_rfl) (by kernel_rfl) (by kernel_rfl) (fun _ _ _ h => h) (Or.inl ⟨by rfl, ?_⟩) (by assumption) ?_
        rotate_left
        focus (intro wS hSw; (try dsimp only at hSw); go_simp; (try with_reducible rfl))
        try simp only [Act.put, List.getElem_toArray, List.getElem_cons_zero, List.getElem_cons_succ, List.setIfInBounds_toArray, List.set_cons_zero, List.set_cons_succ]
        refine wpAnyH_take (i := 27) (oi := _) (v := ?_) rfl (by kernel_rfl) (by kernel_rfl) (by kernel_rfl) (fun _ _ _ h => h) (Or.inl ⟨by rfl, ?_⟩) (by assumption) ?_
        rotate_left
        focus (intro wS hSw; (try dsimp only at hSw); go_simp; (try with_reducible rfl))
        try simp only [Act.put, List.getElem_toArray, List.getElem_cons_zero, List.getElem_cons_succ, List.setIfInBounds_toArray, List.set_cons_zero, List.set_cons_succ]
        refine wpAnyH_take (i := 28) (oi := _) (v := ?_) rfl (by kernel_rfl) (by kernel_rfl) (by kernel_rfl) (fun _ _ _ h => h) (Or.inl ⟨by rfl, ?_⟩) (by assumption) ?_
        rotate_left
        focus (intro wS hSw; (try dsimp only at hSw); go_simp; (try with_reducible rfl))
        try simp only [Act.put, List.getElem_toArray, List.getElem_cons_zero, List.getElem_cons_succ, List.setIfInBounds_toArray, List.set_cons_zero, List.set_cons_succ]
        refine wpAnyH_take (i := 29) (oi := _) (v := ?_) rfl (by kernel_rfl) (by kernel_rfl) (by kernel_rfl) (fun _ _ _ h => h) (Or.inl ⟨by rfl, ?_⟩) (by assumption) ?_
        rotate_left
        focus (intro wS hSw; (try dsimp only at hSw); go_simp; (try with_reducible rfl))
        try simp only [Act.put, List.getElem_toArray, List.getElem_cons_zero, List.getElem_cons_succ, List.setIfInBounds_toArray, List.set_cons_zero, List.set_cons_succ]
        refine wpAnyH_take (i := 30) (oi := _) (v := ?_) rfl (by kernel_rfl) (by kernel_rfl) (by kernel_rfl) (fun _ _ _ h => h) (Or.inl ⟨by rfl, ?_⟩) (by assumption) ?_
        rotate_left
        focus (intro wS hSw; (try dsimp only at hSw); go_simp; (try with_reducible rfl))
        try simp only [Act.put, List.getElem_toArray, List.getElem_cons_zero, List.getElem_cons_succ, List.setIfInBounds_toArray, List.set_cons_zero, List.set_cons_succ]
        refine wpAnyH_take (i := 31) (oi := _) (v := ?_) rfl (by kernel_rfl) (by kernel_rfl) (by kernel_rfl) (fun _ _ _ h => h) (Or.inl ⟨by rfl, ?_⟩) (by assumption) ?_
        rotate_left
        focus (intro wS hSw; (try dsimp only at hSw); go_simp; (try with_reducible rfl))
        try simp only [Act.put, List.getElem_toArray, List.getElem_cons_zero, List.getElem_cons_succ, List.setIfInBounds_toArray, List.set_cons_zero, List.set_cons_succ]
        refine wpAnyH_take (i := 32) (oi := _) (v := ?_) rfl (by kernel_rfl) (by kernel_rfl) (by kernel_rfl) (fun _ _ _ h => h) (Or.inl ⟨by rfl, ?_⟩) (by assumption) ?_
        rotate_left
        focus (intro wS hSw; (try dsimp only at hSw); go_simp; (try with_reducible rfl))
        try simp only [Act.put, List.getElem_toArray, List.getElem_cons_zero, List.getElem_cons_succ, List.setIfInBounds_toArray, List.set_cons_zero, List.set_cons_succ]
        refine wpAnyH_take (i := 33) (oi := _) (v := ?_) rfl (by kernel_rfl) (by kernel_rfl) (by kernel_rfl) (fun _ _ _ h => h) (Or.inl ⟨by rfl, ?_⟩) (by assumption) ?_
        rotate_left
        focus (intro wS hSw; (try dsimp only at hSw); go_simp; (try with_reducible rfl))
        try simp only [Act.put, List.getElem_toArray, List.getElem_cons_zero, List.getElem_cons_succ, List.setIfInBounds_toArray, List.set_cons_zero, List.set_cons_succ]
        refine wpAnyH_take (i := 34) (oi := _) (v := ?_) rfl (by kernel_rfl) (by kernel_rfl) (by kernel_rfl) (fun _ _ _ h => h) (Or.inl ⟨by rfl, ?_⟩) (by assumption) ?_
        rotate_left
        focus (intro wS hSw; (try dsimp only at hSw); go_simp; (try with_reducible rfl))
        try simp only [Act.put, List.getElem_toArray, List.getElem_cons_zero, List.getElem_cons_succ, List.setIfInBounds_toArray, List.set_cons_zero, List.set_cons_succ]
        refine wpAnyH_ready (rs := [35]) (by kernel_rfl) (by simp) (AllReadyH.cons (o := _) rfl (fun K hK => ?_) AllReadyH.nil)
        go_simp
        go_at_call 54
        refine (sane4 _).mono ?_
        rintro e w140 ⟨rfl, hb⟩
        have H141 := hid (H139.out.call hb)
        clear hb
        refine hK.out _ _ ?_ (fun hHeld2 => ?_)
        focus ((try dsimp only); (exact ⟨H141.out.cell 0 rfl 0 rfl, H141.out.cell 0 rfl 1 rfl, H141.out.cell 0 rfl 2 rfl, H141.out.cell 0 rfl 3 rfl, H141.out.cell 6 rfl 0 rfl, H141.out.cell 6 rfl 1 rfl, H141.out.cell 6 rfl 2 rfl, H141.out.cell 6 rfl 3 rfl, H141.out.cell 2 rfl 0 rfl, H141.out.cell 2 rfl 1 rfl, H141.out.cell 2 rfl 2 rfl, H141.out.cell 2 rfl 3 rfl, H141.out.cell 9 rfl 0 rfl, H141.out.cell 9 rfl 1 rfl, H141.out.cell 9 rfl 2 rfl, H141.out.cell 9 rfl 3 rfl, (by have := row_cell (H141.out.slc 3 rfl).row (j := nn) (by omega); rw [HPX.out] at this; exact this), (by have := row_cell (H141.out.slc 10 rfl).row (j := nn) hnz; rw [HPZ.out] at this; exact this)⟩))
        clear hK K
        try simp only [Act.put, List.getElem_toArray, List.getElem_cons_zero, List.getElem_cons_succ, List.setIfInBounds_toArray, List.set_cons_zero, List.set_cons_succ]
        clear hHeld
        have hHeld := hHeld2
        clear hHeld2
        refine wpAnyH_take (i := 36) (oi := _) (v := ?_) rfl (by kernel_rfl) (by kernel_rfl) (by kernel_rfl) (fun _ _ _ h => h) (Or.inl ⟨by rfl, ?_⟩) (by assumption) ?_
        rotate_left
        focus (intro wS hSw; (try dsimp only at hSw); go_simp; (try with_reducible rfl))
        try simp only [Act.put, List.getElem_toArray, List.getElem_cons_zero, List.getElem_cons_succ, List.setIfInBounds_toArray, List.set_cons_zero, List.set_cons_succ]
        refine wpAnyH_take (i := 37) (oi := _) (v := ?_) rfl (by kernel_rfl) (by kernel_rfl) (by kernel_rfl) (fun _ _ _ h => h) (Or.inl ⟨by rfl, ?_⟩) (by assumption) ?_
        rotate_left
        focus (intro wS hSw; (try dsimp only at hSw); go_simp; (try with_reducible rfl))
        try simp only [Act.put, List.getElem_toArray, List.getElem_cons_zero, List.getElem_cons_succ, List.setIfInBounds_toArray, List.set_cons_zero, List.set_cons_succ]
        refine wpAnyH_done (by kernel_rfl) ?_ _
        try clear hHeld
        go_wp2_with fail
        go_ret
        exact ⟨rfl, by first | exact H141.out.below | exact H141.out.below'⟩
end Go.Proofs.Ytoojiabdgaflgaa
