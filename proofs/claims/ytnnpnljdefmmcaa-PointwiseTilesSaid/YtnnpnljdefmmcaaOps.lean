/-
  Contract: the tape's Ops: programs that are valid and have small values; the tape alone has changed.
-/
import Derived.Test.YtnnpnljdefmmcaaPrsTk
import Derived.Test.YtnnpnljdefmmcaaPwMake
import Derived.Test.YtnnpnljdefmmcaaKE
namespace Go.Proofs.Ytnnpnljdefmmcaa
open Go.RowKit
attribute [local go_sem ↓] Go.wp_at_zero Go.wp_at_succ
set_option linter.unusedVariables false
set_option linter.unusedSimpArgs false

set_option maxRecDepth 100000 in
set_option maxHeartbeats 6400000 in
theorem ops_any (B0 k : Nat) (two : Bool) (W : World) (ht : TapeB B0 W k) :
    Calls Try.prog 40 #[.pointer (some ⟨k, 0, none⟩), .bool two] W (OpsPost (OpsIs two) B0 k W) := by
  obtain ⟨B, hB⟩ : ∃ B, W.heap.size = B := ⟨_, rfl⟩
  have HI0 := hid (Tk.init ht hB)
  clear ht
  go_enter Try.func40, Try.ntmps40
  go_upto_region 2 with fail
  have H1 := hid (show Tk B0 k B W [.cells B #[.int .i64 0, .int .i64 0] 60] (W.alloc (.cells #[.int .i64 0, .int .i64 0] 60)) from (HI0.out.alloc #[.int .i64 0, .int .i64 0] 60 hB))
  first | refine gen_tcode H1.out ?_ | refine gen_tlist H1.out ?_ | refine gen_tcalls H1.out ?_
  intro w2 hG
  clear H1
  have H1 := hid hG
  clear hG
  have H3 := hid (H1.out.litArr 0 2 1 (prV [(0, 0)]) rfl (by decide) (by decide))
  cases two with
  | true =>
    obtain ⟨D4, hD4⟩ : ∃ D, w2.heap.size = D := ⟨_, rfl⟩
    go_wp2_with fail
    have H5 := hid (show Tk B0 k B W [.cells D4 #[.int .i64 3, .int .i64 4, .int .i64 5, .int .i64 6, .int .i64 7, .int .i64 8, .int .i64 9] 3, .arr (60) 2 (.slice (some ⟨B, 0, none⟩) 1 1) 1 (prV [(0, 0)])] (w2.alloc (.cells #[.int .i64 3, .int .i64 4, .int .i64 5, .int .i64 6, .int .i64 7, .int .i64 8, .int .i64 9] 3)) from (H3.out.alloc #[.int .i64 3, .int .i64 4, .int .i64 5, .int .i64 6, .int .i64 7, .int .i64 8, .int .i64 9] 3 hD4))
    first | refine gen_tcode H5.out ?_ | refine gen_tlist H5.out ?_ | refine gen_tcalls H5.out ?_
    intro w6 hG
    clear H5
    have H5 := hid hG
    clear hG
    clear hD4
    refine (pickB_any B0 k _ 7 7 [3, 4, 5, 6, 7, 8, 9] _ (by omega) (by omega) (H5.out.tape) (H5.out.lit 0 [3, 4, 5, 6, 7, 8, 9] rfl (by simp)).row (H5.out.far 0 rfl _)).mono ?_
    rintro e w8 ⟨x7, rfl, hx7, htn, hgn, hsn⟩
    have H9 := hid (H5.out.next htn hgn)
    clear htn hgn hsn
    obtain ⟨x7a, x7b⟩ : 3 ≤ x7 ∧ x7 ≤ 9 := by simp only [List.mem_cons, List.not_mem_nil, or_false] at hx7; omega
    clear hx7
    obtain ⟨D10, hD10⟩ : ∃ D, w8.heap.size = D := ⟨_, rfl⟩
    have H11 := hid (show Tk B0 k B W [.cells D10 #[.int .i64 1, .int .i64 0, .int .i64 x7, .int .i64 0] 60, .cells D4 #[.int .i64 3, .int .i64 4, .int .i64 5, .int .i64 6, .int .i64 7, .int .i64 8, .int .i64 9] 3, .arr (60) 2 (.slice (some ⟨B, 0, none⟩) 1 1) 1 (prV [(0, 0)])] (w8.alloc (.cells #[.int .i64 1, .int .i64 0, .int .i64 x7, .int .i64 0] 60)) from (H9.out.alloc #[.int .i64 1, .int .i64 0, .int .i64 x7, .int .i64 0] 60 hD10))
    go_upto_region 4 with (at_builtin; refine append_vals rfl _ _ 31 60 2 16 (.agg #[.int .i64 0, .int .i64 0]) Try.underlying31 info_op rfl (by decide) (by decide) rfl B _ _ _ D10 2 2 [.int .i64 1, .int .i64 0, .int .i64 x7, .int .i64 0] rfl rfl rfl (H11.out.arrE 2 rfl) (H11.out.news 0 [.int .i64 1, .int .i64 0, .int .i64 x7, .int .i64 0] rfl) (by intro u hu; simp at hu; rcases hu with rfl | rfl | rfl | rfl <;> rfl) (by omega) H11.out.size ?_; intro v14 w15 ho hg hv; have H12 := hid (H11.out.appendE 2 rfl ho hg hv); clear ho hg hv)
    clear H11
    obtain ⟨g16, c17, hva⟩ := arr_pos (H12.out.arrE 2 rfl) (by omega)
    subst hva
    rw [show prV [(0, 0)] ++ [.int .i64 1, .int .i64 0, .int .i64 x7, .int .i64 0] = prV ([(0, 0)] ++ [(1, 0), (x7, 0)]) from by rw [prV_app]; rfl] at H12
    have H13 := hid (show Tk B0 k B W [.cells D4 #[.int .i64 3, .int .i64 4, .int .i64 5, .int .i64 6, .int .i64 7, .int .i64 8, .int .i64 9] 3, .arr (60) 2 (.slice (some ⟨g16, 0, none⟩) (1 + 2) c17) (1 + 2) (prV ([(0, 0)] ++ [(1, 0), (x7, 0)]))] w15 from H12.out.pick [1, 2] rfl (by decide))
    clear hD10
    go_wp2_with fail
    refine (nextB_any B0 k _ _ (by omega) (H13.out.tape)).mono ?_
    rintro e w19 ⟨x18, rfl, x18a, x18b, htn, hgn, hsn⟩
    have H20 := hid (H13.out.next htn hgn)
    clear htn hgn hsn
    go_wp2_with fail
    go_loopw [6, 5] (fun i v wr => ∃ (j m : Nat) (L : List (Int × Int)) (g ln sc : Nat), m + j ≤ 3 ∧ i = .int .i64 j ∧ v = .slice (some ⟨g, 0, none⟩) ln sc ∧ OpsM true m L ∧ Tk B0 k B W [.arr (60) 2 (.slice (some ⟨g, 0, none⟩) ln sc) ln (prV L)] wr) (fun i _ _ => (intOf i).toNat)
    case atStart => exact ⟨x18.toNat, 0, ([(0, 0)] ++ [(1, 0), (x7, 0)]), g16, (1 + 2), c17, by omega, by rw [show ((x18.toNat : Nat) : Int) = x18 from by omega], rfl, OpsM.two (by omega), H20.out.pick [1] rfl (by decide)⟩
    case round =>
      obtain ⟨j, m, L, g, ln, sc, hmj, rfl, rfl, hm, hst⟩ := hrel
      obtain ⟨u21, rfl⟩ : ∃ u21 : World, u21 = wr := ⟨_, rfl⟩
      have H22 := hid hst
      clear hst
      have HM := hid hm
      have hlm := hm.len
      clear hm
      have hll := arr_len (H22.out.arrE 0 rfl)
      obtain ⟨ll1, ll2, ll3, ll4⟩ : 1 ≤ ln ∧ ln ≤ 9 ∧ ln ≤ L.length ∧ L.length ≤ ln := by omega
      clear hll hlm
      by_cases hj0 : 0 < j
      · skip
        have hj0' : (0 : Int) < j := by omega
        go_wp2_with fail
        refine (nextB_any B0 k _ _ (by omega) (H22.out.tape)).mono ?_
        rintro e w24 ⟨x23, rfl, x23a, x23b, htn, hgn, hsn⟩
        have H25 := hid (H22.out.next htn hgn)
        clear htn hgn hsn
        by_cases c26 : (x23 : Int) = 0
        · obtain ⟨c26c, c26d⟩ : (x23 : Int) ≤ 0 ∧ (0 : Int) ≤ x23 := by omega
          have c26a : ((x23 : Int) == (0)) = true := by simpa using c26
          have c26b : ((x23 : Int) != (0)) = false := by simpa using c26
          have c26h := hid c26
          clear c26
          go_wp2_with fail
          refine (nextB_any B0 k _ _ (by omega) (H25.out.tape)).mono ?_
          rintro e w28 ⟨x27, rfl, x27a, x27b, htn, hgn, hsn⟩
          have H29 := hid (H25.out.next htn hgn)
          clear htn hgn hsn
          obtain ⟨D30, hD30⟩ : ∃ D, w28.heap.size = D := ⟨_, rfl⟩
          go_wp2_with fail
          have H31 := hid (show Tk B0 k B W [.cells D30 #[.int .i64 (x27 - 100), .int .i64 0, .int .i64 3, .int .i64 (-2)] 3, .arr (60) 2 (.slice (some ⟨g, 0, none⟩) ln sc) ln (prV L)] (w28.alloc (.cells #[.int .i64 (x27 - 100), .int .i64 0, .int .i64 3, .int .i64 (-2)] 3)) from (H29.out.alloc #[.int .i64 (x27 - 100), .int .i64 0, .int .i64 3, .int .i64 (-2)] 3 hD30))
          first | refine gen_tcode H31.out ?_ | refine gen_tlist H31.out ?_ | refine gen_tcalls H31.out ?_
          intro w32 hG
          clear H31
          have H31 := hid hG
          clear hG
          clear hD30
          refine (pickB_any B0 k _ 4 4 [x27 - 100, 0, 3, (-2)] _ (by omega) (by omega) (H31.out.tape) (H31.out.lit 0 [x27 - 100, 0, 3, (-2)] rfl (by simp)).row (H31.out.far 0 rfl _)).mono ?_
          rintro e w34 ⟨x33, rfl, hx33, htn, hgn, hsn⟩
          have H35 := hid (H31.out.next htn hgn)
          clear htn hgn hsn
          obtain ⟨x33a, x33b⟩ : -100 ≤ x33 ∧ x33 ≤ 199 := by simp only [List.mem_cons, List.not_mem_nil, or_false] at hx33; omega
          clear hx33
          obtain ⟨D36, hD36⟩ : ∃ D, w34.heap.size = D := ⟨_, rfl⟩
          go_wp2_with fail
          have H37 := hid (show Tk B0 k B W [.cells D36 #[.int .i64 3, .int .i64 4, .int .i64 5, .int .i64 6, .int .i64 7, .int .i64 8, .int .i64 9] 3, .cells D30 #[.int .i64 (x27 - 100), .int .i64 0, .int .i64 3, .int .i64 (-2)] 3, .arr (60) 2 (.slice (some ⟨g, 0, none⟩) ln sc) ln (prV L)] (w34.alloc (.cells #[.int .i64 3, .int .i64 4, .int .i64 5, .int .i64 6, .int .i64 7, .int .i64 8, .int .i64 9] 3)) from (H35.out.alloc #[.int .i64 3, .int .i64 4, .int .i64 5, .int .i64 6, .int .i64 7, .int .i64 8, .int .i64 9] 3 hD36))
          first | refine gen_tcode H37.out ?_ | refine gen_tlist H37.out ?_ | refine gen_tcalls H37.out ?_
          intro w38 hG
          clear H37
          have H37 := hid hG
          clear hG
          clear hD36
          refine (pickB_any B0 k _ 7 7 [3, 4, 5, 6, 7, 8, 9] _ (by omega) (by omega) (H37.out.tape) (H37.out.lit 0 [3, 4, 5, 6, 7, 8, 9] rfl (by simp)).row (H37.out.far 0 rfl _)).mono ?_
          rintro e w40 ⟨x39, rfl, hx39, htn, hgn, hsn⟩
          have H41 := hid (H37.out.next htn hgn)
          clear htn hgn hsn
          obtain ⟨x39a, x39b⟩ : 3 ≤ x39 ∧ x39 ≤ 9 := by simp only [List.mem_cons, List.not_mem_nil, or_false] at hx39; omega
          clear hx39
          obtain ⟨D42, hD42⟩ : ∃ D, w40.heap.size = D := ⟨_, rfl⟩
          have H43 := hid (show Tk B0 k B W [.cells D42 #[.int .i64 2, .int .i64 x33, .int .i64 x39, .int .i64 0] 60, .cells D36 #[.int .i64 3, .int .i64 4, .int .i64 5, .int .i64 6, .int .i64 7, .int .i64 8, .int .i64 9] 3, .cells D30 #[.int .i64 (x27 - 100), .int .i64 0, .int .i64 3, .int .i64 (-2)] 3, .arr (60) 2 (.slice (some ⟨g, 0, none⟩) ln sc) ln (prV L)] (w40.alloc (.cells #[.int .i64 2, .int .i64 x33, .int .i64 x39, .int .i64 0] 60)) from (H41.out.alloc #[.int .i64 2, .int .i64 x33, .int .i64 x39, .int .i64 0] 60 hD42))
          go_upto_region 6 with (at_builtin; refine append_vals rfl _ _ 31 60 2 16 (.agg #[.int .i64 0, .int .i64 0]) Try.underlying31 info_op rfl (by decide) (by decide) rfl B _ _ _ D42 2 2 [.int .i64 2, .int .i64 x33, .int .i64 x39, .int .i64 0] rfl rfl rfl (H43.out.arrE 3 rfl) (H43.out.news 0 [.int .i64 2, .int .i64 x33, .int .i64 x39, .int .i64 0] rfl) (by intro u hu; simp at hu; rcases hu with rfl | rfl | rfl | rfl <;> rfl) (by omega) H43.out.size ?_; intro v46 w47 ho hg hv; have H44 := hid (H43.out.appendE 3 rfl ho hg hv); clear ho hg hv)
          clear H43
          obtain ⟨g48, c49, hva⟩ := arr_pos (H44.out.arrE 3 rfl) (by omega)
          subst hva
          rw [show prV L ++ [.int .i64 2, .int .i64 x33, .int .i64 x39, .int .i64 0] = prV (L ++ [(2, x33), (x39, 0)]) from by rw [prV_app]; rfl] at H44
          have H45 := hid (show Tk B0 k B W [.cells D36 #[.int .i64 3, .int .i64 4, .int .i64 5, .int .i64 6, .int .i64 7, .int .i64 8, .int .i64 9] 3, .cells D30 #[.int .i64 (x27 - 100), .int .i64 0, .int .i64 3, .int .i64 (-2)] 3, .arr (60) 2 (.slice (some ⟨g48, 0, none⟩) (ln + 2) c49) (ln + 2) (prV (L ++ [(2, x33), (x39, 0)]))] w47 from H44.out.pick [1, 2, 3] rfl (by decide))
          clear hD42
          go_wp2_with fail
          go_roundw
          case rel => exact ⟨j - 1, m + 1, _, g48, (ln + 2), c49, by omega, by go_num, rfl, OpsM.bin HM.out (by omega) (by omega), H45.out.pick [2] rfl (by decide)⟩
          case measure => first | (simp [intOf]; omega) | (simp [intOf]; done)
        · have c26a : ((x23 : Int) == (0)) = false := by simpa using c26
          have c26b : ((x23 : Int) != (0)) = true := by simpa using c26
          have c26h := hid c26
          clear c26
          by_cases c50 : (x23 : Int) = 1
          · obtain ⟨c50c, c50d⟩ : (x23 : Int) ≤ 1 ∧ (1 : Int) ≤ x23 := by omega
            have c50a : ((x23 : Int) == (1)) = true := by simpa using c50
            have c50b : ((x23 : Int) != (1)) = false := by simpa using c50
            have c50h := hid c50
            clear c50
            go_wp2_with fail
            refine (nextB_any B0 k _ _ (by omega) (H25.out.tape)).mono ?_
            rintro e w52 ⟨x51, rfl, x51a, x51b, htn, hgn, hsn⟩
            have H53 := hid (H25.out.next htn hgn)
            clear htn hgn hsn
            obtain ⟨D54, hD54⟩ : ∃ D, w52.heap.size = D := ⟨_, rfl⟩
            have H55 := hid (show Tk B0 k B W [.cells D54 #[.int .i64 10, .int .i64 x51] 60, .arr (60) 2 (.slice (some ⟨g, 0, none⟩) ln sc) ln (prV L)] (w52.alloc (.cells #[.int .i64 10, .int .i64 x51] 60)) from (H53.out.alloc #[.int .i64 10, .int .i64 x51] 60 hD54))
            go_upto_region 6 with (at_builtin; refine append_vals rfl _ _ 31 60 2 16 (.agg #[.int .i64 0, .int .i64 0]) Try.underlying31 info_op rfl (by decide) (by decide) rfl B _ _ _ D54 1 1 [.int .i64 10, .int .i64 x51] rfl rfl rfl (H55.out.arrE 1 rfl) (H55.out.news 0 [.int .i64 10, .int .i64 x51] rfl) (by intro u hu; simp at hu; rcases hu with rfl | rfl <;> rfl) (by omega) H55.out.size ?_; intro v58 w59 ho hg hv; have H56 := hid (H55.out.appendE 1 rfl ho hg hv); clear ho hg hv)
            clear H55
            obtain ⟨g60, c61, hva⟩ := arr_pos (H56.out.arrE 1 rfl) (by omega)
            subst hva
            rw [show prV L ++ [.int .i64 10, .int .i64 x51] = prV (L ++ [(10, x51)]) from by rw [prV_app]; rfl] at H56
            have H57 := hid (show Tk B0 k B W [.arr (60) 2 (.slice (some ⟨g60, 0, none⟩) (ln + 1) c61) (ln + 1) (prV (L ++ [(10, x51)]))] w59 from H56.out.pick [1] rfl (by decide))
            clear hD54
            go_wp2_with fail
            go_roundw
            case rel => exact ⟨j - 1, m + 1, _, g60, (ln + 1), c61, by omega, by go_num, rfl, OpsM.sh HM.out (by omega), H57.out.pick [0] rfl (by decide)⟩
            case measure => first | (simp [intOf]; omega) | (simp [intOf]; done)
          · have c50a : ((x23 : Int) == (1)) = false := by simpa using c50
            have c50b : ((x23 : Int) != (1)) = true := by simpa using c50
            have c50h := hid c50
            clear c50
            obtain ⟨D62, hD62⟩ : ∃ D, w24.heap.size = D := ⟨_, rfl⟩
            have H63 := hid (show Tk B0 k B W [.cells D62 #[.int .i64 11, .int .i64 0] 60, .arr (60) 2 (.slice (some ⟨g, 0, none⟩) ln sc) ln (prV L)] (w24.alloc (.cells #[.int .i64 11, .int .i64 0] 60)) from (H25.out.alloc #[.int .i64 11, .int .i64 0] 60 hD62))
            go_upto_region 6 with (at_builtin; refine append_vals rfl _ _ 31 60 2 16 (.agg #[.int .i64 0, .int .i64 0]) Try.underlying31 info_op rfl (by decide) (by decide) rfl B _ _ _ D62 1 1 [.int .i64 11, .int .i64 0] rfl rfl rfl (H63.out.arrE 1 rfl) (H63.out.news 0 [.int .i64 11, .int .i64 0] rfl) (by intro u hu; simp at hu; rcases hu with rfl | rfl <;> rfl) (by omega) H63.out.size ?_; intro v66 w67 ho hg hv; have H64 := hid (H63.out.appendE 1 rfl ho hg hv); clear ho hg hv)
            clear H63
            obtain ⟨g68, c69, hva⟩ := arr_pos (H64.out.arrE 1 rfl) (by omega)
            subst hva
            rw [show prV L ++ [.int .i64 11, .int .i64 0] = prV (L ++ [(11, 0)]) from by rw [prV_app]; rfl] at H64
            have H65 := hid (show Tk B0 k B W [.arr (60) 2 (.slice (some ⟨g68, 0, none⟩) (ln + 1) c69) (ln + 1) (prV (L ++ [(11, 0)]))] w67 from H64.out.pick [1] rfl (by decide))
            clear hD62
            go_wp2_with fail
            go_roundw
            case rel => exact ⟨j - 1, m + 1, _, g68, (ln + 1), c69, by omega, by go_num, rfl, OpsM.ab HM.out, H65.out.pick [0] rfl (by decide)⟩
            case measure => first | (simp [intOf]; omega) | (simp [intOf]; done)
      · skip
        have hj0' : ¬ ((0 : Int) < j) := by omega
        go_wp2_with fail
        have hll := arr_len (H22.out.arrE 0 rfl)
        go_ret
        exact ⟨_, L, rfl, ⟨m, by omega, HM.out⟩, by omega, by omega, by rw [hB, hll]; exact H22.out.arrE 0 rfl, H22.out.tape, H22.out.grown⟩
  | false =>
    go_wp2_with fail
    refine (nextB_any B0 k _ _ (by omega) (H3.out.tape)).mono ?_
    rintro e w71 ⟨x70, rfl, x70a, x70b, htn, hgn, hsn⟩
    have H72 := hid (H3.out.next htn hgn)
    clear htn hgn hsn
    go_wp2_with fail
    go_loopw [6, 5] (fun i v wr => ∃ (j m : Nat) (L : List (Int × Int)) (g ln sc : Nat), m + j ≤ 3 ∧ i = .int .i64 j ∧ v = .slice (some ⟨g, 0, none⟩) ln sc ∧ OpsM false m L ∧ Tk B0 k B W [.arr (60) 2 (.slice (some ⟨g, 0, none⟩) ln sc) ln (prV L)] wr) (fun i _ _ => (intOf i).toNat)
    case atStart => exact ⟨x70.toNat, 0, [(0, 0)], B, 1, 1, by omega, by rw [show ((x70.toNat : Nat) : Int) = x70 from by omega], rfl, OpsM.one, H72.out.pick [0] rfl (by decide)⟩
    case round =>
      obtain ⟨j, m, L, g, ln, sc, hmj, rfl, rfl, hm, hst⟩ := hrel
      obtain ⟨u73, rfl⟩ : ∃ u73 : World, u73 = wr := ⟨_, rfl⟩
      have H74 := hid hst
      clear hst
      have HM := hid hm
      have hlm := hm.len
      clear hm
      have hll := arr_len (H74.out.arrE 0 rfl)
      obtain ⟨ll1, ll2, ll3, ll4⟩ : 1 ≤ ln ∧ ln ≤ 9 ∧ ln ≤ L.length ∧ L.length ≤ ln := by omega
      clear hll hlm
      by_cases hj0 : 0 < j
      · skip
        have hj0' : (0 : Int) < j := by omega
        go_wp2_with fail
        refine (nextB_any B0 k _ _ (by omega) (H74.out.tape)).mono ?_
        rintro e w76 ⟨x75, rfl, x75a, x75b, htn, hgn, hsn⟩
        have H77 := hid (H74.out.next htn hgn)
        clear htn hgn hsn
        by_cases c78 : (x75 : Int) = 0
        · obtain ⟨c78c, c78d⟩ : (x75 : Int) ≤ 0 ∧ (0 : Int) ≤ x75 := by omega
          have c78a : ((x75 : Int) == (0)) = true := by simpa using c78
          have c78b : ((x75 : Int) != (0)) = false := by simpa using c78
          have c78h := hid c78
          clear c78
          go_wp2_with fail
          refine (nextB_any B0 k _ _ (by omega) (H77.out.tape)).mono ?_
          rintro e w80 ⟨x79, rfl, x79a, x79b, htn, hgn, hsn⟩
          have H81 := hid (H77.out.next htn hgn)
          clear htn hgn hsn
          obtain ⟨D82, hD82⟩ : ∃ D, w80.heap.size = D := ⟨_, rfl⟩
          go_wp2_with fail
          have H83 := hid (show Tk B0 k B W [.cells D82 #[.int .i64 (x79 - 100), .int .i64 0, .int .i64 3, .int .i64 (-2)] 3, .arr (60) 2 (.slice (some ⟨g, 0, none⟩) ln sc) ln (prV L)] (w80.alloc (.cells #[.int .i64 (x79 - 100), .int .i64 0, .int .i64 3, .int .i64 (-2)] 3)) from (H81.out.alloc #[.int .i64 (x79 - 100), .int .i64 0, .int .i64 3, .int .i64 (-2)] 3 hD82))
          first | refine gen_tcode H83.out ?_ | refine gen_tlist H83.out ?_ | refine gen_tcalls H83.out ?_
          intro w84 hG
          clear H83
          have H83 := hid hG
          clear hG
          clear hD82
          refine (pickB_any B0 k _ 4 4 [x79 - 100, 0, 3, (-2)] _ (by omega) (by omega) (H83.out.tape) (H83.out.lit 0 [x79 - 100, 0, 3, (-2)] rfl (by simp)).row (H83.out.far 0 rfl _)).mono ?_
          rintro e w86 ⟨x85, rfl, hx85, htn, hgn, hsn⟩
          have H87 := hid (H83.out.next htn hgn)
          clear htn hgn hsn
          obtain ⟨x85a, x85b⟩ : -100 ≤ x85 ∧ x85 ≤ 199 := by simp only [List.mem_cons, List.not_mem_nil, or_false] at hx85; omega
          clear hx85
          obtain ⟨D88, hD88⟩ : ∃ D, w86.heap.size = D := ⟨_, rfl⟩
          go_wp2_with fail
          have H89 := hid (show Tk B0 k B W [.cells D88 #[.int .i64 3, .int .i64 4, .int .i64 5, .int .i64 6, .int .i64 7, .int .i64 8, .int .i64 9] 3, .cells D82 #[.int .i64 (x79 - 100), .int .i64 0, .int .i64 3, .int .i64 (-2)] 3, .arr (60) 2 (.slice (some ⟨g, 0, none⟩) ln sc) ln (prV L)] (w86.alloc (.cells #[.int .i64 3, .int .i64 4, .int .i64 5, .int .i64 6, .int .i64 7, .int .i64 8, .int .i64 9] 3)) from (H87.out.alloc #[.int .i64 3, .int .i64 4, .int .i64 5, .int .i64 6, .int .i64 7, .int .i64 8, .int .i64 9] 3 hD88))
          first | refine gen_tcode H89.out ?_ | refine gen_tlist H89.out ?_ | refine gen_tcalls H89.out ?_
          intro w90 hG
          clear H89
          have H89 := hid hG
          clear hG
          clear hD88
          refine (pickB_any B0 k _ 7 7 [3, 4, 5, 6, 7, 8, 9] _ (by omega) (by omega) (H89.out.tape) (H89.out.lit 0 [3, 4, 5, 6, 7, 8, 9] rfl (by simp)).row (H89.out.far 0 rfl _)).mono ?_
          rintro e w92 ⟨x91, rfl, hx91, htn, hgn, hsn⟩
          have H93 := hid (H89.out.next htn hgn)
          clear htn hgn hsn
          obtain ⟨x91a, x91b⟩ : 3 ≤ x91 ∧ x91 ≤ 9 := by simp only [List.mem_cons, List.not_mem_nil, or_false] at hx91; omega
          clear hx91
          obtain ⟨D94, hD94⟩ : ∃ D, w92.heap.size = D := ⟨_, rfl⟩
          have H95 := hid (show Tk B0 k B W [.cells D94 #[.int .i64 2, .int .i64 x85, .int .i64 x91, .int .i64 0] 60, .cells D88 #[.int .i64 3, .int .i64 4, .int .i64 5, .int .i64 6, .int .i64 7, .int .i64 8, .int .i64 9] 3, .cells D82 #[.int .i64 (x79 - 100), .int .i64 0, .int .i64 3, .int .i64 (-2)] 3, .arr (60) 2 (.slice (some ⟨g, 0, none⟩) ln sc) ln (prV L)] (w92.alloc (.cells #[.int .i64 2, .int .i64 x85, .int .i64 x91, .int .i64 0] 60)) from (H93.out.alloc #[.int .i64 2, .int .i64 x85, .int .i64 x91, .int .i64 0] 60 hD94))
          go_upto_region 6 with (at_builtin; refine append_vals rfl _ _ 31 60 2 16 (.agg #[.int .i64 0, .int .i64 0]) Try.underlying31 info_op rfl (by decide) (by decide) rfl B _ _ _ D94 2 2 [.int .i64 2, .int .i64 x85, .int .i64 x91, .int .i64 0] rfl rfl rfl (H95.out.arrE 3 rfl) (H95.out.news 0 [.int .i64 2, .int .i64 x85, .int .i64 x91, .int .i64 0] rfl) (by intro u hu; simp at hu; rcases hu with rfl | rfl | rfl | rfl <;> rfl) (by omega) H95.out.size ?_; intro v98 w99 ho hg hv; have H96 := hid (H95.out.appendE 3 rfl ho hg hv); clear ho hg hv)
          clear H95
          obtain ⟨g100, c101, hva⟩ := arr_pos (H96.out.arrE 3 rfl) (by omega)
          subst hva
          rw [show prV L ++ [.int .i64 2, .int .i64 x85, .int .i64 x91, .int .i64 0] = prV (L ++ [(2, x85), (x91, 0)]) from by rw [prV_app]; rfl] at H96
          have H97 := hid (show Tk B0 k B W [.cells D88 #[.int .i64 3, .int .i64 4, .int .i64 5, .int .i64 6, .int .i64 7, .int .i64 8, .int .i64 9] 3, .cells D82 #[.int .i64 (x79 - 100), .int .i64 0, .int .i64 3, .int .i64 (-2)] 3, .arr (60) 2 (.slice (some ⟨g100, 0, none⟩) (ln + 2) c101) (ln + 2) (prV (L ++ [(2, x85), (x91, 0)]))] w99 from H96.out.pick [1, 2, 3] rfl (by decide))
          clear hD94
          go_wp2_with fail
          go_roundw
          case rel => exact ⟨j - 1, m + 1, _, g100, (ln + 2), c101, by omega, by go_num, rfl, OpsM.bin HM.out (by omega) (by omega), H97.out.pick [2] rfl (by decide)⟩
          case measure => first | (simp [intOf]; omega) | (simp [intOf]; done)
        · have c78a : ((x75 : Int) == (0)) = false := by simpa using c78
          have c78b : ((x75 : Int) != (0)) = true := by simpa using c78
          have c78h := hid c78
          clear c78
          by_cases c102 : (x75 : Int) = 1
          · obtain ⟨c102c, c102d⟩ : (x75 : Int) ≤ 1 ∧ (1 : Int) ≤ x75 := by omega
            have c102a : ((x75 : Int) == (1)) = true := by simpa using c102
            have c102b : ((x75 : Int) != (1)) = false := by simpa using c102
            have c102h := hid c102
            clear c102
            go_wp2_with fail
            refine (nextB_any B0 k _ _ (by omega) (H77.out.tape)).mono ?_
            rintro e w104 ⟨x103, rfl, x103a, x103b, htn, hgn, hsn⟩
            have H105 := hid (H77.out.next htn hgn)
            clear htn hgn hsn
            obtain ⟨D106, hD106⟩ : ∃ D, w104.heap.size = D := ⟨_, rfl⟩
            have H107 := hid (show Tk B0 k B W [.cells D106 #[.int .i64 10, .int .i64 x103] 60, .arr (60) 2 (.slice (some ⟨g, 0, none⟩) ln sc) ln (prV L)] (w104.alloc (.cells #[.int .i64 10, .int .i64 x103] 60)) from (H105.out.alloc #[.int .i64 10, .int .i64 x103] 60 hD106))
            go_upto_region 6 with (at_builtin; refine append_vals rfl _ _ 31 60 2 16 (.agg #[.int .i64 0, .int .i64 0]) Try.underlying31 info_op rfl (by decide) (by decide) rfl B _ _ _ D106 1 1 [.int .i64 10, .int .i64 x103] rfl rfl rfl (H107.out.arrE 1 rfl) (H107.out.news 0 [.int .i64 10, .int .i64 x103] rfl) (by intro u hu; simp at hu; rcases hu with rfl | rfl <;> rfl) (by omega) H107.out.size ?_; intro v110 w111 ho hg hv; have H108 := hid (H107.out.appendE 1 rfl ho hg hv); clear ho hg hv)
            clear H107
            obtain ⟨g112, c113, hva⟩ := arr_pos (H108.out.arrE 1 rfl) (by omega)
            subst hva
            rw [show prV L ++ [.int .i64 10, .int .i64 x103] = prV (L ++ [(10, x103)]) from by rw [prV_app]; rfl] at H108
            have H109 := hid (show Tk B0 k B W [.arr (60) 2 (.slice (some ⟨g112, 0, none⟩) (ln + 1) c113) (ln + 1) (prV (L ++ [(10, x103)]))] w111 from H108.out.pick [1] rfl (by decide))
            clear hD106
            go_wp2_with fail
            go_roundw
            case rel => exact ⟨j - 1, m + 1, _, g112, (ln + 1), c113, by omega, by go_num, rfl, OpsM.sh HM.out (by omega), H109.out.pick [0] rfl (by decide)⟩
            case measure => first | (simp [intOf]; omega) | (simp [intOf]; done)
          · have c102a : ((x75 : Int) == (1)) = false := by simpa using c102
            have c102b : ((x75 : Int) != (1)) = true := by simpa using c102
            have c102h := hid c102
            clear c102
            obtain ⟨D114, hD114⟩ : ∃ D, w76.heap.size = D := ⟨_, rfl⟩
            have H115 := hid (show Tk B0 k B W [.cells D114 #[.int .i64 11, .int .i64 0] 60, .arr (60) 2 (.slice (some ⟨g, 0, none⟩) ln sc) ln (prV L)] (w76.alloc (.cells #[.int .i64 11, .int .i64 0] 60)) from (H77.out.alloc #[.int .i64 11, .int .i64 0] 60 hD114))
            go_upto_region 6 with (at_builtin; refine append_vals rfl _ _ 31 60 2 16 (.agg #[.int .i64 0, .int .i64 0]) Try.underlying31 info_op rfl (by decide) (by decide) rfl B _ _ _ D114 1 1 [.int .i64 11, .int .i64 0] rfl rfl rfl (H115.out.arrE 1 rfl) (H115.out.news 0 [.int .i64 11, .int .i64 0] rfl) (by intro u hu; simp at hu; rcases hu with rfl | rfl <;> rfl) (by omega) H115.out.size ?_; intro v118 w119 ho hg hv; have H116 := hid (H115.out.appendE 1 rfl ho hg hv); clear ho hg hv)
            clear H115
            obtain ⟨g120, c121, hva⟩ := arr_pos (H116.out.arrE 1 rfl) (by omega)
            subst hva
            rw [show prV L ++ [.int .i64 11, .int .i64 0] = prV (L ++ [(11, 0)]) from by rw [prV_app]; rfl] at H116
            have H117 := hid (show Tk B0 k B W [.arr (60) 2 (.slice (some ⟨g120, 0, none⟩) (ln + 1) c121) (ln + 1) (prV (L ++ [(11, 0)]))] w119 from H116.out.pick [1] rfl (by decide))
            clear hD114
            go_wp2_with fail
            go_roundw
            case rel => exact ⟨j - 1, m + 1, _, g120, (ln + 1), c121, by omega, by go_num, rfl, OpsM.ab HM.out, H117.out.pick [0] rfl (by decide)⟩
            case measure => first | (simp [intOf]; omega) | (simp [intOf]; done)
      · skip
        have hj0' : ¬ ((0 : Int) < j) := by omega
        go_wp2_with fail
        have hll := arr_len (H74.out.arrE 0 rfl)
        go_ret
        exact ⟨_, L, rfl, ⟨m, by omega, HM.out⟩, by omega, by omega, by rw [hB, hll]; exact H74.out.arrE 0 rfl, H74.out.tape, H74.out.grown⟩
end Go.Proofs.Ytnnpnljdefmmcaa
