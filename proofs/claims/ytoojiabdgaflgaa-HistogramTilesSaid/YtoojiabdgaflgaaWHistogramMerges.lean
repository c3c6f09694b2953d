/-
  The walk of HistogramMerges: merging lists of counts is that of the reference.
-/
import Derived.Test.YtoojiabdgaflgaaWHistogramCounts
import Derived.Test.YtoojiabdgaflgaaMatOwn
namespace Go.Proofs.Ytoojiabdgaflgaa
open Go.RowKit
attribute [local go_sem ↓] Go.wp_at_zero Go.wp_at_succ
set_option linter.unusedVariables false
set_option linter.unusedSimpArgs false

set_option maxRecDepth 100000 in
set_option maxHeartbeats 6400000 in
theorem walk_HistogramMerges (a : Option Addr) (n c : Nat) (zs : List Int) (a' : Option Addr) (n' c' : Nat) (L : List (List Int)) (W : World) (hr : RowIn .i64 W a n c zs) (hm : Mat W a' n' c' L) :
    Calls Try.prog 5 #[.slice a n c, .slice a' n' c'] W fun e w' => e = .returned (.bool true) ∧ Below W.heap.size W w' := by
  obtain ⟨B, hB⟩ : ∃ B, W.heap.size = B := ⟨_, rfl⟩
  have HN := hid (near_of_row hr hB)
  have HR := hid hr
  have HM := hid hm
  have hnc : (n' : Int) ≤ 9223372036854775807 := by have := hm.nc; have := hm.cap; omega
  clear hr hm
  go_enter Try.func5, Try.ntmps5
  go_wp2_with fail
  refine (newB_any B a n c zs _ HR.out.len HR.out.row HN.out (by omega)).mono ?_
  rintro e w0 ⟨rfl, ht, hb, hs⟩
  rw [hB] at ht ⊢
  have H0 := hid (show St B W [.tape B] [] w0 from (St.init hB).newTape ht hb hB)
  clear ht hb hs
  go_wp2_with fail
  go_loopw [6] (fun i wr => ∃ j : Nat, j ≤ 4 ∧ i = .int .i64 j ∧ St B W [.tape B] [] wr) (fun i _ => 4 - (intOf i).toNat)
  case atStart => exact ⟨0, by omega, rfl, H0.out⟩
  case round =>
    obtain ⟨j, hj, rfl, hst⟩ := hrel
    obtain ⟨u1, rfl⟩ : ∃ u1 : World, u1 = wr := ⟨_, rfl⟩
    have HC := hid hst
    clear hst
    by_cases hjn : j < 4
    · have hjn' : (j : Int) < 4 := by omega
      obtain ⟨D1, hD1⟩ : ∃ D, u1.heap.size = D := ⟨_, rfl⟩
      go_wp2_with fail
      have H1 := hid (HC.out.alloc #[.int .i64 3, .int .i64 1, .int .i64 0] 3 hD1)
      clear hD1
      refine (pickB_any B B _ 3 3 [3, 1, 0] _ (by omega) (by omega) (H1.out.tapeAt 1 rfl) (H1.out.lit 0 [3, 1, 0] rfl (by simp)).row (.inr ⟨_, rfl, H1.out.ne 0 1 rfl rfl (by decide) rfl rfl⟩)).mono ?_
      rintro e w2 ⟨pn, rfl, hpn, htn, hgn, hsn⟩
      have H3 := hid (H1.out.next 1 rfl htn hgn)
      clear htn hgn hsn
      have pn2 : 0 ≤ pn ∧ pn ≤ 3 := by simp only [List.mem_cons, List.not_mem_nil, or_false] at hpn; omega
      obtain ⟨pna, pnb⟩ := pn2
      clear hpn
      have H4 := hid (show St B W [.tape B] [] _ from H3.out.pick [1] rfl (by decide))
      go_wp2_with fail
      refine (nextB_any B B _ _ (by omega) (H4.out.tapeAt 0 rfl)).mono ?_
      rintro e w5 ⟨mm, rfl, mma, mmb, htn, hgn, hsn⟩
      have H6 := hid (H4.out.next 0 rfl htn hgn)
      clear htn hgn hsn
      obtain ⟨k5, rfl⟩ := Int.eq_ofNat_of_zero_le mma
      have mmc : k5 ≤ 4 := by omega
      clear mmb mma
      have H7 := hid (H6.out.arrNil)
      go_wp2_with fail
      go_loopw [7, 9] (fun x i wr => ∃ (q : Nat) (rs : List Ro), q ≤ 4 ∧ rs.length + q ≤ 4 ∧ i = .int .i64 q ∧ St B W [.arr (22) 1 x (rs.length) (rowVals rs), .tape B] rs wr) (fun _ i _ => (intOf i).toNat)
      case atStart => exact ⟨k5, [], mmc, by simpa using mmc, rfl, H7.out⟩
      case round =>
        obtain ⟨q, rs, hq, hrs, rfl, hst⟩ := hrel
        obtain ⟨u2, rfl⟩ : ∃ u2 : World, u2 = wr := ⟨_, rfl⟩
        have HQ := hid hst
        clear hst
        by_cases hqn : 0 < q
        · have hqn' : (0 : Int) < q := by omega
          go_wp2_with fail
          go_loopw [10, 11] (fun y i wr => ∃ (t : Nat) (ys : List Int), t ≤ 4 ∧ ys.length = t ∧ i = .int .i64 t ∧ St B W [.own y ys, .arr (22) 1 u7 (rs.length) (rowVals rs), .tape B] rs wr) (fun _ i _ => 4 - (intOf i).toNat)
          case atStart => exact ⟨0, [], by omega, rfl, rfl, HQ.out.grow (Below.refl _ _) (Own.nil _ _)⟩
          case round =>
            obtain ⟨t, ys, ht, hys, rfl, hst⟩ := hrel
            obtain ⟨u3, rfl⟩ : ∃ u3 : World, u3 = wr := ⟨_, rfl⟩
            have HT := hid hst
            have HYS := hid hys
            clear hst hys
            go_wp2_with fail
            refine (nextB_any B B _ _ (by omega) (HT.out.tapeAt 2 rfl)).mono ?_
            rintro e w8 ⟨z1, rfl, z1a, z1b, htn, hgn, hsn⟩
            have H9 := hid (HT.out.next 2 rfl htn hgn)
            clear htn hgn hsn
            have z1c : z1 < 12 := by omega
            clear z1b
            obtain ⟨y1, hy1⟩ : ∃ y, z1 / 11 = y := ⟨_, rfl⟩
            obtain ⟨y1a, y1b⟩ : 0 ≤ y1 ∧ y1 ≤ 1 := by omega
            by_cases htn : (t : Int) < pn + y1
            · go_wp2_with fail
              refine (nextB_any B B _ _ (by omega) (H9.out.tapeAt 2 rfl)).mono ?_
              rintro e w10 ⟨z2, rfl, z2a, z2b, htn, hgn, hsn⟩
              have H11 := hid (H9.out.next 2 rfl htn hgn)
              clear htn hgn hsn
              go_wp2_with fail
              refine (nextB_any B B _ _ (by omega) (H11.out.tapeAt 2 rfl)).mono ?_
              rintro e w12 ⟨z3, rfl, z3a, z3b, htn, hgn, hsn⟩
              have H13 := hid (H11.out.next 2 rfl htn hgn)
              clear htn hgn hsn
              have z3c : z3 < 40 := by omega
              clear z3b z2b
              obtain ⟨y3, hy3⟩ : ∃ y, z3 / 39 = y := ⟨_, rfl⟩
              obtain ⟨y3a, y3b⟩ : 0 ≤ y3 ∧ y3 ≤ 1 := by omega
              obtain ⟨D2, hD2⟩ : ∃ D, w12.heap.size = D := ⟨_, rfl⟩
              go_wp2_with fail
              have H14 := hid (H13.out.alloc #[.int .i64 z2, .int .i64 4096, .int .i64 0, .int .i64 2000, .int .i64 (-y3)] 3 hD2)
              clear hD2
              refine (pickB_any B B _ 5 5 [z2, 4096, 0, 2000, -y3] _ (by omega) (by omega) (H14.out.tapeAt 3 rfl) (H14.out.lit 0 [z2, 4096, 0, 2000, -y3] rfl (by simp)).row (.inr ⟨_, rfl, H14.out.ne 0 3 rfl rfl (by decide) rfl rfl⟩)).mono ?_
              rintro e w15 ⟨rr, rfl, hrr, htn, hgn, hsn⟩
              have H16 := hid (H14.out.next 3 rfl htn hgn)
              clear htn hgn hsn
              clear hrr
              have H17 := hid (show St B W [.own u10 ys, .arr (22) 1 u7 (rs.length) (rowVals rs), .tape B] rs _ from H16.out.pick [1, 2, 3] rfl (by decide))
              obtain ⟨D3, hD3⟩ : ∃ D, w15.heap.size = D := ⟨_, rfl⟩
              have H18 := hid (H17.out.alloc #[.int .i64 rr] 3 hD3)
              go_wp2_with (first | (at_builtin; refine append_int rfl _ _ rfl B _ ys rr D3 1 rfl rfl (H18.out.own 1 rfl) (H18.out.cell 0 rfl 0 rfl) (by have := HYS.out; omega) H18.out.size ?_; intro v6 w6 ho hg hv; have H19 := hid (H18.out.append 1 rfl ho hg hv); clear ho hg hv))
              go_roundw
              case rel => exact ⟨t + 1, ys ++ [rr], by omega, by simp [HYS.out], by go_num, H19.out.pick [1, 2, 3] rfl (by decide)⟩
              case measure => simp [intOf]; omega
            · obtain ⟨ya, yc, rfl, hsy⟩ := (H9.out.own 0 rfl).slc
              clear hsy
              obtain ⟨D3, hD3⟩ : ∃ D, w8.heap.size = D := ⟨_, rfl⟩
              have H10 := hid (H9.out.freeze 0 rfl)
              have HF := hid (show St B W [.arr (22) 1 u7 (rs.length) (rowVals rs), .tape B] (⟨ya, ys.length, yc, ys⟩ :: rs) _ from H10.out)
              have H11 := hid (HF.out.alloc #[.slice ya ys.length yc] 22 hD3)
              have htn' : ¬ ((t : Int) < pn + y1) := htn
              go_wp2_with (first | (at_builtin; refine append_val rfl _ _ rfl B _ (rowVals rs) ⟨ya, ys.length, yc, ys⟩ D3 1 rfl rfl (by rw [rowVals_len]; exact H11.out.arr 1 rfl) (H11.out.cell 0 rfl 0 rfl) (by rw [rowVals_len]; omega) H11.out.size ?_; intro v6 w6 ho hg hv; rw [← rowVals_cons, rowVals_len] at ho; have H12 := hid (H11.out.appendArr 1 rfl ho hg hv); clear ho hg hv))
              go_roundw
              case rel => exact ⟨q - 1, ⟨ya, ys.length, yc, ys⟩ :: rs, by omega, by simp; omega, by congr 1; omega, H12.out.pick [1, 2] rfl (by decide)⟩
              case measure => simp [intOf]; omega
        · have hqn' : ¬ ((0 : Int) < q) := by omega
          obtain ⟨xa, xn, xc, rfl⟩ : ∃ a n c, u7 = .slice a n c := HQ.out.arrForm3 0 rfl
          have HMX := hid (HQ.out.mat' 0 rfl).2
          go_upto_region 16 with fail
          go_cut [62] (fun t wx => ∃ b : Bool, t = .bool b ∧ wx = u2)
          case first =>
            by_cases h3 : j = 3
            · have h3' : ((j : Int) == 3) = true := by simp; omega
              clear h3
              go_wp2_with fail
              go_meet
              exact ⟨_, rfl, rfl⟩
            · have h3' : ((j : Int) == 3) = false := by simp; omega
              clear h3
              go_wp2_with fail
              go_meet
              exact ⟨_, rfl, rfl⟩
          case rest =>
            obtain ⟨b, rfl, rfl⟩ := hcut
            go_upto_if 62 with fail
            go_cut [7] (fun x wx => ∃ (a : Option Addr) (n c : Nat) (L : List (List Int)), x = .slice a n c ∧ Mat wx a n c L ∧ St B W [.tape B] [] wx)
            case first =>
              have HD := hid ((HQ.out.pick (l' := [.tape B]) [1] rfl (by decide)).dropRo)
              cases b with
              | true =>
                go_wp2_with fail
                go_meet
                exact ⟨_, _, _, _, rfl, HD.out.oldMat HM.out, HD.out⟩
              | false =>
                go_wp2_with fail
                go_meet
                exact ⟨_, _, _, _, rfl, HMX.out, HD.out⟩
            case rest =>
              obtain ⟨xa, xn, xc, L1, rfl, hmx, hst⟩ := hcut
              have HX := hid hmx
              have HS := hid hst
              clear hmx hst HMX
              go_wp2_with fail
              refine (merge_any _ _ _ L1 _ HX.out).mono ?_
              rintro e w1 ⟨va, rfl, ho, hb⟩
              have HX1 := hid (HX.out.call hb)
              have H8 := hid (HS.out.grow hb ho)
              obtain ⟨vaa, vac, rfl, _⟩ := ho.slc
              clear ho hb
              go_wp2_with fail
              refine (qmerge_any _ _ _ L1 _ HX1.out).mono ?_
              rintro e w2 ⟨vb, rfl, ho, hb⟩
              have H9 := hid (H8.out.grow hb ho)
              obtain ⟨vba, vbc, rfl, _⟩ := ho.slc
              clear ho hb
              obtain ⟨li, hli⟩ : ∃ l, mList L1 = l := ⟨_, rfl⟩
              obtain ⟨cd, hcd⟩ : ∃ l, mCode L1 = l := ⟨_, rfl⟩
              rw [hli] at H9 ⊢
              rw [hcd]
              clear hli hcd
              go_wp2_with fail
              refine (qsame_any _ _ _ li _ _ _ li _ (H9.out.slc 1 rfl) (H9.out.slc 0 rfl)).mono ?_
              rintro e w10 ⟨rfl, dm, hdm⟩
              subst hdm
              have H11 := hid (H9.out.drewN dm)
              generalize World.drewN w2 dm = w10 at *
              rw [show lEq li li = true from by simp [lEq]]
              go_wp2_with fail
              go_roundw
              case rel => exact ⟨j + 1, by omega, by go_num, H11.out.pick [2] rfl (by decide)⟩
              case measure => simp [intOf]; omega
    · have hjn' : ¬ ((j : Int) < 4) := by omega
      go_wp2_with (first | (go_at_call 26; refine (sane12 _).mono ?_; rintro e w' ⟨rfl, hbs⟩))
      go_ret
      exact ⟨rfl, (HC.out.call hbs).below⟩
end Go.Proofs.Ytoojiabdgaflgaa
