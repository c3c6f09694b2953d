/-
  The walk of TablesIdentity: tables between equal lengths name each coordinate alone.
-/
import Derived.Test.YtgpblcddebhphaaDoorSane8
import Derived.Test.YtgpblcddebhphaaDoorTabLaw
import Derived.Test.YtgpblcddebhphaaDoorKA
import Derived.Test.YtgpblcddebhphaaDoorKX
namespace Go.Proofs.YtgpblcddebhphaaDoor
open Go.RowKit
attribute [local go_sem ↓] Go.wp_at_zero Go.wp_at_succ
set_option linter.unusedVariables false
set_option linter.unusedSimpArgs false

set_option maxRecDepth 100000 in
set_option maxHeartbeats 12800000 in
theorem walk_TablesIdentity (n shift : Int) (W : World) (_ : I64 n) (_ : I64 shift) (hT : Tab W) :
    Calls Tryd.prog 7 #[.int .i64 n, .int .i64 shift] W fun e w' => e = .returned (.bool true) ∧ Below W.heap.size W w' := by
  obtain ⟨B, hB⟩ : ∃ B, W.heap.size = B := ⟨_, rfl⟩
  have HI0 := hid (St.init hB)
  have HT := hid hT
  have HB0 := hid (show 0 < B from by rw [← hB]; exact hT.pos)
  clear hT
  go_enter Tryd.func7, Tryd.ntmps7
  go_wp2_with fail
  refine (mod_any _ _ _ (by omega) (by omega)).mono ?_
  rintro e w1 ⟨rfl, hsw⟩
  have hsw2 : W = w1 := by first | exact hsw | exact hsw.symm
  clear hsw
  subst hsw2
  obtain ⟨md2, hmd2⟩ : ∃ xx', n % 128 = xx' := ⟨_, rfl⟩
  rw [hmd2]
  have HNmd2 := hid hmd2
  clear hmd2
  obtain ⟨md2a, md2b⟩ : 0 ≤ md2 ∧ md2 < 128 := by rw [← HNmd2.out]; exact ⟨Int.emod_nonneg _ (by omega), Int.emod_lt_of_pos _ (by omega)⟩
  go_wp2_with fail
  refine (mod_any _ _ _ (by omega) (by omega)).mono ?_
  rintro e w3 ⟨rfl, hsw⟩
  have hsw2 : W = w3 := by first | exact hsw | exact hsw.symm
  clear hsw
  subst hsw2
  obtain ⟨md4, hmd4⟩ : ∃ xx', shift % 15 = xx' := ⟨_, rfl⟩
  rw [hmd4]
  have HNmd4 := hid hmd4
  clear hmd4
  obtain ⟨md4a, md4b⟩ : 0 ≤ md4 ∧ md4 < 15 := by rw [← HNmd4.out]; exact ⟨Int.emod_nonneg _ (by omega), Int.emod_lt_of_pos _ (by omega)⟩
  obtain ⟨N, hN⟩ : ∃ N : Nat, 1 + md2 = (N : Int) := ⟨(1 + md2).toNat, by omega⟩
  obtain ⟨N1, N2⟩ : 1 ≤ N ∧ N ≤ 128 := by omega
  obtain ⟨S, hS⟩ : ∃ S, (2 : Int) ^ md4.toNat = S := ⟨_, rfl⟩
  obtain ⟨S1, S2⟩ : 1 ≤ S ∧ S ≤ 16384 := by rw [← hS]; exact sh_bd (by omega)
  have sw : IntKind.i64.wrap S = S := IntWalk.i64_in _ (by omega)
  have HCD := hid (id_codes (N := N) (s := md4) N1 N2 (by omega))
  have HBT := hid (id_bxT (N := N) (s := md4) N1 N2 (by omega))
  have HLT := hid (id_lnT (N := N) (s := md4) N1 N2 (by omega))
  rw [hS] at HBT HLT
  go_upto_region 2 with fail
  go_wp2_with fail
  refine (box_any (N : Int) (N : Int) md4 _).mono ?_
  rintro e w5 ⟨v7, rfl, ho, hb⟩
  rw [HCD.out.2]
  obtain ⟨T14, hT14⟩ : ∃ T, bxT (N : Int) (N : Int) md4 = T := ⟨_, rfl⟩
  rw [hT14] at ho HBT
  clear hT14
  obtain ⟨tp8, R9, ta12, tc13, rfl, htd, htq, hmo, hst⟩ := HI0.out.addT' hb ho
  rw [HBT.out.1] at hst ⊢
  have HQ10 := hid htq
  have HD11 := hid htd
  have H6 := hid hst
  clear htq htd hmo hst ho hb
  go_wp2_with fail
  refine (linear_any (N : Int) (N : Int) md4 _).mono ?_
  rintro e w15 ⟨v17, rfl, ho, hb⟩
  rw [HCD.out.1]
  obtain ⟨T24, hT24⟩ : ∃ T, lnT (N : Int) (N : Int) md4 = T := ⟨_, rfl⟩
  rw [hT24] at ho HLT
  clear hT24
  obtain ⟨tp18, R19, ta22, tc23, rfl, htd, htq, hmo, hst⟩ := H6.out.addT' hb ho
  rw [HLT.out.1] at hst ⊢
  have HQ20 := hid htq
  have HD21 := hid htd
  have HQ25 := hid (hmo _ HQ10.out)
  have H16 := hid hst
  clear htq htd hmo hst ho hb
  go_upto_region 6 with fail
  obtain ⟨g26, gc27, hga⟩ := arr_posT (H16.out.arrOfT 1 rfl) (by first | decide | omega)
  injection hga with hg1 hg2 hg3
  subst hg1
  clear hg2 hg3
  obtain ⟨g28, gc29, hga⟩ := arr_posT (H16.out.arrOfT 0 rfl) (by first | decide | omega)
  injection hga with hg1 hg2 hg3
  subst hg1
  clear hg2 hg3
  go_wp2_with fail
  go_loopw [11] (fun i wr => ∃ j : Nat, j ≤ N ∧ i = .int .i64 j ∧ St B W [.arr (31) 2 (.slice (some ⟨g28, 0, none⟩) N tc23) N (tapV tp18), .arr (31) 2 (.slice (some ⟨g26, 0, none⟩) N tc13) N (tapV tp8)] R19 wr) (fun i _ => N - (intOf i).toNat)
  case atStart => exact ⟨0, by omega, rfl, H16.out⟩
  case round =>
    obtain ⟨j, hj, rfl, hst⟩ := hrel
    obtain ⟨u30, rfl⟩ : ∃ u30 : World, u30 = wr := ⟨_, rfl⟩
    have H31 := hid hst
    clear hst
    by_cases hjn : j < N
    · skip
      have hjn' : (j : Int) < N := by omega
      go_upto_region 9 with fail
      obtain ⟨ara, arn, arc, a1, a2, a3⟩ := H31.out.tapAt 1 rfl HQ25.out HD11.out (j := j) hjn
      rw [HBT.out.2 j hjn] at a1 a3
      replace a1 : u30.cell? ⟨g26, j * 2, none⟩ = some (Value.int .i64 (j : Int)) := a1
      replace a3 : Slc u30 ara arn arc [S] := a3
      obtain rfl : 1 = arn := a3.len
      obtain ⟨ab, ao, ah⟩ := row_at a3.row (by decide)
      subst ah
      have ac0 := row_cell a3.row (j := 0) (by decide)
      replace ac0 : u30.cell? ⟨ab, ao, none⟩ = some (Value.int .i64 S) := ac0
      clear a3
      obtain ⟨bra, brn, brc, b1, b2, b3⟩ := H31.out.tapAt 0 rfl HQ20.out HD21.out (j := j) hjn
      rw [HLT.out.2 j hjn] at b1 b3
      replace b1 : u30.cell? ⟨g28, j * 2, none⟩ = some (Value.int .i64 (j : Int)) := b1
      replace b3 : Slc u30 bra brn brc [S, 0] := b3
      obtain rfl : 2 = brn := b3.len
      obtain ⟨bb, bo, bh⟩ := row_at b3.row (by decide)
      subst bh
      have bc0 := row_cell b3.row (j := 0) (by decide)
      replace bc0 : u30.cell? ⟨bb, bo, none⟩ = some (Value.int .i64 S) := bc0
      have bc1 := row_cell b3.row (j := 1) (by decide)
      replace bc1 : u30.cell? ⟨bb, bo + 1, none⟩ = some (Value.int .i64 0) := bc1
      clear b3
      go_wp2_with fail
      go_roundw
      case rel => exact ⟨j + 1, by omega, by go_num, H31.out⟩
      case measure => first | (simp [intOf]; omega) | (simp [intOf]; done)
    · skip
      have hjn' : ¬ ((j : Int) < N) := by omega
      go_wp2_with fail
      refine (sane8 _ (HT.out.below (by first | exact H31.out.below' | exact H31.out.below) HB0.out)).mono ?_
      rintro e w32 ⟨rfl, hb⟩
      have H33 := hid (H31.out.call hb)
      clear hb
      go_wp2_with fail
      go_ret
      exact ⟨rfl, by first | exact H33.out.below | exact H33.out.below'⟩
end Go.Proofs.YtgpblcddebhphaaDoor
