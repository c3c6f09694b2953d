/-
  The walk of ConvolveMoves: moving a plane cyclically moves its convolution.
-/
import Derived.Test.YtkpdahjddjdgcaaSane9
import Derived.Test.YtkpdahjddjdgcaaCvLaw
import Derived.Test.YtkpdahjddjdgcaaWeights
import Derived.Test.YtkpdahjddjdgcaaKD
import Derived.Test.YtkpdahjddjdgcaaKX
namespace Go.Proofs.Ytkpdahjddjdgcaa
open Go.RowKit
attribute [local go_sem ↓] Go.wp_at_zero Go.wp_at_succ
set_option linter.unusedVariables false
set_option linter.unusedSimpArgs false

set_option maxRecDepth 100000 in
set_option maxHeartbeats 12800000 in
theorem walk_ConvolveMoves (a : Option Addr) (n c : Nat) (zs : List Int) (by_ : Int) (W : World) (hr : RowIn .i64 W a n c zs) (_ : I64 by_) :
    Calls Try.prog 7 #[.slice a n c, .int .i64 by_] W fun e w' => e = .returned (.bool true) ∧ Below W.heap.size W w' := by
  obtain ⟨B, hB⟩ : ∃ B, W.heap.size = B := ⟨_, rfl⟩
  have HI0 := hid (St.init hB)
  have HN := hid (nearRow hr hB)
  have HR := hid hr
  clear hr
  go_enter Try.func7, Try.ntmps7
  go_wp2_with fail
  obtain ⟨K1, hK1⟩ : ∃ D, W.heap.size = D := ⟨_, rfl⟩
  refine (newB_any B _ _ _ _ _ HR.out.len (HI0.out.oldRow HR.out.row) HN.out HI0.out.size).mono ?_
  rintro e w2 ⟨rfl, ht, hb, hs⟩
  rw [hK1] at ht ⊢
  have H3 := hid (HI0.out.newTape ht hb hK1)
  clear ht hb hs hK1
  go_wp2_with fail
  refine (plane_any B K1 _ (H3.out.tapeAt 0 rfl)).mono ?_
  rintro e w5 ⟨pw4, ph4, pw41, pw42, ph41, ph42, pm4, pv4, ps4, rfl, hv, hm, ho, ht, hg⟩
  have H6 := hid (H3.out.add (H3.out.next 0 rfl ht hg) ho)
  have HVps4 := hid hv
  have HMps4 := hid hm
  obtain ⟨pv4a, pv4c, rfl, _⟩ := ho.slc
  clear hv hm ho ht hg
  obtain ⟨D7, hD7⟩ : ∃ D, w5.heap.size = D := ⟨_, rfl⟩
  go_upto_region 3 with fail
  have H8 := hid (show St B W [.cells D7 #[.int .i64 pw4, .int .i64 ph4, .int .i64 pm4, .slice pv4a ps4.length pv4c] 35, .own (.slice pv4a ps4.length pv4c) ps4, .tape K1] [] (w5.alloc (.cells #[.int .i64 pw4, .int .i64 ph4, .int .i64 pm4, .slice pv4a ps4.length pv4c] 35)) from (H6.out.alloc #[.int .i64 pw4, .int .i64 ph4, .int .i64 pm4, .slice pv4a ps4.length pv4c] 35 hD7))
  first | refine gen_code H8.out ?_ | refine gen_list H8.out ?_ | refine gen_calls H8.out ?_
  intro w9 hG
  clear H8
  have H8 := hid hG
  clear hG
  clear hD7
  have z10 := H8.out.cell 0 rfl 0 rfl
  have z11 := H8.out.cell 0 rfl 1 rfl
  have z12 := H8.out.cell 0 rfl 2 rfl
  have z13 := H8.out.cell 0 rfl 3 rfl
  go_wp2_with fail
  clear z10 z11 z12 z13
  refine (mod_any _ _ _ (by omega) (by omega)).mono ?_
  rintro e w14 ⟨rfl, hsw⟩
  have hsw2 : w9 = w14 := by first | exact hsw | exact hsw.symm
  clear hsw
  subst hsw2
  obtain ⟨nw, hnw⟩ : ∃ m : Nat, pw4 = m := ⟨pw4.toNat, by omega⟩
  obtain ⟨nh, hnh⟩ : ∃ m : Nat, ph4 = m := ⟨ph4.toNat, by omega⟩
  subst hnw
  subst hnh
  obtain ⟨nn, hnn⟩ : ∃ m : Nat, by_ % (nw : Int) = m := ⟨(by_ % (nw : Int)).toNat, by have := Int.emod_nonneg by_ (b := (nw : Int)) (by omega); omega⟩
  have hnl : nn < nw := by have := Int.emod_lt_of_pos by_ (b := (nw : Int)) (by omega); omega
  rw [hnn]
  clear hnn
  have hvq := HVps4.out
  have HLP := hid (show ps4.length = nh * nw from by have := (pValid_iff.1 hvq).2.1; rw [← Int.natCast_mul, Nat.mul_comm] at this; omega)
  have HQ0 := hid (show ∀ i, 0 ≤ ps4.getD i 0 ∧ ps4.getD i 0 ≤ pm4 from fun i => by
    rcases Nat.lt_or_ge i ps4.length with h | h
    · exact (pValid_iff.1 hvq).2.2 _ (getD_mem' h)
    · rw [List.getD_eq_getElem?_getD, List.getElem?_eq_none h]
      have := (pOk_iff.1 (pValid_iff.1 hvq).1).2.2.2.2.2.1
      show (0 : Int) ≤ 0 ∧ (0 : Int) ≤ _
      omega)
  obtain ⟨hvl1, hvl2⟩ := valid_len hvq
  obtain ⟨hw1, hw2, hh1, hh2, _, hpm2, hpm3⟩ := pOk_iff.1 (pValid_iff.1 hvq).1
  have HDM := hid (show (1 : Int) ≤ nw ∧ (nw : Int) ≤ 128 ∧ (1 : Int) ≤ nh ∧ (nh : Int) ≤ 128 from ⟨hw1, hw2, hh1, hh2⟩)
  clear hvq
  have z15 := H8.out.cell 0 rfl 0 rfl
  have z16 := H8.out.cell 0 rfl 1 rfl
  have z17 := H8.out.cell 0 rfl 2 rfl
  have z18 := H8.out.cell 0 rfl 3 rfl
  go_wp2_with fail
  clear z15 z16 z17 z18
  have hvl := valid_len HVps4.out
  refine (qcopy_any _ _ _ _ _ _ ps4 _ (H8.out.slc 1 rfl) hvl.1 (by omega)).mono ?_
  rintro e w19 ⟨v20, rfl, ho, hb⟩
  have H21 := hid (H8.out.grow hb ho)
  obtain ⟨v20a, v20c, rfl, _⟩ := ho.slc
  clear ho hb hvl
  obtain ⟨D22, hD22⟩ : ∃ D, w19.heap.size = D := ⟨_, rfl⟩
  go_upto_region 5 with fail
  have H23 := hid (show St B W [.cells D22 #[.int .i64 nw, .int .i64 nh, .int .i64 pm4, .slice v20a ps4.length v20c] 35, .own (.slice v20a ps4.length v20c) ps4, .cells D7 #[.int .i64 nw, .int .i64 nh, .int .i64 pm4, .slice pv4a ps4.length pv4c] 35, .own (.slice pv4a ps4.length pv4c) ps4, .tape K1] [] (w19.alloc (.cells #[.int .i64 nw, .int .i64 nh, .int .i64 pm4, .slice v20a ps4.length v20c] 35)) from (H21.out.alloc #[.int .i64 nw, .int .i64 nh, .int .i64 pm4, .slice v20a ps4.length v20c] 35 hD22))
  first | refine gen_code H23.out ?_ | refine gen_list H23.out ?_ | refine gen_calls H23.out ?_
  intro w24 hG
  clear H23
  have H23 := hid hG
  clear hG
  clear hD22
  go_wp2_with fail
  obtain ⟨gq, gqc, hgg⟩ := (H23.out.own 1 rfl).pos (by omega)
  injection hgg with hga hgb hgc
  subst hga
  clear hgb hgc
  obtain ⟨gp, gpc, hgg⟩ := (H23.out.own 3 rfl).pos (by omega)
  injection hgg with hga hgb hgc
  subst hga
  clear hgb hgc
  go_loopw [9] (fun i wr => ∃ (j : Nat) (ql : List Int), j ≤ ps4.length ∧ Moved nw nn ps4 ql j ∧ (∀ i, 0 ≤ ql.getD i 0 ∧ ql.getD i 0 ≤ pm4) ∧ i = .int .i64 j ∧ St B W [.cells D22 #[.int .i64 nw, .int .i64 nh, .int .i64 pm4, .slice (some ⟨gq, 0, none⟩) ps4.length v20c] 35, .own (.slice (some ⟨gq, 0, none⟩) ps4.length v20c) ql, .cells D7 #[.int .i64 nw, .int .i64 nh, .int .i64 pm4, .slice (some ⟨gp, 0, none⟩) ps4.length pv4c] 35, .own (.slice (some ⟨gp, 0, none⟩) ps4.length pv4c) ps4, .tape K1] [] wr) (fun i _ => ps4.length - (intOf i).toNat)
  case atStart => exact ⟨0, ps4, by omega, ⟨rfl, fun i hi => by omega⟩, HQ0.out, rfl, H23.out⟩
  case round =>
    obtain ⟨j, ql, hj, hmo, hqi, rfl, hst⟩ := hrel
    obtain ⟨u25, rfl⟩ : ∃ u25 : World, u25 = wr := ⟨_, rfl⟩
    have H26 := hid hst
    clear hst
    have HMO := hid hmo
    have HQI := hid hqi
    clear hmo hqi
    by_cases hjn : j < ps4.length
    · skip
      have hjn' : (j : Int) < ps4.length := by omega
      have z27 := H26.out.cell 2 rfl 0 rfl
      have z28 := H26.out.cell 2 rfl 1 rfl
      have z29 := H26.out.cell 2 rfl 2 rfl
      have z30 := H26.out.cell 2 rfl 3 rfl
      go_upto_region 8 with fail
      clear z27 z28 z29 z30
      obtain ⟨jq, hjq⟩ : ∃ xx' : Nat, j / nw = xx' := ⟨_, rfl⟩
      obtain ⟨jr, hjr⟩ : ∃ xx' : Nat, j % nw = xx' := ⟨_, rfl⟩
      obtain ⟨KN, hKN⟩ : ∃ xx' : Nat, jq * nw = xx' := ⟨_, rfl⟩
      obtain ⟨jm, hjm⟩ : ∃ xx' : Nat, (jr + nn) % nw = xx' := ⟨_, rfl⟩
      obtain ⟨MJ, hMJ⟩ : ∃ xx' : Nat, KN + jm = xx' := ⟨_, rfl⟩
      have HMV := hid (show mvI nw nn j = MJ from by unfold mvI; rw [hjq, hjr, hKN, hjm, hMJ])
      have hml : MJ < nh * nw := by rw [← HMV.out]; exact mvI_lt (by omega) (by have := HLP.out; omega)
      have jq1 : jq ≤ j := by rw [← hjq]; exact Nat.div_le_self _ _
      have jr1 : jr < nw := by rw [← hjr]; exact Nat.mod_lt _ (by omega)
      have jm1 : jm < nw := by rw [← hjm]; exact Nat.mod_lt _ (by omega)
      have tq : Int.tdiv (j : Int) (nw : Int) = jq := by rw [← hjq, Int.tdiv_eq_ediv_of_nonneg (by omega)]; simp
      have tr : Int.tmod (j : Int) (nw : Int) = jr := by rw [← hjr, Int.tmod_eq_emod_of_nonneg (by omega)]; simp
      have tm : Int.tmod ((jr : Int) + (nn : Int)) (nw : Int) = jm := by rw [← hjm, Int.tmod_eq_emod_of_nonneg (by omega)]; simp
      have tk : (jq : Int) * (nw : Int) = (KN : Int) := by rw [← hKN]; simp
      have tM : (KN : Int) + (jm : Int) = (MJ : Int) := by omega
      have kn0 : ¬ ((nw : Int) = 0) := by omega
      have kn1 : ¬ (nw = 0) := by omega
      obtain ⟨hln1, hln2⟩ : ps4.length ≤ nh * nw ∧ nh * nw ≤ ps4.length := by have := HLP.out; omega
      have kn4 : KN ≤ j := by rw [← hKN, ← hjq]; exact Nat.div_mul_le_self _ _
      have wq1 : IntKind.i64.wrap (jq : Int) = jq := IntWalk.i64_in _ (by omega)
      have wq2 : IntKind.i64.wrap (jr : Int) = jr := IntWalk.i64_in _ (by omega)
      have wq3 : IntKind.i64.wrap (KN : Int) = KN := IntWalk.i64_in _ (by omega)
      have wq4 : IntKind.i64.wrap ((jr : Int) + nn) = (jr : Int) + nn := IntWalk.i64_in _ (by omega)
      have wq5 : IntKind.i64.wrap (jm : Int) = jm := IntWalk.i64_in _ (by omega)
      have wq6 : IntKind.i64.wrap (MJ : Int) = MJ := IntWalk.i64_in _ (by omega)
      clear hjq hjr hKN hjm hMJ
      have HMN := hid (show Moved nw nn ps4 (ql.set MJ (ps4.getD j 0)) (j + 1) from by rw [← HMV.out]; exact HMO.out.next (by omega) hnl HLP.out hjn)
      obtain ⟨pz, hpz⟩ : ∃ xx', ps4.getD j 0 = xx' := ⟨_, rfl⟩
      have HPZ := hid hpz
      clear hpz
      have HQL := hid HMO.out.1
      have hml2 : (MJ : Int) < ps4.length := by omega
      have H31 := hid H26.out.drew
      refine wp_region_held_drew (S := (fun w' => w'.cell? ⟨D22, 0, none⟩ = some (.int .i64 nw) ∧ w'.cell? ⟨D22, 1, none⟩ = some (.int .i64 nh) ∧ w'.cell? ⟨D22, 2, none⟩ = some (.int .i64 pm4) ∧ w'.cell? ⟨D22, 3, none⟩ = some (.slice (some ⟨gq, 0, none⟩) ps4.length v20c) ∧ w'.cell? ⟨D7, 0, none⟩ = some (.int .i64 nw) ∧ w'.cell? ⟨D7, 1, none⟩ = some (.int .i64 nh) ∧ w'.cell? ⟨D7, 2, none⟩ = some (.int .i64 pm4) ∧ w'.cell? ⟨D7, 3, none⟩ = some (.slice (some ⟨gp, 0, none⟩) ps4.length pv4c) ∧ w'.cell? ⟨gp, j, none⟩ = some (.int .i64 pz))) (by kernel_rfl) ⟨H31.out.cell 0 rfl 0 rfl, H31.out.cell 0 rfl 1 rfl, H31.out.cell 0 rfl 2 rfl, H31.out.cell 0 rfl 3 rfl, H31.out.cell 2 rfl 0 rfl, H31.out.cell 2 rfl 1 rfl, H31.out.cell 2 rfl 2 rfl, H31.out.cell 2 rfl 3 rfl, (by have := (H31.out.get 3 rfl (j := j) hjn).1; rw [HPZ.out] at this; exact this)⟩ (fun hHeld => ?_)
      generalize u25.drew = k32 at *
      refine wpAnyH_take (i := 0) (oi := _) (v := ?_) rfl (by kernel_rfl) (by kernel_rfl) (by kernel_rfl) (fun _ _ _ h => h) (Or.inl ⟨by rfl, ?_⟩) (by assumption) ?_
      rotate_left
      focus (intro wS hSw; (try dsimp only at hSw); go_simp; (try with_reducible rfl))
      try simp only [Act.put, List.getElem_toArray, List.getElem_cons_zero, List.getElem_cons_succ, List.setIfInBounds_toArray, List.set_cons_zero, List.set_cons_succ]
      refine wpAnyH_take (i := 1) (oi := _) (v := ?_) rfl (by kernel_rfl) (by kernel_rfl) (by kernel_rfl) (fun _ _ _ h => h) (Or.inl ⟨by rfl, ?_⟩) (by assumption) ?_
      rotate_left
      focus (intro wS hSw; (try dsimp only at hSw); go_simp; (try with_reducible rfl))
      try simp only [Act.put, List.getElem_toArray, List.getElem_cons_zero, List.getElem_cons_succ, List.setIfInBounds_toArray, List.set_cons_zero, List.set_cons_succ]
      refine wpAnyH_take (i := 2) (oi := _) (v := ?_) rfl (by kernel_rfl) (by kernel_rfl) (by kernel_rfl) (fun _ _ _ h => h) (Or.inl ⟨by rfl, ?_⟩) (by assumption) ?_
      rotate_left
      focus (intro wS hSw; (try dsimp only at hSw); go_simp; (try with_reducible rfl))
      try simp only [Act.put, List.getElem_toArray, List.getElem_cons_zero, List.getElem_cons_succ, List.setIfInBounds_toArray, List.set_cons_zero, List.set_cons_succ]
      refine wpAnyH_take (i := 3) (oi := _) (v := ?_) rfl (by kernel_rfl) (by kernel_rfl) (by kernel_rfl) (fun _ _ _ h => h) (Or.inl ⟨by rfl, ?_⟩) (by assumption) ?_
      rotate_left
      focus (intro wS hSw; (try dsimp only at hSw); go_simp; (try with_reducible rfl))
      try simp only [Act.put, List.getElem_toArray, List.getElem_cons_zero, List.getElem_cons_succ, List.setIfInBounds_toArray, List.set_cons_zero, List.set_cons_succ]
      refine wpAnyH_take (i := 4) (oi := _) (v := ?_) rfl (by kernel_rfl) (by kernel_rfl) (by kernel_rfl) (fun _ _ _ h => h) (Or.inl ⟨by rfl, ?_⟩) (by assumption) ?_
      rotate_left
      focus (intro wS hSw; (try dsimp only at hSw); go_simp; (try with_reducible rfl))
      try simp only [Act.put, List.getElem_toArray, List.getElem_cons_zero, List.getElem_cons_succ, List.setIfInBounds_toArray, List.set_cons_zero, List.set_cons_succ]
      refine wpAnyH_take (i := 5) (oi := _) (v := ?_) rfl (by kernel_rfl) (by kernel_rfl) (by kernel_rfl) (fun _ _ _ h => h) (Or.inl ⟨by rfl, ?_⟩) (by assumption) ?_
      rotate_left
      focus (intro wS hSw; (try dsimp only at hSw); go_simp; (try with_reducible rfl))
      try simp only [Act.put, List.getElem_toArray, List.getElem_cons_zero, List.getElem_cons_succ, List.setIfInBounds_toArray, List.set_cons_zero, List.set_cons_succ]
      refine wpAnyH_take (i := 6) (oi := _) (v := ?_) rfl (by kernel_rfl) (by kernel_rfl) (by kernel_rfl) (fun _ _ _ h => h) (Or.inl ⟨by rfl, ?_⟩) (by assumption) ?_
      rotate_left
      focus (intro wS hSw; (try dsimp only at hSw); go_simp; (try with_reducible rfl))
      try simp only [Act.put, List.getElem_toArray, List.getElem_cons_zero, List.getElem_cons_succ, List.setIfInBounds_toArray, List.set_cons_zero, List.set_cons_succ]
      refine wpAnyH_take (i := 7) (oi := _) (v := ?_) rfl (by kernel_rfl) (by kernel_rfl) (by kernel_rfl) (fun _ _ _ h => h) (Or.inl ⟨by rfl, ?_⟩) (by assumption) ?_
      rotate_left
      focus (intro wS hSw; (try dsimp only at hSw); go_simp; (try with_reducible rfl))
      try simp only [Act.put, List.getElem_toArray, List.getElem_cons_zero, List.getElem_cons_succ, List.setIfInBounds_toArray, List.set_cons_zero, List.set_cons_succ]
      refine wpAnyH_take (i := 8) (oi := _) (v := ?_) rfl (by kernel_rfl) (by kernel_rfl) (by kernel_rfl) (fun _ _ _ h => h) (Or.inl ⟨by rfl, ?_⟩) (by assumption) ?_
      rotate_left
      focus (intro wS hSw; (try dsimp only at hSw); go_simp; (try with_reducible rfl))
      try simp only [Act.put, List.getElem_toArray, List.getElem_cons_zero, List.getElem_cons_succ, List.setIfInBounds_toArray, List.set_cons_zero, List.set_cons_succ]
      refine wpAnyH_take (i := 9) (oi := _) (v := ?_) rfl (by kernel_rfl) (by kernel_rfl) (by kernel_rfl) (fun _ _ _ h => h) (Or.inl ⟨by rfl, ?_⟩) (by assumption) ?_
      rotate_left
      focus (intro wS hSw; (try dsimp only at hSw); go_simp; (try with_reducible rfl))
      try simp only [Act.put, List.getElem_toArray, List.getElem_cons_zero, List.getElem_cons_succ, List.setIfInBounds_toArray, List.set_cons_zero, List.set_cons_succ]
      refine wpAnyH_take (i := 10) (oi := _) (v := ?_) rfl (by kernel_rfl) (by kernel_rfl) (by kernel_rfl) (fun _ _ _ h => h) (Or.inl ⟨by rfl, ?_⟩) (by assumption) ?_
      rotate_left
      focus (intro wS hSw; (try dsimp only at hSw); go_simp; (try with_reducible rfl))
      try simp only [Act.put, List.getElem_toArray, List.getElem_cons_zero, List.getElem_cons_succ, List.setIfInBounds_toArray, List.set_cons_zero, List.set_cons_succ]
      refine wpAnyH_take (i := 11) (oi := _) (v := ?_) rfl (by kernel_rfl) (by kernel_rfl) (by kernel_rfl) (fun _ _ _ h => h) (Or.inl ⟨by rfl, ?_⟩) (by assumption) ?_
      rotate_left
      focus (intro wS hSw; (try dsimp only at hSw); go_simp; (try with_reducible rfl))
      try simp only [Act.put, List.getElem_toArray, List.getElem_cons_zero, List.getElem_cons_succ, List.setIfInBounds_toArray, List.set_cons_zero, List.set_cons_succ]
      refine wpAnyH_take (i := 12) (oi := _) (v := ?_) rfl (by kernel_rfl) (by kernel_rfl) (by kernel_rfl) (fun _ _ _ h => h) (Or.inl ⟨by rfl, ?_⟩) (by assumption) ?_
      rotate_left
      focus (intro wS hSw; (try dsimp only at hSw); go_simp; (try with_reducible rfl))
      try simp only [Act.put, List.getElem_toArray, List.getElem_cons_zero, List.getElem_cons_succ, List.setIfInBounds_toArray, List.set_cons_zero, List.set_cons_succ]
      refine wpAnyH_take (i := 13) (oi := _) (v := ?_) rfl (by kernel_rfl) (by kernel_rfl) (by kernel_rfl) (fun _ _ _ h => h) (Or.inl ⟨by rfl, ?_⟩) (by assumption) ?_
      rotate_left
      focus (intro wS hSw; (try dsimp only at hSw); go_simp; (try with_reducible rfl))
      try simp only [Act.put, List.getElem_toArray, List.getElem_cons_zero, List.getElem_cons_succ, List.setIfInBounds_toArray, List.set_cons_zero, List.set_cons_succ]
      refine wpAnyH_take (i := 14) (oi := _) (v := ?_) rfl (by kernel_rfl) (by kernel_rfl) (by kernel_rfl) (fun _ _ _ h => h) (Or.inl ⟨by rfl, ?_⟩) (by assumption) ?_
      rotate_left
      focus (intro wS hSw; (try dsimp only at hSw); go_simp; (try with_reducible rfl))
      try simp only [Act.put, List.getElem_toArray, List.getElem_cons_zero, List.getElem_cons_succ, List.setIfInBounds_toArray, List.set_cons_zero, List.set_cons_succ]
      refine wpAnyH_take (i := 15) (oi := _) (v := ?_) rfl (by kernel_rfl) (by kernel_rfl) (by kernel_rfl) (fun _ _ _ h => h) (Or.inl ⟨by rfl, ?_⟩) (by assumption) ?_
      rotate_left
      focus (intro wS hSw; (try dsimp only at hSw); go_simp; (try with_reducible rfl))
      try simp only [Act.put, List.getElem_toArray, List.getElem_cons_zero, List.getElem_cons_succ, List.setIfInBounds_toArray, List.set_cons_zero, List.set_cons_succ]
      refine wpAnyH_take (i := 16) (oi := _) (v := ?_) rfl (by kernel_rfl) (by kernel_rfl) (by kernel_rfl) (fun _ _ _ h => h) (Or.inl ⟨by rfl, ?_⟩) (by assumption) ?_
      rotate_left
      focus (intro wS hSw; (try dsimp only at hSw); go_simp; (try with_reducible rfl))
      try simp only [Act.put, List.getElem_toArray, List.getElem_cons_zero, List.getElem_cons_succ, List.setIfInBounds_toArray, List.set_cons_zero, List.set_cons_succ]
      refine wpAnyH_take (i := 17) (oi := _) (v := ?_) rfl (by kernel_rfl) (by kernel_rfl) (by kernel_rfl) (fun _ _ _ h => h) (Or.inl ⟨by rfl, ?_⟩) (by assumption) ?_
      rotate_left
      focus (intro wS hSw; (try dsimp only at hSw); go_simp; (try with_reducible rfl))
      try simp only [Act.put, List.getElem_toArray, List.getElem_cons_zero, List.getElem_cons_succ, List.setIfInBounds_toArray, List.set_cons_zero, List.set_cons_succ]
      refine wpAnyH_take (i := 18) (oi := _) (v := ?_) rfl (by kernel_rfl) (by kernel_rfl) (by kernel_rfl) (fun _ _ _ h => h) (Or.inl ⟨by rfl, ?_⟩) (by assumption) ?_
      rotate_left
      focus (intro wS hSw; (try dsimp only at hSw); go_simp; (try with_reducible rfl))
      try simp only [Act.put, List.getElem_toArray, List.getElem_cons_zero, List.getElem_cons_succ, List.setIfInBounds_toArray, List.set_cons_zero, List.set_cons_succ]
      refine wpAnyH_take (i := 19) (oi := _) (v := ?_) rfl (by kernel_rfl) (by kernel_rfl) (by kernel_rfl) (fun _ _ _ h => h) (Or.inl ⟨by rfl, ?_⟩) (by assumption) ?_
      rotate_left
      focus (intro wS hSw; (try dsimp only at hSw); go_simp; (try with_reducible rfl))
      try simp only [Act.put, List.getElem_toArray, List.getElem_cons_zero, List.getElem_cons_succ, List.setIfInBounds_toArray, List.set_cons_zero, List.set_cons_succ]
      refine wpAnyH_take (i := 20) (oi := _) (v := ?_) rfl (by kernel_rfl) (by kernel_rfl) (by kernel_rfl) (fun _ _ _ h => h) (Or.inl ⟨by rfl, ?_⟩) (by assumption) ?_
      rotate_left
      focus (intro wS hSw; (try dsimp only at hSw); go_simp; (try with_reducible rfl))
      try simp only [Act.put, List.getElem_toArray, List.getElem_cons_zero, List.getElem_cons_succ, List.setIfInBounds_toArray, List.set_cons_zero, List.set_cons_succ]
      refine wpAnyH_take (i := 21) (oi := _) (v := ?_) rfl (by kernel_rfl) (by kernel_rfl) (by kernel_rfl) (fun _ _ _ h => h) (Or.inl ⟨by rfl, ?_⟩) (by assumption) ?_
      rotate_left
      focus (intro wS hSw; (try dsimp only at hSw); go_simp; (try with_reducible rfl))
      try simp only [Act.put, List.getElem_toArray, List.getElem_cons_zero, List.getElem_cons_succ, List.setIfInBounds_toArray, List.set_cons_zero, List.set_cons_succ]
      refine wpAnyH_take (i := 22) (oi := _) (v := ?_) rfl (by kernel_rfl) (by kernel_rfl) (by kernel_rfl) (fun _ _ _ h => h) (Or.inl ⟨by rfl, ?_⟩) (by assumption) ?_
      rotate_left
      focus (intro wS hSw; (try dsimp only at hSw); go_simp; (try with_reducible rfl))
      try simp only [Act.put, List.getElem_toArray, List.getElem_cons_zero, List.getElem_cons_succ, List.setIfInBounds_toArray, List.set_cons_zero, List.set_cons_succ]
      refine wpAnyH_take (i := 23) (oi := _) (v := ?_) rfl (by kernel_rfl) (by kernel_rfl) (by kernel_rfl) (fun _ _ _ h => h) (Or.inl ⟨by rfl, ?_⟩) (by assumption) ?_
      rotate_left
      focus (intro wS hSw; (try dsimp only at hSw); go_simp; (try with_reducible rfl))
      try simp only [Act.put, List.getElem_toArray, List.getElem_cons_zero, List.getElem_cons_succ, List.setIfInBounds_toArray, List.set_cons_zero, List.set_cons_succ]
      refine wpAnyH_take (i := 24) (oi := _) (v := ?_) rfl (by kernel_rfl) (by kernel_rfl) (by kernel_rfl) (fun _ _ _ h => h) (Or.inl ⟨by rfl, ?_⟩) (by assumption) ?_
      rotate_left
      focus (intro wS hSw; (try dsimp only at hSw); go_simp; (try with_reducible rfl))
      try simp only [Act.put, List.getElem_toArray, List.getElem_cons_zero, List.getElem_cons_succ, List.setIfInBounds_toArray, List.set_cons_zero, List.set_cons_succ]
      refine wpAnyH_ready (rs := [25]) (by kernel_rfl) (by simp) (AllReadyH.cons (o := _) rfl (fun K hK => ?_) AllReadyH.nil)
      obtain ⟨s33, s34⟩ := H31.out.get 1 rfl (j := MJ) (by rw [HQL.out, HLP.out]; exact hml)
      have H35 := hid (show St B W [.cells D22 #[.int .i64 nw, .int .i64 nh, .int .i64 pm4, .slice (some ⟨gq, 0, none⟩) ps4.length v20c] 35, .own (.slice (some ⟨gq, 0, none⟩) ps4.length v20c) (ql.set MJ pz), .cells D7 #[.int .i64 nw, .int .i64 nh, .int .i64 pm4, .slice (some ⟨gp, 0, none⟩) ps4.length pv4c] 35, .own (.slice (some ⟨gp, 0, none⟩) ps4.length pv4c) ps4, .tape K1] [] (k32.setCell ⟨gq, MJ, none⟩ (.int .i64 pz)) from (H31.out.store 1 rfl MJ pz))
      go_simp
      refine hK.out _ _ ?_ (fun hHeld2 => ?_)
      focus ((try dsimp only); (exact ⟨H35.out.cell 0 rfl 0 rfl, H35.out.cell 0 rfl 1 rfl, H35.out.cell 0 rfl 2 rfl, H35.out.cell 0 rfl 3 rfl, H35.out.cell 2 rfl 0 rfl, H35.out.cell 2 rfl 1 rfl, H35.out.cell 2 rfl 2 rfl, H35.out.cell 2 rfl 3 rfl, (by have := (H35.out.get 3 rfl (j := j) hjn).1; rw [HPZ.out] at this; exact this)⟩))
      clear hK K hHeld
      try simp only [Act.put, List.getElem_toArray, List.getElem_cons_zero, List.getElem_cons_succ, List.setIfInBounds_toArray, List.set_cons_zero, List.set_cons_succ]
      clear s33 s34
      generalize (k32.setCell ⟨gq, MJ, none⟩ (.int .i64 pz)) = k36 at *
      have hHeld := hHeld2
      clear hHeld2
      refine wpAnyH_done (by kernel_rfl) ?_ _
      try clear hHeld
      clear tq tr tm tk tM wq1 wq2 wq3 wq4 wq5 wq6
      go_wp2_with fail
      go_roundw
      case rel => exact ⟨j + 1, _, by omega, HMN.out, in_set HQI.out (HQ0.out j).1 (HQ0.out j).2, by go_num, by rw [HPZ.out]; exact H35.out⟩
      case measure => first | (simp [intOf]; omega) | (simp [intOf]; done)
    · skip
      have hjn' : ¬ ((j : Int) < ps4.length) := by omega
      have HMA := hid (show Moved nw nn ps4 ql ps4.length from by have := HMO.out; rwa [show j = ps4.length by omega] at this)
      have HVql := hid (show pValid nw nh pm4 ql = true from pValid_iff.2 ⟨(pValid_iff.1 HVps4.out).1, by rw [HMA.out.1]; exact (pValid_iff.1 HVps4.out).2.1, fun v hv => by obtain ⟨i, hi, rfl⟩ := mem_getD' hv; exact HQI.out i⟩)
      have HMql := HMps4
      have z37 := H26.out.cell 2 rfl 0 rfl
      have z38 := H26.out.cell 2 rfl 1 rfl
      have z39 := H26.out.cell 2 rfl 2 rfl
      have z40 := H26.out.cell 2 rfl 3 rfl
      go_upto_region 9 with fail
      clear z37 z38 z39 z40
      go_cut [10, 11, 12] (fun s s1 s2 wx => ∃ (RQ : Nat) (wla : Option Addr) (wlc : Nat) (wls : List Int) (sh : Int), s = .slice wla wls.length wlc ∧ s1 = .int .i64 sh ∧ s2 = .pointer (some ⟨RQ, 0, none⟩) ∧ wls.length = (9 : Int).toNat ∧ (∀ i, -20 ≤ wls.getD i 0 ∧ wls.getD i 0 ≤ 20) ∧ 0 ≤ sh ∧ sh ≤ 3 ∧ St B W [.own (.slice wla wls.length wlc) wls, .cells RQ #[.int .i64 0, .int .i64 0, .int .i64 nw, .int .i64 nh] 33, .cells D22 #[.int .i64 nw, .int .i64 nh, .int .i64 pm4, .slice (some ⟨gq, 0, none⟩) ps4.length v20c] 35, .own (.slice (some ⟨gq, 0, none⟩) ps4.length v20c) ql, .cells D7 #[.int .i64 nw, .int .i64 nh, .int .i64 pm4, .slice (some ⟨gp, 0, none⟩) ps4.length pv4c] 35, .own (.slice (some ⟨gp, 0, none⟩) ps4.length pv4c) ps4, .tape K1] [] wx)
      case first =>
        go_upto_region 9 with fail
        have H41 := hid H26.out.drew
        refine wp_region_held_drew (S := (fun w' => w'.cell? ⟨D7, 0, none⟩ = some (.int .i64 nw) ∧ w'.cell? ⟨D7, 1, none⟩ = some (.int .i64 nh) ∧ w'.cell? ⟨D7, 2, none⟩ = some (.int .i64 pm4) ∧ w'.cell? ⟨D7, 3, none⟩ = some (.slice (some ⟨gp, 0, none⟩) ps4.length pv4c))) (by kernel_rfl) ⟨H41.out.cell 2 rfl 0 rfl, H41.out.cell 2 rfl 1 rfl, H41.out.cell 2 rfl 2 rfl, H41.out.cell 2 rfl 3 rfl⟩ (fun hHeld => ?_)
        generalize u25.drew = k42 at *
        refine wpAnyH_take (i := 0) (oi := _) (v := ?_) rfl (by kernel_rfl) (by kernel_rfl) (by kernel_rfl) (fun _ _ _ h => h) (Or.inl ⟨by rfl, ?_⟩) (by assumption) ?_
        rotate_left
        focus (intro wS hSw; (try dsimp only at hSw); go_simp; (try with_reducible rfl))
        try simp only [Act.put, List.getElem_toArray, List.getElem_cons_zero, List.getElem_cons_succ, List.setIfInBounds_toArray, List.set_cons_zero, List.set_cons_succ]
        refine wpAnyH_take (i := 2) (oi := _) (v := ?_) rfl (by kernel_rfl) (by kernel_rfl) (by kernel_rfl) (fun _ _ _ h => h) (Or.inl ⟨by rfl, ?_⟩) (by assumption) ?_
        rotate_left
        focus (intro wS hSw; (try dsimp only at hSw); go_simp; (try with_reducible rfl))
        try simp only [Act.put, List.getElem_toArray, List.getElem_cons_zero, List.getElem_cons_succ, List.setIfInBounds_toArray, List.set_cons_zero, List.set_cons_succ]
        refine wpAnyH_take (i := 4) (oi := _) (v := ?_) rfl (by kernel_rfl) (by kernel_rfl) (by kernel_rfl) (fun _ _ _ h => h) (Or.inl ⟨by rfl, ?_⟩) (by assumption) ?_
        rotate_left
        focus (intro wS hSw; (try dsimp only at hSw); go_simp; (try with_reducible rfl))
        try simp only [Act.put, List.getElem_toArray, List.getElem_cons_zero, List.getElem_cons_succ, List.setIfInBounds_toArray, List.set_cons_zero, List.set_cons_succ]
        refine wpAnyH_take (i := 5) (oi := _) (v := ?_) rfl (by kernel_rfl) (by kernel_rfl) (by kernel_rfl) (fun _ _ _ h => h) (Or.inl ⟨by rfl, ?_⟩) (by assumption) ?_
        rotate_left
        focus (intro wS hSw; (try dsimp only at hSw); go_simp; (try with_reducible rfl))
        try simp only [Act.put, List.getElem_toArray, List.getElem_cons_zero, List.getElem_cons_succ, List.setIfInBounds_toArray, List.set_cons_zero, List.set_cons_succ]
        refine wpAnyH_take (i := 6) (oi := _) (v := ?_) rfl (by kernel_rfl) (by kernel_rfl) (by kernel_rfl) (fun _ _ _ h => h) (Or.inl ⟨by rfl, ?_⟩) (by assumption) ?_
        rotate_left
        focus (intro wS hSw; (try dsimp only at hSw); go_simp; (try with_reducible rfl))
        try simp only [Act.put, List.getElem_toArray, List.getElem_cons_zero, List.getElem_cons_succ, List.setIfInBounds_toArray, List.set_cons_zero, List.set_cons_succ]
        refine wpAnyH_take (i := 7) (oi := _) (v := ?_) rfl (by kernel_rfl) (by kernel_rfl) (by kernel_rfl) (fun _ _ _ h => h) (Or.inl ⟨by rfl, ?_⟩) (by assumption) ?_
        rotate_left
        focus (intro wS hSw; (try dsimp only at hSw); go_simp; (try with_reducible rfl))
        try simp only [Act.put, List.getElem_toArray, List.getElem_cons_zero, List.getElem_cons_succ, List.setIfInBounds_toArray, List.set_cons_zero, List.set_cons_succ]
        refine wpAnyH_take (i := 8) (oi := _) (v := ?_) rfl (by kernel_rfl) (by kernel_rfl) (by kernel_rfl) (fun _ _ _ h => h) (Or.inl ⟨by rfl, ?_⟩) (by assumption) ?_
        rotate_left
        focus (intro wS hSw; (try dsimp only at hSw); go_simp; (try with_reducible rfl))
        try simp only [Act.put, List.getElem_toArray, List.getElem_cons_zero, List.getElem_cons_succ, List.setIfInBounds_toArray, List.set_cons_zero, List.set_cons_succ]
        refine wpAnyH_ready (rs := [1, 9]) (by kernel_rfl) (by simp) (AllReadyH.cons (o := _) rfl (fun K hK => ?_) (AllReadyH.cons (o := _) rfl (fun K hK => ?_) AllReadyH.nil))
        · go_simp
          go_at_call 19
          refine (weights_any B K1 _ _ (by omega) (H41.out.tapeAt 4 rfl)).mono ?_
          rintro e w43 ⟨wv44, wl45, rfl, hlen, hin, ho, ht, hg⟩
          have H46 := hid (H41.out.add (H41.out.next 4 rfl ht hg) ho)
          have HWLwl45 := hid hlen
          have HWBwl45 := hid hin
          obtain ⟨wv44a, wv44c, rfl, _⟩ := ho.slc
          clear hlen hin ho ht hg
          refine hK.out _ _ ?_ (fun hHeld2 => ?_)
          focus ((try dsimp only); (exact ⟨H46.out.cell 3 rfl 0 rfl, H46.out.cell 3 rfl 1 rfl, H46.out.cell 3 rfl 2 rfl, H46.out.cell 3 rfl 3 rfl⟩))
          clear hK K
          try simp only [Act.put, List.getElem_toArray, List.getElem_cons_zero, List.getElem_cons_succ, List.setIfInBounds_toArray, List.set_cons_zero, List.set_cons_succ]
          clear hHeld
          have hHeld := hHeld2
          clear hHeld2
          refine wpAnyH_ready (rs := [3, 9]) (by kernel_rfl) (by simp) (AllReadyH.cons (o := _) rfl (fun K hK => ?_) (AllReadyH.cons (o := _) rfl (fun K hK => ?_) AllReadyH.nil))
          · go_simp
            go_at_call 18
            refine (nextB_any B K1 _ _ (by omega) (H46.out.tapeAt 5 rfl)).mono ?_
            rintro e w48 ⟨x47, rfl, x47a, x47b, htn, hgn, hsn⟩
            have H49 := hid (H46.out.next 5 rfl htn hgn)
            clear htn hgn hsn
            refine hK.out _ _ ?_ (fun hHeld2 => ?_)
            focus ((try dsimp only); (exact ⟨H49.out.cell 3 rfl 0 rfl, H49.out.cell 3 rfl 1 rfl, H49.out.cell 3 rfl 2 rfl, H49.out.cell 3 rfl 3 rfl⟩))
            clear hK K
            try simp only [Act.put, List.getElem_toArray, List.getElem_cons_zero, List.getElem_cons_succ, List.setIfInBounds_toArray, List.set_cons_zero, List.set_cons_succ]
            clear hHeld
            have hHeld := hHeld2
            clear hHeld2
            refine wpAnyH_ready (rs := [9]) (by kernel_rfl) (by simp) (AllReadyH.cons (o := _) rfl (fun K hK => ?_) AllReadyH.nil)
            obtain ⟨D50, hD50⟩ : ∃ D, w48.heap.size = D := ⟨_, rfl⟩
            have H51 := hid (H49.out.alloc #[.int .i64 0, .int .i64 0, .int .i64 0, .int .i64 0] 33 hD50)
            go_simp
            refine hK.out _ _ ?_ (fun hHeld2 => ?_)
            focus ((try dsimp only); (exact ⟨H51.out.cell 4 rfl 0 rfl, H51.out.cell 4 rfl 1 rfl, H51.out.cell 4 rfl 2 rfl, H51.out.cell 4 rfl 3 rfl⟩))
            clear hK K hHeld
            try simp only [Act.put, List.getElem_toArray, List.getElem_cons_zero, List.getElem_cons_succ, List.setIfInBounds_toArray, List.set_cons_zero, List.set_cons_succ]
            clear hD50
            generalize (w48.alloc (.cells #[.int .i64 0, .int .i64 0, .int .i64 0, .int .i64 0] 33)) = k52 at *
            have hHeld := hHeld2
            clear hHeld2
            refine wpAnyH_take (i := 10) (oi := _) (v := ?_) rfl (by kernel_rfl) (by kernel_rfl) (by kernel_rfl) (fun _ _ _ h => h) (Or.inl ⟨by rfl, ?_⟩) (by assumption) ?_
            rotate_left
            focus (intro wS hSw; (try dsimp only at hSw); go_simp; (try with_reducible rfl))
            try simp only [Act.put, List.getElem_toArray, List.getElem_cons_zero, List.getElem_cons_succ, List.setIfInBounds_toArray, List.set_cons_zero, List.set_cons_succ]
            refine wpAnyH_take (i := 11) (oi := _) (v := ?_) rfl (by kernel_rfl) (by kernel_rfl) (by kernel_rfl) (fun _ _ _ h => h) (Or.inl ⟨by rfl, ?_⟩) (by assumption) ?_
            rotate_left
            focus (intro wS hSw; (try dsimp only at hSw); go_simp; (try with_reducible rfl))
            try simp only [Act.put, List.getElem_toArray, List.getElem_cons_zero, List.getElem_cons_succ, List.setIfInBounds_toArray, List.set_cons_zero, List.set_cons_succ]
            refine wpAnyH_ready (rs := [12]) (by kernel_rfl) (by simp) (AllReadyH.cons (o := _) rfl (fun K hK => ?_) AllReadyH.nil)
            have z53 := H51.out.cell 0 rfl 0 rfl
            have z54 := H51.out.free 0 rfl 0
            have z55 := H51.out.cell 0 rfl 1 rfl
            have z56 := H51.out.free 0 rfl 1
            have z57 := H51.out.cell 0 rfl 2 rfl
            have z58 := H51.out.free 0 rfl 2
            have z59 := H51.out.cell 0 rfl 3 rfl
            have z60 := H51.out.free 0 rfl 3
            have H61 := hid (show St B W [.cells D50 #[.int .i64 0, .int .i64 0, .int .i64 nw, .int .i64 nh] 33, .own (.slice wv44a wl45.length wv44c) wl45, .cells D22 #[.int .i64 nw, .int .i64 nh, .int .i64 pm4, .slice (some ⟨gq, 0, none⟩) ps4.length v20c] 35, .own (.slice (some ⟨gq, 0, none⟩) ps4.length v20c) ql, .cells D7 #[.int .i64 nw, .int .i64 nh, .int .i64 pm4, .slice (some ⟨gp, 0, none⟩) ps4.length pv4c] 35, .own (.slice (some ⟨gp, 0, none⟩) ps4.length pv4c) ps4, .tape K1] [] ((((k52.setCell ⟨D50, 0, none⟩ (.int .i64 0)).setCell ⟨D50, 1, none⟩ (.int .i64 0)).setCell ⟨D50, 2, none⟩ (.int .i64 nw)).setCell ⟨D50, 3, none⟩ (.int .i64 nh)) from (H51.out.set4 0 rfl (.int .i64 0) (.int .i64 0) (.int .i64 nw) (.int .i64 nh)))
            go_simp
            refine hK.out _ _ ?_ (fun hHeld2 => ?_)
            focus ((try dsimp only); (exact ⟨H61.out.cell 4 rfl 0 rfl, H61.out.cell 4 rfl 1 rfl, H61.out.cell 4 rfl 2 rfl, H61.out.cell 4 rfl 3 rfl⟩))
            clear hK K hHeld
            try simp only [Act.put, List.getElem_toArray, List.getElem_cons_zero, List.getElem_cons_succ, List.setIfInBounds_toArray, List.set_cons_zero, List.set_cons_succ]
            clear z53 z54 z55 z56 z57 z58 z59 z60
            generalize ((((k52.setCell ⟨D50, 0, none⟩ (.int .i64 0)).setCell ⟨D50, 1, none⟩ (.int .i64 0)).setCell ⟨D50, 2, none⟩ (.int .i64 nw)).setCell ⟨D50, 3, none⟩ (.int .i64 nh)) = k62 at *
            have hHeld := hHeld2
            clear hHeld2
            refine wpAnyH_done (by kernel_rfl) ?_ _
            try clear hHeld
            go_wp2_with fail
            go_meet
            exact ⟨D50, _, _, _, _, rfl, rfl, rfl, HWLwl45.out, HWBwl45.out, by omega, by omega, H61.out.pick [1, 0, 2, 3, 4, 5, 6] rfl (by decide)⟩
          · obtain ⟨D63, hD63⟩ : ∃ D, w43.heap.size = D := ⟨_, rfl⟩
            have H64 := hid (H46.out.alloc #[.int .i64 0, .int .i64 0, .int .i64 0, .int .i64 0] 33 hD63)
            go_simp
            refine hK.out _ _ ?_ (fun hHeld2 => ?_)
            focus ((try dsimp only); (exact ⟨H64.out.cell 4 rfl 0 rfl, H64.out.cell 4 rfl 1 rfl, H64.out.cell 4 rfl 2 rfl, H64.out.cell 4 rfl 3 rfl⟩))
            clear hK K hHeld
            try simp only [Act.put, List.getElem_toArray, List.getElem_cons_zero, List.getElem_cons_succ, List.setIfInBounds_toArray, List.set_cons_zero, List.set_cons_succ]
            clear hD63
            generalize (w43.alloc (.cells #[.int .i64 0, .int .i64 0, .int .i64 0, .int .i64 0] 33)) = k65 at *
            have hHeld := hHeld2
            clear hHeld2
            refine wpAnyH_ready (rs := [3]) (by kernel_rfl) (by simp) (AllReadyH.cons (o := _) rfl (fun K hK => ?_) AllReadyH.nil)
            go_simp
            go_at_call 18
            refine (nextB_any B K1 _ _ (by omega) (H64.out.tapeAt 6 rfl)).mono ?_
            rintro e w67 ⟨x66, rfl, x66a, x66b, htn, hgn, hsn⟩
            have H68 := hid (H64.out.next 6 rfl htn hgn)
            clear htn hgn hsn
            refine hK.out _ _ ?_ (fun hHeld2 => ?_)
            focus ((try dsimp only); (exact ⟨H68.out.cell 4 rfl 0 rfl, H68.out.cell 4 rfl 1 rfl, H68.out.cell 4 rfl 2 rfl, H68.out.cell 4 rfl 3 rfl⟩))
            clear hK K
            try simp only [Act.put, List.getElem_toArray, List.getElem_cons_zero, List.getElem_cons_succ, List.setIfInBounds_toArray, List.set_cons_zero, List.set_cons_succ]
            clear hHeld
            have hHeld := hHeld2
            clear hHeld2
            refine wpAnyH_take (i := 10) (oi := _) (v := ?_) rfl (by kernel_rfl) (by kernel_rfl) (by kernel_rfl) (fun _ _ _ h => h) (Or.inl ⟨by rfl, ?_⟩) (by assumption) ?_
            rotate_left
            focus (intro wS hSw; (try dsimp only at hSw); go_simp; (try with_reducible rfl))
            try simp only [Act.put, List.getElem_toArray, List.getElem_cons_zero, List.getElem_cons_succ, List.setIfInBounds_toArray, List.set_cons_zero, List.set_cons_succ]
            refine wpAnyH_take (i := 11) (oi := _) (v := ?_) rfl (by kernel_rfl) (by kernel_rfl) (by kernel_rfl) (fun _ _ _ h => h) (Or.inl ⟨by rfl, ?_⟩) (by assumption) ?_
            rotate_left
            focus (intro wS hSw; (try dsimp only at hSw); go_simp; (try with_reducible rfl))
            try simp only [Act.put, List.getElem_toArray, List.getElem_cons_zero, List.getElem_cons_succ, List.setIfInBounds_toArray, List.set_cons_zero, List.set_cons_succ]
            refine wpAnyH_ready (rs := [12]) (by kernel_rfl) (by simp) (AllReadyH.cons (o := _) rfl (fun K hK => ?_) AllReadyH.nil)
            have z69 := H68.out.cell 0 rfl 0 rfl
            have z70 := H68.out.free 0 rfl 0
            have z71 := H68.out.cell 0 rfl 1 rfl
            have z72 := H68.out.free 0 rfl 1
            have z73 := H68.out.cell 0 rfl 2 rfl
            have z74 := H68.out.free 0 rfl 2
            have z75 := H68.out.cell 0 rfl 3 rfl
            have z76 := H68.out.free 0 rfl 3
            have H77 := hid (show St B W [.cells D63 #[.int .i64 0, .int .i64 0, .int .i64 nw, .int .i64 nh] 33, .own (.slice wv44a wl45.length wv44c) wl45, .cells D22 #[.int .i64 nw, .int .i64 nh, .int .i64 pm4, .slice (some ⟨gq, 0, none⟩) ps4.length v20c] 35, .own (.slice (some ⟨gq, 0, none⟩) ps4.length v20c) ql, .cells D7 #[.int .i64 nw, .int .i64 nh, .int .i64 pm4, .slice (some ⟨gp, 0, none⟩) ps4.length pv4c] 35, .own (.slice (some ⟨gp, 0, none⟩) ps4.length pv4c) ps4, .tape K1] [] ((((w67.setCell ⟨D63, 0, none⟩ (.int .i64 0)).setCell ⟨D63, 1, none⟩ (.int .i64 0)).setCell ⟨D63, 2, none⟩ (.int .i64 nw)).setCell ⟨D63, 3, none⟩ (.int .i64 nh)) from (H68.out.set4 0 rfl (.int .i64 0) (.int .i64 0) (.int .i64 nw) (.int .i64 nh)))
            go_simp
            refine hK.out _ _ ?_ (fun hHeld2 => ?_)
            focus ((try dsimp only); (exact ⟨H77.out.cell 4 rfl 0 rfl, H77.out.cell 4 rfl 1 rfl, H77.out.cell 4 rfl 2 rfl, H77.out.cell 4 rfl 3 rfl⟩))
            clear hK K hHeld
            try simp only [Act.put, List.getElem_toArray, List.getElem_cons_zero, List.getElem_cons_succ, List.setIfInBounds_toArray, List.set_cons_zero, List.set_cons_succ]
            clear z69 z70 z71 z72 z73 z74 z75 z76
            generalize ((((w67.setCell ⟨D63, 0, none⟩ (.int .i64 0)).setCell ⟨D63, 1, none⟩ (.int .i64 0)).setCell ⟨D63, 2, none⟩ (.int .i64 nw)).setCell ⟨D63, 3, none⟩ (.int .i64 nh)) = k78 at *
            have hHeld := hHeld2
            clear hHeld2
            refine wpAnyH_done (by kernel_rfl) ?_ _
            try clear hHeld
            go_wp2_with fail
            go_meet
            exact ⟨D63, _, _, _, _, rfl, rfl, rfl, HWLwl45.out, HWBwl45.out, by omega, by omega, H77.out.pick [1, 0, 2, 3, 4, 5, 6] rfl (by decide)⟩
        · obtain ⟨D79, hD79⟩ : ∃ D, k42.heap.size = D := ⟨_, rfl⟩
          have H80 := hid (H41.out.alloc #[.int .i64 0, .int .i64 0, .int .i64 0, .int .i64 0] 33 hD79)
          go_simp
          refine hK.out _ _ ?_ (fun hHeld2 => ?_)
          focus ((try dsimp only); (exact ⟨H80.out.cell 3 rfl 0 rfl, H80.out.cell 3 rfl 1 rfl, H80.out.cell 3 rfl 2 rfl, H80.out.cell 3 rfl 3 rfl⟩))
          clear hK K hHeld
          try simp only [Act.put, List.getElem_toArray, List.getElem_cons_zero, List.getElem_cons_succ, List.setIfInBounds_toArray, List.set_cons_zero, List.set_cons_succ]
          clear hD79
          generalize (k42.alloc (.cells #[.int .i64 0, .int .i64 0, .int .i64 0, .int .i64 0] 33)) = k81 at *
          have hHeld := hHeld2
          clear hHeld2
          refine wpAnyH_ready (rs := [1]) (by kernel_rfl) (by simp) (AllReadyH.cons (o := _) rfl (fun K hK => ?_) AllReadyH.nil)
          go_simp
          go_at_call 19
          refine (weights_any B K1 _ _ (by omega) (H80.out.tapeAt 5 rfl)).mono ?_
          rintro e w82 ⟨wv83, wl84, rfl, hlen, hin, ho, ht, hg⟩
          have H85 := hid (H80.out.add (H80.out.next 5 rfl ht hg) ho)
          have HWLwl84 := hid hlen
          have HWBwl84 := hid hin
          obtain ⟨wv83a, wv83c, rfl, _⟩ := ho.slc
          clear hlen hin ho ht hg
          refine hK.out _ _ ?_ (fun hHeld2 => ?_)
          focus ((try dsimp only); (exact ⟨H85.out.cell 4 rfl 0 rfl, H85.out.cell 4 rfl 1 rfl, H85.out.cell 4 rfl 2 rfl, H85.out.cell 4 rfl 3 rfl⟩))
          clear hK K
          try simp only [Act.put, List.getElem_toArray, List.getElem_cons_zero, List.getElem_cons_succ, List.setIfInBounds_toArray, List.set_cons_zero, List.set_cons_succ]
          clear hHeld
          have hHeld := hHeld2
          clear hHeld2
          refine wpAnyH_ready (rs := [3]) (by kernel_rfl) (by simp) (AllReadyH.cons (o := _) rfl (fun K hK => ?_) AllReadyH.nil)
          go_simp
          go_at_call 18
          refine (nextB_any B K1 _ _ (by omega) (H85.out.tapeAt 6 rfl)).mono ?_
          rintro e w87 ⟨x86, rfl, x86a, x86b, htn, hgn, hsn⟩
          have H88 := hid (H85.out.next 6 rfl htn hgn)
          clear htn hgn hsn
          refine hK.out _ _ ?_ (fun hHeld2 => ?_)
          focus ((try dsimp only); (exact ⟨H88.out.cell 4 rfl 0 rfl, H88.out.cell 4 rfl 1 rfl, H88.out.cell 4 rfl 2 rfl, H88.out.cell 4 rfl 3 rfl⟩))
          clear hK K
          try simp only [Act.put, List.getElem_toArray, List.getElem_cons_zero, List.getElem_cons_succ, List.setIfInBounds_toArray, List.set_cons_zero, List.set_cons_succ]
          clear hHeld
          have hHeld := hHeld2
          clear hHeld2
          refine wpAnyH_take (i := 10) (oi := _) (v := ?_) rfl (by kernel_rfl) (by kernel_rfl) (by kernel_rfl) (fun _ _ _ h => h) (Or.inl ⟨by rfl, ?_⟩) (by assumption) ?_
          rotate_left
          focus (intro wS hSw; (try dsimp only at hSw); go_simp; (try with_reducible rfl))
          try simp only [Act.put, List.getElem_toArray, List.getElem_cons_zero, List.getElem_cons_succ, List.setIfInBounds_toArray, List.set_cons_zero, List.set_cons_succ]
          refine wpAnyH_take (i := 11) (oi := _) (v := ?_) rfl (by kernel_rfl) (by kernel_rfl) (by kernel_rfl) (fun _ _ _ h => h) (Or.inl ⟨by rfl, ?_⟩) (by assumption) ?_
          rotate_left
          focus (intro wS hSw; (try dsimp only at hSw); go_simp; (try with_reducible rfl))
          try simp only [Act.put, List.getElem_toArray, List.getElem_cons_zero, List.getElem_cons_succ, List.setIfInBounds_toArray, List.set_cons_zero, List.set_cons_succ]
          refine wpAnyH_ready (rs := [12]) (by kernel_rfl) (by simp) (AllReadyH.cons (o := _) rfl (fun K hK => ?_) AllReadyH.nil)
          have z89 := H88.out.cell 1 rfl 0 rfl
          have z90 := H88.out.free 1 rfl 0
          have z91 := H88.out.cell 1 rfl 1 rfl
          have z92 := H88.out.free 1 rfl 1
          have z93 := H88.out.cell 1 rfl 2 rfl
          have z94 := H88.out.free 1 rfl 2
          have z95 := H88.out.cell 1 rfl 3 rfl
          have z96 := H88.out.free 1 rfl 3
          have H97 := hid (show St B W [.own (.slice wv83a wl84.length wv83c) wl84, .cells D79 #[.int .i64 0, .int .i64 0, .int .i64 nw, .int .i64 nh] 33, .cells D22 #[.int .i64 nw, .int .i64 nh, .int .i64 pm4, .slice (some ⟨gq, 0, none⟩) ps4.length v20c] 35, .own (.slice (some ⟨gq, 0, none⟩) ps4.length v20c) ql, .cells D7 #[.int .i64 nw, .int .i64 nh, .int .i64 pm4, .slice (some ⟨gp, 0, none⟩) ps4.length pv4c] 35, .own (.slice (some ⟨gp, 0, none⟩) ps4.length pv4c) ps4, .tape K1] [] ((((w87.setCell ⟨D79, 0, none⟩ (.int .i64 0)).setCell ⟨D79, 1, none⟩ (.int .i64 0)).setCell ⟨D79, 2, none⟩ (.int .i64 nw)).setCell ⟨D79, 3, none⟩ (.int .i64 nh)) from (H88.out.set4 1 rfl (.int .i64 0) (.int .i64 0) (.int .i64 nw) (.int .i64 nh)))
          go_simp
          refine hK.out _ _ ?_ (fun hHeld2 => ?_)
          focus ((try dsimp only); (exact ⟨H97.out.cell 4 rfl 0 rfl, H97.out.cell 4 rfl 1 rfl, H97.out.cell 4 rfl 2 rfl, H97.out.cell 4 rfl 3 rfl⟩))
          clear hK K hHeld
          try simp only [Act.put, List.getElem_toArray, List.getElem_cons_zero, List.getElem_cons_succ, List.setIfInBounds_toArray, List.set_cons_zero, List.set_cons_succ]
          clear z89 z90 z91 z92 z93 z94 z95 z96
          generalize ((((w87.setCell ⟨D79, 0, none⟩ (.int .i64 0)).setCell ⟨D79, 1, none⟩ (.int .i64 0)).setCell ⟨D79, 2, none⟩ (.int .i64 nw)).setCell ⟨D79, 3, none⟩ (.int .i64 nh)) = k98 at *
          have hHeld := hHeld2
          clear hHeld2
          refine wpAnyH_done (by kernel_rfl) ?_ _
          try clear hHeld
          go_wp2_with fail
          go_meet
          exact ⟨D79, _, _, _, _, rfl, rfl, rfl, HWLwl84.out, HWBwl84.out, by omega, by omega, H97.out.pick [0, 1, 2, 3, 4, 5, 6] rfl (by decide)⟩
      case rest =>
        obtain ⟨RQ, wla, wlc, wls, sh, rfl, rfl, rfl, hwl, hwb, sh1, sh2, hst⟩ := hcut
        obtain ⟨u99, rfl⟩ : ∃ u99 : World, u99 = wc := ⟨_, rfl⟩
        have H100 := hid hst
        clear hst
        have HWLwls := hid hwl
        have HWBwls := hid hwb
        clear hwl hwb
        have z101 := H100.out.cell 4 rfl 0 rfl
        have z102 := H100.out.cell 4 rfl 1 rfl
        have z103 := H100.out.cell 4 rfl 2 rfl
        have z104 := H100.out.cell 4 rfl 3 rfl
        have z105 := H100.out.cell 1 rfl 0 rfl
        have z106 := H100.out.cell 1 rfl 1 rfl
        have z107 := H100.out.cell 1 rfl 2 rfl
        have z108 := H100.out.cell 1 rfl 3 rfl
        go_wp2_with fail
        clear z101 z102 z103 z104 z105 z106 z107 z108
        have hp := pOk_iff.1 (pValid_iff.1 HVps4.out).1
        have hmx := HMps4.out
        have HCK112 := hid (show cvCode pm4 3 3 wls sh 255 = 0 from cv_ok (by omega) (by omega) (by first | (rw [HWLwls.out]; rfl) | (have := HWLwls.out; omega)) (fun i hi => by have := HWBwls.out i; omega) (by omega) (by omega) (by omega))
        have hct := cvT_ok HVps4.out ((show bValid 2 0 pm4 = true from by simp [bValid])) HCK112.out (r0 := 0) (r1 := 0) (r2 := nw) (r3 := nh) (by omega)
        refine (ctile_any _ _ _ _ _ _ ps4 _ _ _ _ _ _ _ wls _ _ _ _ _ _ _ (H100.out.slc 5 rfl) (H100.out.slc 0 rfl)).mono ?_
        rintro e w109 ⟨v110, rfl, ho, hb⟩
        rw [hct] at ho ⊢
        simp only [tI, tL, if_pos] at ho ⊢
        clear hct hp hmx
        obtain ⟨l113, hl113⟩ : ∃ xx', cvL nw nh ps4 2 0 3 3 wls sh 255 0 0 nw nh = xx' := ⟨_, rfl⟩
        rw [hl113] at ho
        have HNl113 := hid hl113
        clear hl113
        rw [Int.sub_zero, Int.sub_zero]
        have H111 := hid (H100.out.grow hb ho)
        obtain ⟨v110a, v110c, rfl, _⟩ := ho.slc
        clear ho hb
        have HVl113 := hid (show pValid nw nh 255 l113 = true from by rw [← HNl113.out]; exact rG_valid (by omega) (fun x y => cvP_bd _ _ _ _ _ _ _ _ _ (by omega) x y) HVps4.out)
        obtain ⟨D114, hD114⟩ : ∃ D, w109.heap.size = D := ⟨_, rfl⟩
        go_upto_region 11 with fail
        have H115 := hid (show St B W [.cells D114 #[.int .i64 nw, .int .i64 nh, .int .i64 255, .slice v110a l113.length v110c] 35, .own (.slice v110a l113.length v110c) l113, .own (.slice wla wls.length wlc) wls, .cells RQ #[.int .i64 0, .int .i64 0, .int .i64 nw, .int .i64 nh] 33, .cells D22 #[.int .i64 nw, .int .i64 nh, .int .i64 pm4, .slice (some ⟨gq, 0, none⟩) ps4.length v20c] 35, .own (.slice (some ⟨gq, 0, none⟩) ps4.length v20c) ql, .cells D7 #[.int .i64 nw, .int .i64 nh, .int .i64 pm4, .slice (some ⟨gp, 0, none⟩) ps4.length pv4c] 35, .own (.slice (some ⟨gp, 0, none⟩) ps4.length pv4c) ps4, .tape K1] [] (w109.alloc (.cells #[.int .i64 nw, .int .i64 nh, .int .i64 255, .slice v110a l113.length v110c] 35)) from (H111.out.alloc #[.int .i64 nw, .int .i64 nh, .int .i64 255, .slice v110a l113.length v110c] 35 hD114))
        first | refine gen_code H115.out ?_ | refine gen_list H115.out ?_ | refine gen_calls H115.out ?_
        intro w116 hG
        clear H115
        have H115 := hid hG
        clear hG
        clear hD114
        have z117 := H115.out.cell 4 rfl 0 rfl
        have z118 := H115.out.cell 4 rfl 1 rfl
        have z119 := H115.out.cell 4 rfl 2 rfl
        have z120 := H115.out.cell 4 rfl 3 rfl
        have z121 := H115.out.cell 3 rfl 0 rfl
        have z122 := H115.out.cell 3 rfl 1 rfl
        have z123 := H115.out.cell 3 rfl 2 rfl
        have z124 := H115.out.cell 3 rfl 3 rfl
        go_wp2_with fail
        clear z117 z118 z119 z120 z121 z122 z123 z124
        have hp := pOk_iff.1 (pValid_iff.1 HVql.out).1
        have hmx := HMql.out
        have HCK128 := hid (show cvCode pm4 3 3 wls sh 255 = 0 from cv_ok (by omega) (by omega) (by first | (rw [HWLwls.out]; rfl) | (have := HWLwls.out; omega)) (fun i hi => by have := HWBwls.out i; omega) (by omega) (by omega) (by omega))
        have hct := cvT_ok HVql.out ((show bValid 2 0 pm4 = true from by simp [bValid])) HCK128.out (r0 := 0) (r1 := 0) (r2 := nw) (r3 := nh) (by omega)
        refine (ctile_any _ _ _ _ _ _ ql _ _ _ _ _ _ _ wls _ _ _ _ _ _ _ (H115.out.slc 5 rfl) (H115.out.slc 2 rfl)).mono ?_
        rintro e w125 ⟨v126, rfl, ho, hb⟩
        rw [hct] at ho ⊢
        simp only [tI, tL, if_pos] at ho ⊢
        clear hct hp hmx
        obtain ⟨l129, hl129⟩ : ∃ xx', cvL nw nh ql 2 0 3 3 wls sh 255 0 0 nw nh = xx' := ⟨_, rfl⟩
        rw [hl129] at ho
        have HNl129 := hid hl129
        clear hl129
        rw [Int.sub_zero, Int.sub_zero]
        have H127 := hid (H115.out.grow hb ho)
        obtain ⟨v126a, v126c, rfl, _⟩ := ho.slc
        clear ho hb
        have HVl129 := hid (show pValid nw nh 255 l129 = true from by rw [← HNl129.out]; exact rG_valid (by omega) (fun x y => cvP_bd _ _ _ _ _ _ _ _ _ (by omega) x y) HVql.out)
        obtain ⟨D130, hD130⟩ : ∃ D, w125.heap.size = D := ⟨_, rfl⟩
        go_upto_region 12 with fail
        have H131 := hid (show St B W [.cells D130 #[.int .i64 nw, .int .i64 nh, .int .i64 255, .slice v126a l129.length v126c] 35, .own (.slice v126a l129.length v126c) l129, .cells D114 #[.int .i64 nw, .int .i64 nh, .int .i64 255, .slice v110a l113.length v110c] 35, .own (.slice v110a l113.length v110c) l113, .own (.slice wla wls.length wlc) wls, .cells RQ #[.int .i64 0, .int .i64 0, .int .i64 nw, .int .i64 nh] 33, .cells D22 #[.int .i64 nw, .int .i64 nh, .int .i64 pm4, .slice (some ⟨gq, 0, none⟩) ps4.length v20c] 35, .own (.slice (some ⟨gq, 0, none⟩) ps4.length v20c) ql, .cells D7 #[.int .i64 nw, .int .i64 nh, .int .i64 pm4, .slice (some ⟨gp, 0, none⟩) ps4.length pv4c] 35, .own (.slice (some ⟨gp, 0, none⟩) ps4.length pv4c) ps4, .tape K1] [] (w125.alloc (.cells #[.int .i64 nw, .int .i64 nh, .int .i64 255, .slice v126a l129.length v126c] 35)) from (H127.out.alloc #[.int .i64 nw, .int .i64 nh, .int .i64 255, .slice v126a l129.length v126c] 35 hD130))
        first | refine gen_code H131.out ?_ | refine gen_list H131.out ?_ | refine gen_calls H131.out ?_
        intro w132 hG
        clear H131
        have H131 := hid hG
        clear hG
        clear hD130
        have HLl113 := hid (show l113.length = ps4.length from by have h1 := (pValid_iff.1 HVl113.out).2.1; have h2 := (pValid_iff.1 HVps4.out).2.1; omega)
        have hlbl113 : ((l113.length : Int) != (ps4.length : Int)) = false := by rw [HLl113.out]; simp
        have hlcl113 : ((l113.length : Int) == (ps4.length : Int)) = true := by rw [HLl113.out]; simp
        have HLl129 := hid (show l129.length = ps4.length from by have h1 := (pValid_iff.1 HVl129.out).2.1; have h2 := (pValid_iff.1 HVps4.out).2.1; omega)
        have hlbl129 : ((l129.length : Int) != (ps4.length : Int)) = false := by rw [HLl129.out]; simp
        have hlcl129 : ((l129.length : Int) == (ps4.length : Int)) = true := by rw [HLl129.out]; simp
        have HXY := hid (show ∀ i, i < ps4.length → l129.getD (mvI nw nn i) 0 = l113.getD i 0 from fun i hi => by rw [← HNl129.out, ← HNl113.out]; exact moved_at 0 3 3 sh 255 wls rfl rfl hw1 hw2 hh1 hh2 HLP.out HMA.out hi)
        obtain ⟨gx, gxc, hgg⟩ := (H131.out.own 3 rfl).pos (by rw [HLl113.out]; omega)
        injection hgg with hga hgb hgc
        subst hga
        clear hgb hgc
        obtain ⟨gy, gyc, hgg⟩ := (H131.out.own 1 rfl).pos (by rw [HLl129.out]; omega)
        injection hgg with hga hgb hgc
        subst hga
        clear hgb hgc
        have z133 := H131.out.cell 2 rfl 0 rfl
        have z134 := H131.out.cell 2 rfl 1 rfl
        have z135 := H131.out.cell 2 rfl 2 rfl
        have z136 := H131.out.cell 2 rfl 3 rfl
        have z137 := H131.out.cell 8 rfl 0 rfl
        have z138 := H131.out.cell 8 rfl 1 rfl
        have z139 := H131.out.cell 8 rfl 2 rfl
        have z140 := H131.out.cell 8 rfl 3 rfl
        have z141 := H131.out.cell 0 rfl 0 rfl
        have z142 := H131.out.cell 0 rfl 1 rfl
        have z143 := H131.out.cell 0 rfl 2 rfl
        have z144 := H131.out.cell 0 rfl 3 rfl
        go_wp2_with fail
        clear z133 z134 z135 z136 z137 z138 z139 z140 z141 z142 z143 z144
        clear hlbl113 hlcl113 hlbl129 hlcl129
        go_loopw [17] (fun i wr => ∃ j : Nat, j ≤ ps4.length ∧ i = .int .i64 j ∧ St B W [.cells D130 #[.int .i64 nw, .int .i64 nh, .int .i64 255, .slice (some ⟨gy, 0, none⟩) l129.length v126c] 35, .own (.slice (some ⟨gy, 0, none⟩) l129.length v126c) l129, .cells D114 #[.int .i64 nw, .int .i64 nh, .int .i64 255, .slice (some ⟨gx, 0, none⟩) l113.length v110c] 35, .own (.slice (some ⟨gx, 0, none⟩) l113.length v110c) l113, .own (.slice wla wls.length wlc) wls, .cells RQ #[.int .i64 0, .int .i64 0, .int .i64 nw, .int .i64 nh] 33, .cells D22 #[.int .i64 nw, .int .i64 nh, .int .i64 pm4, .slice (some ⟨gq, 0, none⟩) ps4.length v20c] 35, .own (.slice (some ⟨gq, 0, none⟩) ps4.length v20c) ql, .cells D7 #[.int .i64 nw, .int .i64 nh, .int .i64 pm4, .slice (some ⟨gp, 0, none⟩) ps4.length pv4c] 35, .own (.slice (some ⟨gp, 0, none⟩) ps4.length pv4c) ps4, .tape K1] [] wr) (fun i _ => ps4.length - (intOf i).toNat)
        case atStart => exact ⟨0, by omega, rfl, H131.out⟩
        case round =>
          obtain ⟨j, hj, rfl, hst⟩ := hrel
          obtain ⟨u145, rfl⟩ : ∃ u145 : World, u145 = wr := ⟨_, rfl⟩
          have H146 := hid hst
          clear hst
          by_cases hjn : j < ps4.length
          · skip
            have hjn' : (j : Int) < ps4.length := by omega
            have z147 := H146.out.cell 8 rfl 0 rfl
            have z148 := H146.out.cell 8 rfl 1 rfl
            have z149 := H146.out.cell 8 rfl 2 rfl
            have z150 := H146.out.cell 8 rfl 3 rfl
            go_upto_region 17 with fail
            clear z147 z148 z149 z150
            obtain ⟨jq, hjq⟩ : ∃ xx' : Nat, j / nw = xx' := ⟨_, rfl⟩
            obtain ⟨jr, hjr⟩ : ∃ xx' : Nat, j % nw = xx' := ⟨_, rfl⟩
            obtain ⟨KN, hKN⟩ : ∃ xx' : Nat, jq * nw = xx' := ⟨_, rfl⟩
            obtain ⟨jm, hjm⟩ : ∃ xx' : Nat, (jr + nn) % nw = xx' := ⟨_, rfl⟩
            obtain ⟨MJ, hMJ⟩ : ∃ xx' : Nat, KN + jm = xx' := ⟨_, rfl⟩
            have HMV := hid (show mvI nw nn j = MJ from by unfold mvI; rw [hjq, hjr, hKN, hjm, hMJ])
            have hml : MJ < nh * nw := by rw [← HMV.out]; exact mvI_lt (by omega) (by have := HLP.out; omega)
            have jq1 : jq ≤ j := by rw [← hjq]; exact Nat.div_le_self _ _
            have jr1 : jr < nw := by rw [← hjr]; exact Nat.mod_lt _ (by omega)
            have jm1 : jm < nw := by rw [← hjm]; exact Nat.mod_lt _ (by omega)
            have tq : Int.tdiv (j : Int) (nw : Int) = jq := by rw [← hjq, Int.tdiv_eq_ediv_of_nonneg (by omega)]; simp
            have tr : Int.tmod (j : Int) (nw : Int) = jr := by rw [← hjr, Int.tmod_eq_emod_of_nonneg (by omega)]; simp
            have tm : Int.tmod ((jr : Int) + (nn : Int)) (nw : Int) = jm := by rw [← hjm, Int.tmod_eq_emod_of_nonneg (by omega)]; simp
            have tk : (jq : Int) * (nw : Int) = (KN : Int) := by rw [← hKN]; simp
            have tM : (KN : Int) + (jm : Int) = (MJ : Int) := by omega
            have kn0 : ¬ ((nw : Int) = 0) := by omega
            have kn1 : ¬ (nw = 0) := by omega
            obtain ⟨hln1, hln2⟩ : ps4.length ≤ nh * nw ∧ nh * nw ≤ ps4.length := by have := HLP.out; omega
            have kn4 : KN ≤ j := by rw [← hKN, ← hjq]; exact Nat.div_mul_le_self _ _
            have wq1 : IntKind.i64.wrap (jq : Int) = jq := IntWalk.i64_in _ (by omega)
            have wq2 : IntKind.i64.wrap (jr : Int) = jr := IntWalk.i64_in _ (by omega)
            have wq3 : IntKind.i64.wrap (KN : Int) = KN := IntWalk.i64_in _ (by omega)
            have wq4 : IntKind.i64.wrap ((jr : Int) + nn) = (jr : Int) + nn := IntWalk.i64_in _ (by omega)
            have wq5 : IntKind.i64.wrap (jm : Int) = jm := IntWalk.i64_in _ (by omega)
            have wq6 : IntKind.i64.wrap (MJ : Int) = MJ := IntWalk.i64_in _ (by omega)
            clear hjq hjr hKN hjm hMJ
            obtain ⟨xz, hxz⟩ : ∃ xx', l113.getD j 0 = xx' := ⟨_, rfl⟩
            have HXZ := hid hxz
            have HYZ := hid (show l129.getD MJ 0 = xz from by rw [← HMV.out, HXY.out j hjn]; exact hxz)
            clear hxz
            have mj1 : (MJ : Int) < l129.length := by have := HLl129.out; omega
            have mj2 : (j : Int) < l113.length := by have := HLl113.out; omega
            have H151 := hid H146.out.drew
            refine wp_region_held_drew (S := (fun w' => w'.cell? ⟨D130, 0, none⟩ = some (.int .i64 nw) ∧ w'.cell? ⟨D130, 1, none⟩ = some (.int .i64 nh) ∧ w'.cell? ⟨D130, 2, none⟩ = some (.int .i64 255) ∧ w'.cell? ⟨D130, 3, none⟩ = some (.slice (some ⟨gy, 0, none⟩) l129.length v126c) ∧ w'.cell? ⟨D7, 0, none⟩ = some (.int .i64 nw) ∧ w'.cell? ⟨D7, 1, none⟩ = some (.int .i64 nh) ∧ w'.cell? ⟨D7, 2, none⟩ = some (.int .i64 pm4) ∧ w'.cell? ⟨D7, 3, none⟩ = some (.slice (some ⟨gp, 0, none⟩) ps4.length pv4c) ∧ w'.cell? ⟨D114, 0, none⟩ = some (.int .i64 nw) ∧ w'.cell? ⟨D114, 1, none⟩ = some (.int .i64 nh) ∧ w'.cell? ⟨D114, 2, none⟩ = some (.int .i64 255) ∧ w'.cell? ⟨D114, 3, none⟩ = some (.slice (some ⟨gx, 0, none⟩) l113.length v110c) ∧ w'.cell? ⟨gx, j, none⟩ = some (.int .i64 xz) ∧ w'.cell? ⟨gy, MJ, none⟩ = some (.int .i64 xz))) (by kernel_rfl) ⟨H151.out.cell 0 rfl 0 rfl, H151.out.cell 0 rfl 1 rfl, H151.out.cell 0 rfl 2 rfl, H151.out.cell 0 rfl 3 rfl, H151.out.cell 8 rfl 0 rfl, H151.out.cell 8 rfl 1 rfl, H151.out.cell 8 rfl 2 rfl, H151.out.cell 8 rfl 3 rfl, H151.out.cell 2 rfl 0 rfl, H151.out.cell 2 rfl 1 rfl, H151.out.cell 2 rfl 2 rfl, H151.out.cell 2 rfl 3 rfl, (by have := (H151.out.get 3 rfl (j := j) (by rw [HLl113.out]; exact hjn)).1; rw [HXZ.out] at this; exact this), (by have := (H151.out.get 1 rfl (j := MJ) (by rw [HLl129.out, HLP.out]; exact hml)).1; rw [HYZ.out] at this; exact this)⟩ (fun hHeld => ?_)
            generalize u145.drew = k152 at *
            refine wpAnyH_take (i := 0) (oi := _) (v := ?_) rfl (by kernel_rfl) (by kernel_rfl) (by kernel_rfl) (fun _ _ _ h => h) (Or.inl ⟨by rfl, ?_⟩) (by assumption) ?_
            rotate_left
            focus (intro wS hSw; (try dsimp only at hSw); go_simp; (try with_reducible rfl))
            try simp only [Act.put, List.getElem_toArray, List.getElem_cons_zero, List.getElem_cons_succ, List.setIfInBounds_toArray, List.set_cons_zero, List.set_cons_succ]
            refine wpAnyH_take (i := 1) (oi := _) (v := ?_) rfl (by kernel_rfl) (by kernel_rfl) (by kernel_rfl) (fun _ _ _ h => h) (Or.inl ⟨by rfl, ?_⟩) (by assumption) ?_
            rotate_left
            focus (intro wS hSw; (try dsimp only at hSw); go_simp; (try with_reducible rfl))
            try simp only [Act.put, List.getElem_toArray, List.getElem_cons_zero, List.getElem_cons_succ, List.setIfInBounds_toArray, List.set_cons_zero, List.set_cons_succ]
            refine wpAnyH_take (i := 2) (oi := _) (v := ?_) rfl (by kernel_rfl) (by kernel_rfl) (by kernel_rfl) (fun _ _ _ h => h) (Or.inl ⟨by rfl, ?_⟩) (by assumption) ?_
            rotate_left
            focus (intro wS hSw; (try dsimp only at hSw); go_simp; (try with_reducible rfl))
            try simp only [Act.put, List.getElem_toArray, List.getElem_cons_zero, List.getElem_cons_succ, List.setIfInBounds_toArray, List.set_cons_zero, List.set_cons_succ]
            refine wpAnyH_take (i := 3) (oi := _) (v := ?_) rfl (by kernel_rfl) (by kernel_rfl) (by kernel_rfl) (fun _ _ _ h => h) (Or.inl ⟨by rfl, ?_⟩) (by assumption) ?_
            rotate_left
            focus (intro wS hSw; (try dsimp only at hSw); go_simp; (try with_reducible rfl))
            try simp only [Act.put, List.getElem_toArray, List.getElem_cons_zero, List.getElem_cons_succ, List.setIfInBounds_toArray, List.set_cons_zero, List.set_cons_succ]
            refine wpAnyH_take (i := 4) (oi := _) (v := ?_) rfl (by kernel_rfl) (by kernel_rfl) (by kernel_rfl) (fun _ _ _ h => h) (Or.inl ⟨by rfl, ?_⟩) (by assumption) ?_
            rotate_left
            focus (intro wS hSw; (try dsimp only at hSw); go_simp; (try with_reducible rfl))
            try simp only [Act.put, List.getElem_toArray, List.getElem_cons_zero, List.getElem_cons_succ, List.setIfInBounds_toArray, List.set_cons_zero, List.set_cons_succ]
            refine wpAnyH_take (i := 5) (oi := _) (v := ?_) rfl (by kernel_rfl) (by kernel_rfl) (by kernel_rfl) (fun _ _ _ h => h) (Or.inl ⟨by rfl, ?_⟩) (by assumption) ?_
            rotate_left
            focus (intro wS hSw; (try dsimp only at hSw); go_simp; (try with_reducible rfl))
            try simp only [Act.put, List.getElem_toArray, List.getElem_cons_zero, List.getElem_cons_succ, List.setIfInBounds_toArray, List.set_cons_zero, List.set_cons_succ]
            refine wpAnyH_take (i := 6) (oi := _) (v := ?_) rfl (by kernel_rfl) (by kernel_rfl) (by kernel_rfl) (fun _ _ _ h => h) (Or.inl ⟨by rfl, ?_⟩) (by assumption) ?_
            rotate_left
            focus (intro wS hSw; (try dsimp only at hSw); go_simp; (try with_reducible rfl))
            try simp only [Act.put, List.getElem_toArray, List.getElem_cons_zero, List.getElem_cons_succ, List.setIfInBounds_toArray, List.set_cons_zero, List.set_cons_succ]
            refine wpAnyH_take (i := 7) (oi := _) (v := ?_) rfl (by kernel_rfl) (by kernel_rfl) (by kernel_rfl) (fun _ _ _ h => h) (Or.inl ⟨by rfl, ?_⟩) (by assumption) ?_
            rotate_left
            focus (intro wS hSw; (try dsimp only at hSw); go_simp; (try with_reducible rfl))
            try simp only [Act.put, List.getElem_toArray, List.getElem_cons_zero, List.getElem_cons_succ, List.setIfInBounds_toArray, List.set_cons_zero, List.set_cons_succ]
            refine wpAnyH_take (i := 8) (oi := _) (v := ?_) rfl (by kernel_rfl) (by kernel_rfl) (by kernel_rfl) (fun _ _ _ h => h) (Or.inl ⟨by rfl, ?_⟩) (by assumption) ?_
            rotate_left
            focus (intro wS hSw; (try dsimp only at hSw); go_simp; (try with_reducible rfl))
            try simp only [Act.put, List.getElem_toArray, List.getElem_cons_zero, List.getElem_cons_succ, List.setIfInBounds_toArray, List.set_cons_zero, List.set_cons_succ]
            refine wpAnyH_take (i := 9) (oi := _) (v := ?_) rfl (by kernel_rfl) (by kernel_rfl) (by kernel_rfl) (fun _ _ _ h => h) (Or.inl ⟨by rfl, ?_⟩) (by assumption) ?_
            rotate_left
            focus (intro wS hSw; (try dsimp only at hSw); go_simp; (try with_reducible rfl))
            try simp only [Act.put, List.getElem_toArray, List.getElem_cons_zero, List.getElem_cons_succ, List.setIfInBounds_toArray, List.set_cons_zero, List.set_cons_succ]
            refine wpAnyH_take (i := 10) (oi := _) (v := ?_) rfl (by kernel_rfl) (by kernel_rfl) (by kernel_rfl) (fun _ _ _ h => h) (Or.inl ⟨by rfl, ?_⟩) (by assumption) ?_
            rotate_left
            focus (intro wS hSw; (try dsimp only at hSw); go_simp; (try with_reducible rfl))
            try simp only [Act.put, List.getElem_toArray, List.getElem_cons_zero, List.getElem_cons_succ, List.setIfInBounds_toArray, List.set_cons_zero, List.set_cons_succ]
            refine wpAnyH_take (i := 11) (oi := _) (v := ?_) rfl (by kernel_rfl) (by kernel_rfl) (by kernel_rfl) (fun _ _ _ h => h) (Or.inl ⟨by rfl, ?_⟩) (by assumption) ?_
            rotate_left
            focus (intro wS hSw; (try dsimp only at hSw); go_simp; (try with_reducible rfl))
            try simp only [Act.put, List.getElem_toArray, List.getElem_cons_zero, List.getElem_cons_succ, List.setIfInBounds_toArray, List.set_cons_zero, List.set_cons_succ]
            refine wpAnyH_take (i := 12) (oi := _) (v := ?_) rfl (by kernel_rfl) (by kernel_rfl) (by kernel_rfl) (fun _ _ _ h => h) (Or.inl ⟨by rfl, ?_⟩) (by assumption) ?_
            rotate_left
            focus (intro wS hSw; (try dsimp only at hSw); go_simp; (try with_reducible rfl))
            try simp only [Act.put, List.getElem_toArray, List.getElem_cons_zero, List.getElem_cons_succ, List.setIfInBounds_toArray, List.set_cons_zero, List.set_cons_succ]
            refine wpAnyH_take (i := 13) (oi := _) (v := ?_) rfl (by kernel_rfl) (by kernel_rfl) (by kernel_rfl) (fun _ _ _ h => h) (Or.inl ⟨by rfl, ?_⟩) (by assumption) ?_
            rotate_left
            focus (intro wS hSw; (try dsimp only at hSw); go_simp; (try with_reducible rfl))
            try simp only [Act.put, List.getElem_toArray, List.getElem_cons_zero, List.getElem_cons_succ, List.setIfInBounds_toArray, List.set_cons_zero, List.set_cons_succ]
            refine wpAnyH_take (i := 14) (oi := _) (v := ?_) rfl (by kernel_rfl) (by kernel_rfl) (by kernel_rfl) (fun _ _ _ h => h) (Or.inl ⟨by rfl, ?_⟩) (by assumption) ?_
            rotate_left
            focus (intro wS hSw; (try dsimp only at hSw); go_simp; (try with_reducible rfl))
            try simp only [Act.put, List.getElem_toArray, List.getElem_cons_zero, List.getElem_cons_succ, List.setIfInBounds_toArray, List.set_cons_zero, List.set_cons_succ]
            refine wpAnyH_take (i := 15) (oi := _) (v := ?_) rfl (by kernel_rfl) (by kernel_rfl) (by kernel_rfl) (fun _ _ _ h => h) (Or.inl ⟨by rfl, ?_⟩) (by assumption) ?_
            rotate_left
            focus (intro wS hSw; (try dsimp only at hSw); go_simp; (try with_reducible rfl))
            try simp only [Act.put, List.getElem_toArray, List.getElem_cons_zero, List.getElem_cons_succ, List.setIfInBounds_toArray, List.set_cons_zero, List.set_cons_succ]
            refine wpAnyH_take (i := 16) (oi := _) (v := ?_) rfl (by kernel_rfl) (by kernel_rfl) (by kernel_rfl) (fun _ _ _ h => h) (Or.inl ⟨by rfl, ?_⟩) (by assumption) ?_
            rotate_left
            focus (intro wS hSw; (try dsimp only at hSw); go_simp; (try with_reducible rfl))
            try simp only [Act.put, List.getElem_toArray, List.getElem_cons_zero, List.getElem_cons_succ, List.setIfInBounds_toArray, List.set_cons_zero, List.set_cons_succ]
            refine wpAnyH_take (i := 17) (oi := _) (v := ?_) rfl (by kernel_rfl) (by kernel_rfl) (by kernel_rfl) (fun _ _ _ h => h) (Or.inl ⟨by rfl, ?_⟩) (by assumption) ?_
            rotate_left
            focus (intro wS hSw; (try dsimp only at hSw); go_simp; (try with_reducible rfl))
            try simp only [Act.put, List.getElem_toArray, List.getElem_cons_zero, List.getElem_cons_succ, List.setIfInBounds_toArray, List.set_cons_zero, List.set_cons_succ]
            refine wpAnyH_take (i := 18) (oi := _) (v := ?_) rfl (by kernel_rfl) (by kernel_rfl) (by kernel_rfl) (fun _ _ _ h => h) (Or.inl ⟨by rfl, ?_⟩) (by assumption) ?_
            rotate_left
            focus (intro wS hSw; (try dsimp only at hSw); go_simp; (try with_reducible rfl))
            try simp only [Act.put, List.getElem_toArray, List.getElem_cons_zero, List.getElem_cons_succ, List.setIfInBounds_toArray, List.set_cons_zero, List.set_cons_succ]
            refine wpAnyH_take (i := 19) (oi := _) (v := ?_) rfl (by kernel_rfl) (by kernel_rfl) (by kernel_rfl) (fun _ _ _ h => h) (Or.inl ⟨by rfl, ?_⟩) (by assumption) ?_
            rotate_left
            focus (intro wS hSw; (try dsimp only at hSw); go_simp; (try with_reducible rfl))
            try simp only [Act.put, List.getElem_toArray, List.getElem_cons_zero, List.getElem_cons_succ, List.setIfInBounds_toArray, List.set_cons_zero, List.set_cons_succ]
            refine wpAnyH_take (i := 20) (oi := _) (v := ?_) rfl (by kernel_rfl) (by kernel_rfl) (by kernel_rfl) (fun _ _ _ h => h) (Or.inl ⟨by rfl, ?_⟩) (by assumption) ?_
            rotate_left
            focus (intro wS hSw; (try dsimp only at hSw); go_simp; (try with_reducible rfl))
            try simp only [Act.put, List.getElem_toArray, List.getElem_cons_zero, List.getElem_cons_succ, List.setIfInBounds_toArray, List.set_cons_zero, List.set_cons_succ]
            refine wpAnyH_take (i := 21) (oi := _) (v := ?_) rfl (by kernel_rfl) (by kernel_rfl) (by kernel_rfl) (fun _ _ _ h => h) (Or.inl ⟨by rfl, ?_⟩) (by assumption) ?_
            rotate_left
            focus (intro wS hSw; (try dsimp only at hSw); go_simp; (try with_reducible rfl))
            try simp only [Act.put, List.getElem_toArray, List.getElem_cons_zero, List.getElem_cons_succ, List.setIfInBounds_toArray, List.set_cons_zero, List.set_cons_succ]
            refine wpAnyH_take (i := 22) (oi := _) (v := ?_) rfl (by kernel_rfl) (by kernel_rfl) (by kernel_rfl) (fun _ _ _ h => h) (Or.inl ⟨by rfl, ?_⟩) (by assumption) ?_
            rotate_left
            focus (intro wS hSw; (try dsimp only at hSw); go_simp; (try with_reducible rfl))
            try simp only [Act.put, List.getElem_toArray, List.getElem_cons_zero, List.getElem_cons_succ, List.setIfInBounds_toArray, List.set_cons_zero, List.set_cons_succ]
            refine wpAnyH_take (i := 23) (oi := _) (v := ?_) rfl (by kernel_rfl) (by kernel_rfl) (by kernel_rfl) (fun _ _ _ h => h) (Or.inl ⟨by rfl, ?_⟩) (by assumption) ?_
            rotate_left
            focus (intro wS hSw; (try dsimp only at hSw); go_simp; (try with_reducible rfl))
            try simp only [Act.put, List.getElem_toArray, List.getElem_cons_zero, List.getElem_cons_succ, List.setIfInBounds_toArray, List.set_cons_zero, List.set_cons_succ]
            refine wpAnyH_take (i := 24) (oi := _) (v := ?_) rfl (by kernel_rfl) (by kernel_rfl) (by kernel_rfl) (fun _ _ _ h => h) (Or.inl ⟨by rfl, ?_⟩) (by assumption) ?_
            rotate_left
            focus (intro wS hSw; (try dsimp only at hSw); go_simp; (try with_reducible rfl))
            try simp only [Act.put, List.getElem_toArray, List.getElem_cons_zero, List.getElem_cons_succ, List.setIfInBounds_toArray, List.set_cons_zero, List.set_cons_succ]
            refine wpAnyH_take (i := 25) (oi := _) (v := ?_) rfl (by kernel_rfl) (by kernel_rfl) (by kernel_rfl) (fun _ _ _ h => h) (Or.inl ⟨by rfl, ?_⟩) (by assumption) ?_
            rotate_left
            focus (intro wS hSw; (try dsimp only at hSw); go_simp; (try with_reducible rfl))
            try simp only [Act.put, List.getElem_toArray, List.getElem_cons_zero, List.getElem_cons_succ, List.setIfInBounds_toArray, List.set_cons_zero, List.set_cons_succ]
            refine wpAnyH_take (i := 26) (oi := _) (v := ?_) rfl (by kernel_rfl) (by kernel_rfl) (by kernel_rfl) (fun _ _ _ h => h) (Or.inl ⟨by rfl, ?_⟩) (by assumption) ?_
            rotate_left
            focus (intro wS hSw; (try dsimp only at hSw); go_simp; (try with_reducible rfl))
            try simp only [Act.put, List.getElem_toArray, List.getElem_cons_zero, List.getElem_cons_succ, List.setIfInBounds_toArray, List.set_cons_zero, List.set_cons_succ]
            refine wpAnyH_done (by kernel_rfl) ?_ _
            try clear hHeld
            clear tq tr tm tk tM wq1 wq2 wq3 wq4 wq5 wq6
            go_wp2_with fail
            go_roundw
            case rel => exact ⟨j + 1, by omega, by go_num, H151.out⟩
            case measure => first | (simp [intOf]; omega) | (simp [intOf]; done)
          · skip
            have hjn' : ¬ ((j : Int) < ps4.length) := by omega
            have z153 := H146.out.cell 8 rfl 0 rfl
            have z154 := H146.out.cell 8 rfl 1 rfl
            have z155 := H146.out.cell 8 rfl 2 rfl
            have z156 := H146.out.cell 8 rfl 3 rfl
            go_wp2_with fail
            clear z153 z154 z155 z156
            refine (sane9 _).mono ?_
            rintro e w157 ⟨rfl, hb⟩
            have H158 := hid (H146.out.call hb)
            clear hb
            go_wp2_with fail
            go_ret
            exact ⟨rfl, by first | exact H158.out.below | exact H158.out.below'⟩
end Go.Proofs.Ytkpdahjddjdgcaa
