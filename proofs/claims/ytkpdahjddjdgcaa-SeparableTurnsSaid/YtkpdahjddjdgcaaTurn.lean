/-
  Contract: a plane turned at its diagonal.
-/
import Derived.Test.YtkpdahjddjdgcaaSpTurn
import Derived.Test.YtkpdahjddjdgcaaKA
namespace Go.Proofs.Ytkpdahjddjdgcaa
open Go.RowKit
attribute [local go_sem ↓] Go.wp_at_zero Go.wp_at_succ
set_option linter.unusedVariables false
set_option linter.unusedSimpArgs false

def TurnPost (nw nh : Nat) (mx : Int) (zs : List Int) (W : World) (e : Ending) (w' : World) : Prop :=
  ∃ v ql, e = .returned (.agg #[.int .i64 nh, .int .i64 nw, .int .i64 mx, v]) ∧ Turned nw nh zs ql ∧ Own W.heap.size w' v ql ∧ Below W.heap.size W w'
set_option maxRecDepth 100000 in
set_option maxHeartbeats 3200000 in
theorem turn_any (nw nh : Nat) (mx : Int) (a : Option Addr) (n c : Nat) (zs : List Int) (W : World) (hs : Slc W a n c zs) (hl : zs.length = nh * nw) (hw : 1 ≤ nw ∧ nw ≤ 128) (hh : 1 ≤ nh ∧ nh ≤ 128) :
    Calls Try.prog 40 #[.agg #[.int .i64 nw, .int .i64 nh, .int .i64 mx, .slice a n c]] W (TurnPost nw nh mx zs W) := by
  obtain ⟨B, hB⟩ : ∃ B, W.heap.size = B := ⟨_, rfl⟩
  have HI0 := hid (St.init hB)
  have HL := hid hs.len
  have HLP := hid hl
  obtain ⟨hw1, hw2⟩ := hw
  obtain ⟨hh1, hh2⟩ := hh
  have hnn := Nat.mul_le_mul hh2 hw2
  have hn1 := Nat.mul_le_mul hh1 hw1
  obtain ⟨hn2, hn3⟩ : n ≤ nh * nw ∧ nh * nw ≤ n := by have := hs.len; omega
  obtain ⟨pb, po, hpa⟩ := row_at hs.row (by omega)
  subst hpa
  have HS := hid hs
  clear hs hl
  go_enter Try.func40, Try.ntmps40
  go_upto_region 1 with fail
  have H1 := hid (show St B W [.cells (B + 1) #[.int .i64 0, .int .i64 0, .int .i64 0, .slice none 0 0] 35, .cells B #[.int .i64 nw, .int .i64 nh, .int .i64 mx, .slice (some ⟨pb, po, none⟩) n c] 35] [] ((W.alloc (.cells #[.int .i64 nw, .int .i64 nh, .int .i64 mx, .slice (some ⟨pb, po, none⟩) n c] 35)).alloc (.cells #[.int .i64 0, .int .i64 0, .int .i64 0, .slice none 0 0] 35)) from ((HI0.out.alloc #[.int .i64 nw, .int .i64 nh, .int .i64 mx, .slice (some ⟨pb, po, none⟩) n c] 35 hB).alloc #[.int .i64 0, .int .i64 0, .int .i64 0, .slice none 0 0] 35 (by first | exact hB | simp [hB])))
  first | refine gen_code H1.out ?_ | refine gen_list H1.out ?_ | refine gen_calls H1.out ?_
  intro w2 hG
  clear H1
  have H1 := hid hG
  clear hG
  have H3 := hid H1.out.drew
  refine wp_region_held_drew (S := (fun w' => w'.cell? ⟨B, 0, none⟩ = some (.int .i64 nw) ∧ w'.cell? ⟨B, 1, none⟩ = some (.int .i64 nh) ∧ w'.cell? ⟨B, 2, none⟩ = some (.int .i64 mx) ∧ w'.cell? ⟨B, 3, none⟩ = some (.slice (some ⟨pb, po, none⟩) n c))) (by kernel_rfl) ⟨H3.out.cell 1 rfl 0 rfl, H3.out.cell 1 rfl 1 rfl, H3.out.cell 1 rfl 2 rfl, H3.out.cell 1 rfl 3 rfl⟩ (fun hHeld => ?_)
  generalize w2.drew = k4 at *
  refine wpAnyH_take (i := 0) (oi := _) (v := ?_) rfl (by kernel_rfl) (by kernel_rfl) (by kernel_rfl) (fun _ _ _ h => h) (Or.inl ⟨by rfl, ?_⟩) (by assumption) ?_
  rotate_left
  focus (intro wS hSw; (try dsimp only at hSw); go_simp; (try with_reducible rfl))
  try simp only [Act.put, List.getElem_toArray, List.getElem_cons_zero, List.getElem_cons_succ, List.setIfInBounds_toArray, List.set_cons_zero, List.set_cons_succ]
  refine wpAnyH_take (i := 1) (oi := _) (v := ?_) rfl (by kernel_rfl) (by kernel_rfl) (by kernel_rfl) (fun _ _ _ h => h) (Or.inl ⟨by rfl, ?_⟩) (by assumption) ?_
  rotate_left
  focus (intro wS hSw; (try dsimp only at hSw); go_simp; (try with_reducible rfl))
  try simp only [Act.put, List.getElem_toArray, List.getElem_cons_zero, List.getElem_cons_succ, List.setIfInBounds_toArray, List.set_cons_zero, List.set_cons_succ]
  refine wpAnyH_take (i := 2) (oi := _) (v := ?_) rfl (by kernel_rfl) (by kernel_rfl) (by kernel_rfl) (fun _ _ _ h => h) (Or.inl ⟨by rfl, ?_⟩) (by assumption) ?_
  rotate_left
  focus (intro wS hSw; (try dsimp only at hSw); go_simp; (try with_reducible rfl))
  try simp only [Act.put, List.getElem_toArray, List.getElem_cons_zero, List.getElem_cons_succ, List.setIfInBounds_toArray, List.set_cons_zero, List.set_cons_succ]
  refine wpAnyH_take (i := 3) (oi := _) (v := ?_) rfl (by kernel_rfl) (by kernel_rfl) (by kernel_rfl) (fun _ _ _ h => h) (Or.inl ⟨by rfl, ?_⟩) (by assumption) ?_
  rotate_left
  focus (intro wS hSw; (try dsimp only at hSw); go_simp; (try with_reducible rfl))
  try simp only [Act.put, List.getElem_toArray, List.getElem_cons_zero, List.getElem_cons_succ, List.setIfInBounds_toArray, List.set_cons_zero, List.set_cons_succ]
  refine wpAnyH_take (i := 4) (oi := _) (v := ?_) rfl (by kernel_rfl) (by kernel_rfl) (by kernel_rfl) (fun _ _ _ h => h) (Or.inl ⟨by rfl, ?_⟩) (by assumption) ?_
  rotate_left
  focus (intro wS hSw; (try dsimp only at hSw); go_simp; (try with_reducible rfl))
  try simp only [Act.put, List.getElem_toArray, List.getElem_cons_zero, List.getElem_cons_succ, List.setIfInBounds_toArray, List.set_cons_zero, List.set_cons_succ]
  refine wpAnyH_take (i := 5) (oi := _) (v := ?_) rfl (by kernel_rfl) (by kernel_rfl) (by kernel_rfl) (fun _ _ _ h => h) (Or.inl ⟨by rfl, ?_⟩) (by assumption) ?_
  rotate_left
  focus (intro wS hSw; (try dsimp only at hSw); go_simp; (try with_reducible rfl))
  try simp only [Act.put, List.getElem_toArray, List.getElem_cons_zero, List.getElem_cons_succ, List.setIfInBounds_toArray, List.set_cons_zero, List.set_cons_succ]
  refine wpAnyH_take (i := 6) (oi := _) (v := ?_) rfl (by kernel_rfl) (by kernel_rfl) (by kernel_rfl) (fun _ _ _ h => h) (Or.inl ⟨by rfl, ?_⟩) (by assumption) ?_
  rotate_left
  focus (intro wS hSw; (try dsimp only at hSw); go_simp; (try with_reducible rfl))
  try simp only [Act.put, List.getElem_toArray, List.getElem_cons_zero, List.getElem_cons_succ, List.setIfInBounds_toArray, List.set_cons_zero, List.set_cons_succ]
  refine wpAnyH_take (i := 7) (oi := _) (v := ?_) rfl (by kernel_rfl) (by kernel_rfl) (by kernel_rfl) (fun _ _ _ h => h) (Or.inl ⟨by rfl, ?_⟩) (by assumption) ?_
  rotate_left
  focus (intro wS hSw; (try dsimp only at hSw); go_simp; (try with_reducible rfl))
  try simp only [Act.put, List.getElem_toArray, List.getElem_cons_zero, List.getElem_cons_succ, List.setIfInBounds_toArray, List.set_cons_zero, List.set_cons_succ]
  refine wpAnyH_take (i := 8) (oi := _) (v := ?_) rfl (by kernel_rfl) (by kernel_rfl) (by kernel_rfl) (fun _ _ _ h => h) (Or.inl ⟨by rfl, ?_⟩) (by assumption) ?_
  rotate_left
  focus (intro wS hSw; (try dsimp only at hSw); go_simp; (try with_reducible rfl))
  try simp only [Act.put, List.getElem_toArray, List.getElem_cons_zero, List.getElem_cons_succ, List.setIfInBounds_toArray, List.set_cons_zero, List.set_cons_succ]
  refine wpAnyH_ready (rs := [9, 11]) (by kernel_rfl) (by simp) (AllReadyH.cons (o := _) rfl (fun K hK => ?_) (AllReadyH.cons (o := _) rfl (fun K hK => ?_) AllReadyH.nil))
  · skip
    obtain ⟨DT, hDT⟩ : ∃ L, k4.heap.size = L := ⟨_, rfl⟩
    have hBDT : B ≤ DT := by have := H3.out.size; omega
    rw [if_pos (by rfl)]
    refine oper_make_int _ _ rfl DT _ _ n rfl rfl (by rfl) (by rfl) (by omega) (by omega) ?_
    intro k5 ho hb
    rw [hDT] at ho ⊢
    have H6 := hid (H3.out.made hDT ho hb)
    clear ho hb hDT hBDT
    refine hK.out _ _ ?_ (fun hHeld2 => ?_)
    focus ((try dsimp only); (exact ⟨H6.out.cell 2 rfl 0 rfl, H6.out.cell 2 rfl 1 rfl, H6.out.cell 2 rfl 2 rfl, H6.out.cell 2 rfl 3 rfl⟩))
    clear hK K
    try simp only [Act.put, List.getElem_toArray, List.getElem_cons_zero, List.getElem_cons_succ, List.setIfInBounds_toArray, List.set_cons_zero, List.set_cons_succ]
    clear hHeld
    have hHeld := hHeld2
    clear hHeld2
    refine wpAnyH_take (i := 10) (oi := _) (v := ?_) rfl (by kernel_rfl) (by kernel_rfl) (by kernel_rfl) (fun _ _ _ h => h) (Or.inl ⟨by rfl, ?_⟩) (by assumption) ?_
    rotate_left
    focus (intro wS hSw; (try dsimp only at hSw); go_simp; (try with_reducible rfl))
    try simp only [Act.put, List.getElem_toArray, List.getElem_cons_zero, List.getElem_cons_succ, List.setIfInBounds_toArray, List.set_cons_zero, List.set_cons_succ]
    refine wpAnyH_ready (rs := [11]) (by kernel_rfl) (by simp) (AllReadyH.cons (o := _) rfl (fun K hK => ?_) AllReadyH.nil)
    obtain ⟨D7, hD7⟩ : ∃ D, k5.heap.size = D := ⟨_, rfl⟩
    have H8 := hid (H6.out.alloc #[.int .i64 0, .int .i64 0, .int .i64 0, .slice none 0 0] 35 hD7)
    go_simp
    refine hK.out _ _ ?_ (fun hHeld2 => ?_)
    focus ((try dsimp only); (exact ⟨H8.out.cell 3 rfl 0 rfl, H8.out.cell 3 rfl 1 rfl, H8.out.cell 3 rfl 2 rfl, H8.out.cell 3 rfl 3 rfl⟩))
    clear hK K hHeld
    try simp only [Act.put, List.getElem_toArray, List.getElem_cons_zero, List.getElem_cons_succ, List.setIfInBounds_toArray, List.set_cons_zero, List.set_cons_succ]
    clear hD7
    generalize (k5.alloc (.cells #[.int .i64 0, .int .i64 0, .int .i64 0, .slice none 0 0] 35)) = k9 at *
    have hHeld := hHeld2
    clear hHeld2
    refine wpAnyH_ready (rs := [12]) (by kernel_rfl) (by simp) (AllReadyH.cons (o := _) rfl (fun K hK => ?_) AllReadyH.nil)
    have z10 := H8.out.cell 0 rfl 0 rfl
    have z11 := H8.out.free 0 rfl 0
    have z12 := H8.out.cell 0 rfl 1 rfl
    have z13 := H8.out.free 0 rfl 1
    have z14 := H8.out.cell 0 rfl 2 rfl
    have z15 := H8.out.free 0 rfl 2
    have z16 := H8.out.cell 0 rfl 3 rfl
    have z17 := H8.out.free 0 rfl 3
    have H18 := hid (show St B W [.cells D7 #[.int .i64 nh, .int .i64 nw, .int .i64 mx, .slice (some ⟨DT, 0, none⟩) n n] 35, .own (.slice (some ⟨DT, 0, none⟩) n n) (List.replicate n 0), .cells (B + 1) #[.int .i64 0, .int .i64 0, .int .i64 0, .slice none 0 0] 35, .cells B #[.int .i64 nw, .int .i64 nh, .int .i64 mx, .slice (some ⟨pb, po, none⟩) n c] 35] [] ((((k9.setCell ⟨D7, 0, none⟩ (.int .i64 nh)).setCell ⟨D7, 1, none⟩ (.int .i64 nw)).setCell ⟨D7, 2, none⟩ (.int .i64 mx)).setCell ⟨D7, 3, none⟩ (.slice (some ⟨DT, 0, none⟩) n n)) from (H8.out.set4 0 rfl (.int .i64 nh) (.int .i64 nw) (.int .i64 mx) (.slice (some ⟨DT, 0, none⟩) n n)))
    go_simp
    refine hK.out _ _ ?_ (fun hHeld2 => ?_)
    focus ((try dsimp only); (exact ⟨H18.out.cell 3 rfl 0 rfl, H18.out.cell 3 rfl 1 rfl, H18.out.cell 3 rfl 2 rfl, H18.out.cell 3 rfl 3 rfl⟩))
    clear hK K hHeld
    try simp only [Act.put, List.getElem_toArray, List.getElem_cons_zero, List.getElem_cons_succ, List.setIfInBounds_toArray, List.set_cons_zero, List.set_cons_succ]
    clear z10 z11 z12 z13 z14 z15 z16 z17
    generalize ((((k9.setCell ⟨D7, 0, none⟩ (.int .i64 nh)).setCell ⟨D7, 1, none⟩ (.int .i64 nw)).setCell ⟨D7, 2, none⟩ (.int .i64 mx)).setCell ⟨D7, 3, none⟩ (.slice (some ⟨DT, 0, none⟩) n n)) = k19 at *
    have hHeld := hHeld2
    clear hHeld2
    refine wpAnyH_done (by kernel_rfl) ?_ _
    try clear hHeld
    go_wp2_with fail
    go_loopw [4] (fun i wr => ∃ (j : Nat) (ql : List Int), j ≤ n ∧ TurnTo nw nh zs ql j ∧ i = .int .i64 j ∧ St B W [.cells D7 #[.int .i64 nh, .int .i64 nw, .int .i64 mx, .slice (some ⟨DT, 0, none⟩) n n] 35, .own (.slice (some ⟨DT, 0, none⟩) n n) ql, .cells (B + 1) #[.int .i64 0, .int .i64 0, .int .i64 0, .slice none 0 0] 35, .cells B #[.int .i64 nw, .int .i64 nh, .int .i64 mx, .slice (some ⟨pb, po, none⟩) n c] 35] [] wr) (fun i _ => n - (intOf i).toNat)
    case atStart => exact ⟨0, _, by omega, ⟨by rw [List.length_replicate, HL.out], fun i hi => by omega⟩, rfl, H18.out⟩
    case round =>
      obtain ⟨j, ql, hj, hmo, rfl, hst⟩ := hrel
      obtain ⟨u20, rfl⟩ : ∃ u20 : World, u20 = wr := ⟨_, rfl⟩
      have H21 := hid hst
      clear hst
      have HMO := hid hmo
      clear hmo
      by_cases hjn : j < n
      · skip
        have hjn' : (j : Int) < n := by omega
        have z22 := H21.out.cell 3 rfl 0 rfl
        have z23 := H21.out.cell 3 rfl 1 rfl
        have z24 := H21.out.cell 3 rfl 2 rfl
        have z25 := H21.out.cell 3 rfl 3 rfl
        go_upto_region 5 with fail
        clear z22 z23 z24 z25
        obtain ⟨jq, hjq⟩ : ∃ xx' : Nat, j / nw = xx' := ⟨_, rfl⟩
        obtain ⟨jr, hjr⟩ : ∃ xx' : Nat, j % nw = xx' := ⟨_, rfl⟩
        obtain ⟨KN, hKN⟩ : ∃ xx' : Nat, jr * nh = xx' := ⟨_, rfl⟩
        obtain ⟨MJ, hMJ⟩ : ∃ xx' : Nat, KN + jq = xx' := ⟨_, rfl⟩
        have HMV := hid (show tvI nw nh j = MJ from by unfold tvI; rw [hjq, hjr, hKN, hMJ])
        have hml : MJ < n := by have h1 := tvI_lt (nw := nw) (nh := nh) (i := j) (by omega); rw [HMV.out, Nat.mul_comm] at h1; omega
        have jq1 : jq ≤ j := by rw [← hjq]; exact Nat.div_le_self _ _
        have jr1 : jr < nw := by rw [← hjr]; exact Nat.mod_lt _ (by omega)
        have tq : Int.tdiv (j : Int) (nw : Int) = jq := by rw [← hjq, Int.tdiv_eq_ediv_of_nonneg (by omega)]; simp
        have tr : Int.tmod (j : Int) (nw : Int) = jr := by rw [← hjr, Int.tmod_eq_emod_of_nonneg (by omega)]; simp
        have tk : (jr : Int) * (nh : Int) = (KN : Int) := by rw [← hKN]; simp
        have tM : (KN : Int) + (jq : Int) = (MJ : Int) := by omega
        have kn0 : ¬ ((nw : Int) = 0) := by omega
        have kn1 : ¬ (nw = 0) := by omega
        have kn4 : KN ≤ MJ := by omega
        have wq1 : IntKind.i64.wrap (jq : Int) = jq := IntWalk.i64_in _ (by omega)
        have wq2 : IntKind.i64.wrap (jr : Int) = jr := IntWalk.i64_in _ (by omega)
        have wq3 : IntKind.i64.wrap (KN : Int) = KN := IntWalk.i64_in _ (by omega)
        have wq6 : IntKind.i64.wrap (MJ : Int) = MJ := IntWalk.i64_in _ (by omega)
        clear hjq hjr hKN hMJ
        have HMN := hid (show TurnTo nw nh zs (ql.set MJ (zs.getD j 0)) (j + 1) from by rw [← HMV.out]; exact HMO.out.next HLP.out (by rw [HL.out]; exact hjn))
        obtain ⟨pz, hpz⟩ : ∃ xx', zs.getD j 0 = xx' := ⟨_, rfl⟩
        have HPZ := hid hpz
        clear hpz
        have hml2 : (MJ : Int) < n := by omega
        have H26 := hid H21.out.drew
        refine wp_region_held_drew (S := (fun w' => w'.cell? ⟨D7, 0, none⟩ = some (.int .i64 nh) ∧ w'.cell? ⟨D7, 1, none⟩ = some (.int .i64 nw) ∧ w'.cell? ⟨D7, 2, none⟩ = some (.int .i64 mx) ∧ w'.cell? ⟨D7, 3, none⟩ = some (.slice (some ⟨DT, 0, none⟩) n n) ∧ w'.cell? ⟨B, 0, none⟩ = some (.int .i64 nw) ∧ w'.cell? ⟨B, 1, none⟩ = some (.int .i64 nh) ∧ w'.cell? ⟨B, 2, none⟩ = some (.int .i64 mx) ∧ w'.cell? ⟨B, 3, none⟩ = some (.slice (some ⟨pb, po, none⟩) n c) ∧ w'.cell? ⟨pb, po + j, none⟩ = some (.int .i64 pz))) (by kernel_rfl) ⟨H26.out.cell 0 rfl 0 rfl, H26.out.cell 0 rfl 1 rfl, H26.out.cell 0 rfl 2 rfl, H26.out.cell 0 rfl 3 rfl, H26.out.cell 3 rfl 0 rfl, H26.out.cell 3 rfl 1 rfl, H26.out.cell 3 rfl 2 rfl, H26.out.cell 3 rfl 3 rfl, (by have := row_cell (H26.out.old HS.out).row (j := j) hjn; rw [HPZ.out] at this; exact this)⟩ (fun hHeld => ?_)
        generalize u20.drew = k27 at *
        refine wpAnyH_take (i := 0) (oi := _) (v := ?_) rfl (by kernel_rfl) (by kernel_rfl) (by kernel_rfl) (fun _ _ _ h => h) (Or.inl ⟨by rfl, ?_⟩) (by assumption) ?_
        rotate_left
        focus (intro wS hSw; (try dsimp only at hSw); go_simp; (try with_reducible rfl))
        try simp only [Act.put, List.getElem_toArray, List.getElem_cons_zero, List.getElem_cons_succ, List.setIfInBounds_toArray, List.set_cons_zero, List.set_cons_succ]
        refine wpAnyH_take (i := 1) (oi := _) (v := ?_) rfl (by kernel_rfl) (by kernel_rfl) (by kernel_rfl) (fun _ _ _ h => h) (Or.inl ⟨by rfl, ?_⟩) (by assumption) ?_
        rotate_left
        focus (intro wS hSw; (try dsimp only at hSw); go_simp; (try with_reducible rfl))
        try simp only [Act.put, List.getElem_toArray, List.getElem_cons_zero, List.getElem_cons_succ, List.setIfInBounds_toArray, List.set_cons_zero, List.set_cons_succ]
        refine wpAnyH_take (i := 2) (oi := _) (v := ?_) rfl (by kernel_rfl) (by kernel_rfl) (by kernel_rfl) (fun _ _ _ h => h) (Or.inl ⟨by rfl, ?_⟩) (by assumption) ?_
        rotate_left
        focus (intro wS hSw; (try dsimp only at hSw); go_simp; (try with_reducible rfl))
        try simp only [Act.put, List.getElem_toArray, List.getElem_cons_zero, List.getElem_cons_succ, List.setIfInBounds_toArray, List.set_cons_zero, List.set_cons_succ]
        refine wpAnyH_take (i := 3) (oi := _) (v := ?_) rfl (by kernel_rfl) (by kernel_rfl) (by kernel_rfl) (fun _ _ _ h => h) (Or.inl ⟨by rfl, ?_⟩) (by assumption) ?_
        rotate_left
        focus (intro wS hSw; (try dsimp only at hSw); go_simp; (try with_reducible rfl))
        try simp only [Act.put, List.getElem_toArray, List.getElem_cons_zero, List.getElem_cons_succ, List.setIfInBounds_toArray, List.set_cons_zero, List.set_cons_succ]
        refine wpAnyH_take (i := 4) (oi := _) (v := ?_) rfl (by kernel_rfl) (by kernel_rfl) (by kernel_rfl) (fun _ _ _ h => h) (Or.inl ⟨by rfl, ?_⟩) (by assumption) ?_
        rotate_left
        focus (intro wS hSw; (try dsimp only at hSw); go_simp; (try with_reducible rfl))
        try simp only [Act.put, List.getElem_toArray, List.getElem_cons_zero, List.getElem_cons_succ, List.setIfInBounds_toArray, List.set_cons_zero, List.set_cons_succ]
        refine wpAnyH_take (i := 5) (oi := _) (v := ?_) rfl (by kernel_rfl) (by kernel_rfl) (by kernel_rfl) (fun _ _ _ h => h) (Or.inl ⟨by rfl, ?_⟩) (by assumption) ?_
        rotate_left
        focus (intro wS hSw; (try dsimp only at hSw); go_simp; (try with_reducible rfl))
        try simp only [Act.put, List.getElem_toArray, List.getElem_cons_zero, List.getElem_cons_succ, List.setIfInBounds_toArray, List.set_cons_zero, List.set_cons_succ]
        refine wpAnyH_take (i := 6) (oi := _) (v := ?_) rfl (by kernel_rfl) (by kernel_rfl) (by kernel_rfl) (fun _ _ _ h => h) (Or.inl ⟨by rfl, ?_⟩) (by assumption) ?_
        rotate_left
        focus (intro wS hSw; (try dsimp only at hSw); go_simp; (try with_reducible rfl))
        try simp only [Act.put, List.getElem_toArray, List.getElem_cons_zero, List.getElem_cons_succ, List.setIfInBounds_toArray, List.set_cons_zero, List.set_cons_succ]
        refine wpAnyH_take (i := 7) (oi := _) (v := ?_) rfl (by kernel_rfl) (by kernel_rfl) (by kernel_rfl) (fun _ _ _ h => h) (Or.inl ⟨by rfl, ?_⟩) (by assumption) ?_
        rotate_left
        focus (intro wS hSw; (try dsimp only at hSw); go_simp; (try with_reducible rfl))
        try simp only [Act.put, List.getElem_toArray, List.getElem_cons_zero, List.getElem_cons_succ, List.setIfInBounds_toArray, List.set_cons_zero, List.set_cons_succ]
        refine wpAnyH_take (i := 8) (oi := _) (v := ?_) rfl (by kernel_rfl) (by kernel_rfl) (by kernel_rfl) (fun _ _ _ h => h) (Or.inl ⟨by rfl, ?_⟩) (by assumption) ?_
        rotate_left
        focus (intro wS hSw; (try dsimp only at hSw); go_simp; (try with_reducible rfl))
        try simp only [Act.put, List.getElem_toArray, List.getElem_cons_zero, List.getElem_cons_succ, List.setIfInBounds_toArray, List.set_cons_zero, List.set_cons_succ]
        refine wpAnyH_take (i := 9) (oi := _) (v := ?_) rfl (by kernel_rfl) (by kernel_rfl) (by kernel_rfl) (fun _ _ _ h => h) (Or.inl ⟨by rfl, ?_⟩) (by assumption) ?_
        rotate_left
        focus (intro wS hSw; (try dsimp only at hSw); go_simp; (try with_reducible rfl))
        try simp only [Act.put, List.getElem_toArray, List.getElem_cons_zero, List.getElem_cons_succ, List.setIfInBounds_toArray, List.set_cons_zero, List.set_cons_succ]
        refine wpAnyH_take (i := 10) (oi := _) (v := ?_) rfl (by kernel_rfl) (by kernel_rfl) (by kernel_rfl) (fun _ _ _ h => h) (Or.inl ⟨by rfl, ?_⟩) (by assumption) ?_
        rotate_left
        focus (intro wS hSw; (try dsimp only at hSw); go_simp; (try with_reducible rfl))
        try simp only [Act.put, List.getElem_toArray, List.getElem_cons_zero, List.getElem_cons_succ, List.setIfInBounds_toArray, List.set_cons_zero, List.set_cons_succ]
        refine wpAnyH_take (i := 11) (oi := _) (v := ?_) rfl (by kernel_rfl) (by kernel_rfl) (by kernel_rfl) (fun _ _ _ h => h) (Or.inl ⟨by rfl, ?_⟩) (by assumption) ?_
        rotate_left
        focus (intro wS hSw; (try dsimp only at hSw); go_simp; (try with_reducible rfl))
        try simp only [Act.put, List.getElem_toArray, List.getElem_cons_zero, List.getElem_cons_succ, List.setIfInBounds_toArray, List.set_cons_zero, List.set_cons_succ]
        refine wpAnyH_take (i := 12) (oi := _) (v := ?_) rfl (by kernel_rfl) (by kernel_rfl) (by kernel_rfl) (fun _ _ _ h => h) (Or.inl ⟨by rfl, ?_⟩) (by assumption) ?_
        rotate_left
        focus (intro wS hSw; (try dsimp only at hSw); go_simp; (try with_reducible rfl))
        try simp only [Act.put, List.getElem_toArray, List.getElem_cons_zero, List.getElem_cons_succ, List.setIfInBounds_toArray, List.set_cons_zero, List.set_cons_succ]
        refine wpAnyH_take (i := 13) (oi := _) (v := ?_) rfl (by kernel_rfl) (by kernel_rfl) (by kernel_rfl) (fun _ _ _ h => h) (Or.inl ⟨by rfl, ?_⟩) (by assumption) ?_
        rotate_left
        focus (intro wS hSw; (try dsimp only at hSw); go_simp; (try with_reducible rfl))
        try simp only [Act.put, List.getElem_toArray, List.getElem_cons_zero, List.getElem_cons_succ, List.setIfInBounds_toArray, List.set_cons_zero, List.set_cons_succ]
        refine wpAnyH_take (i := 14) (oi := _) (v := ?_) rfl (by kernel_rfl) (by kernel_rfl) (by kernel_rfl) (fun _ _ _ h => h) (Or.inl ⟨by rfl, ?_⟩) (by assumption) ?_
        rotate_left
        focus (intro wS hSw; (try dsimp only at hSw); go_simp; (try with_reducible rfl))
        try simp only [Act.put, List.getElem_toArray, List.getElem_cons_zero, List.getElem_cons_succ, List.setIfInBounds_toArray, List.set_cons_zero, List.set_cons_succ]
        refine wpAnyH_take (i := 15) (oi := _) (v := ?_) rfl (by kernel_rfl) (by kernel_rfl) (by kernel_rfl) (fun _ _ _ h => h) (Or.inl ⟨by rfl, ?_⟩) (by assumption) ?_
        rotate_left
        focus (intro wS hSw; (try dsimp only at hSw); go_simp; (try with_reducible rfl))
        try simp only [Act.put, List.getElem_toArray, List.getElem_cons_zero, List.getElem_cons_succ, List.setIfInBounds_toArray, List.set_cons_zero, List.set_cons_succ]
        refine wpAnyH_take (i := 16) (oi := _) (v := ?_) rfl (by kernel_rfl) (by kernel_rfl) (by kernel_rfl) (fun _ _ _ h => h) (Or.inl ⟨by rfl, ?_⟩) (by assumption) ?_
        rotate_left
        focus (intro wS hSw; (try dsimp only at hSw); go_simp; (try with_reducible rfl))
        try simp only [Act.put, List.getElem_toArray, List.getElem_cons_zero, List.getElem_cons_succ, List.setIfInBounds_toArray, List.set_cons_zero, List.set_cons_succ]
        refine wpAnyH_take (i := 17) (oi := _) (v := ?_) rfl (by kernel_rfl) (by kernel_rfl) (by kernel_rfl) (fun _ _ _ h => h) (Or.inl ⟨by rfl, ?_⟩) (by assumption) ?_
        rotate_left
        focus (intro wS hSw; (try dsimp only at hSw); go_simp; (try with_reducible rfl))
        try simp only [Act.put, List.getElem_toArray, List.getElem_cons_zero, List.getElem_cons_succ, List.setIfInBounds_toArray, List.set_cons_zero, List.set_cons_succ]
        refine wpAnyH_take (i := 18) (oi := _) (v := ?_) rfl (by kernel_rfl) (by kernel_rfl) (by kernel_rfl) (fun _ _ _ h => h) (Or.inl ⟨by rfl, ?_⟩) (by assumption) ?_
        rotate_left
        focus (intro wS hSw; (try dsimp only at hSw); go_simp; (try with_reducible rfl))
        try simp only [Act.put, List.getElem_toArray, List.getElem_cons_zero, List.getElem_cons_succ, List.setIfInBounds_toArray, List.set_cons_zero, List.set_cons_succ]
        refine wpAnyH_take (i := 19) (oi := _) (v := ?_) rfl (by kernel_rfl) (by kernel_rfl) (by kernel_rfl) (fun _ _ _ h => h) (Or.inl ⟨by rfl, ?_⟩) (by assumption) ?_
        rotate_left
        focus (intro wS hSw; (try dsimp only at hSw); go_simp; (try with_reducible rfl))
        try simp only [Act.put, List.getElem_toArray, List.getElem_cons_zero, List.getElem_cons_succ, List.setIfInBounds_toArray, List.set_cons_zero, List.set_cons_succ]
        refine wpAnyH_ready (rs := [20]) (by kernel_rfl) (by simp) (AllReadyH.cons (o := _) rfl (fun K hK => ?_) AllReadyH.nil)
        obtain ⟨s28, s29⟩ := H26.out.get 1 rfl (j := MJ) (by rw [HMO.out.1, HL.out]; exact hml)
        have H30 := hid (show St B W [.cells D7 #[.int .i64 nh, .int .i64 nw, .int .i64 mx, .slice (some ⟨DT, 0, none⟩) n n] 35, .own (.slice (some ⟨DT, 0, none⟩) n n) (ql.set MJ pz), .cells (B + 1) #[.int .i64 0, .int .i64 0, .int .i64 0, .slice none 0 0] 35, .cells B #[.int .i64 nw, .int .i64 nh, .int .i64 mx, .slice (some ⟨pb, po, none⟩) n c] 35] [] (k27.setCell ⟨DT, MJ, none⟩ (.int .i64 pz)) from (H26.out.store 1 rfl MJ pz))
        go_simp
        refine hK.out _ _ ?_ (fun hHeld2 => ?_)
        focus ((try dsimp only); (exact ⟨H30.out.cell 0 rfl 0 rfl, H30.out.cell 0 rfl 1 rfl, H30.out.cell 0 rfl 2 rfl, H30.out.cell 0 rfl 3 rfl, H30.out.cell 3 rfl 0 rfl, H30.out.cell 3 rfl 1 rfl, H30.out.cell 3 rfl 2 rfl, H30.out.cell 3 rfl 3 rfl, (by have := row_cell (H30.out.old HS.out).row (j := j) hjn; rw [HPZ.out] at this; exact this)⟩))
        clear hK K hHeld
        try simp only [Act.put, List.getElem_toArray, List.getElem_cons_zero, List.getElem_cons_succ, List.setIfInBounds_toArray, List.set_cons_zero, List.set_cons_succ]
        clear s28 s29
        generalize (k27.setCell ⟨DT, MJ, none⟩ (.int .i64 pz)) = k31 at *
        have hHeld := hHeld2
        clear hHeld2
        refine wpAnyH_done (by kernel_rfl) ?_ _
        try clear hHeld
        clear tq tr tk tM wq1 wq2 wq3 wq6
        go_wp2_with fail
        go_roundw
        case rel => exact ⟨j + 1, _, by omega, HMN.out, by go_num, by rw [HPZ.out]; exact H30.out⟩
        case measure => first | (simp [intOf]; omega) | (simp [intOf]; done)
      · skip
        have hjn' : ¬ ((j : Int) < n) := by omega
        have HTU := hid (show Turned nw nh zs ql from by have := HMO.out; unfold Turned; rwa [show zs.length = j by rw [HL.out]; omega])
        have z32 := H21.out.cell 3 rfl 0 rfl
        have z33 := H21.out.cell 3 rfl 1 rfl
        have z34 := H21.out.cell 3 rfl 2 rfl
        have z35 := H21.out.cell 3 rfl 3 rfl
        have z36 := H21.out.cell 0 rfl 0 rfl
        have z37 := H21.out.cell 0 rfl 1 rfl
        have z38 := H21.out.cell 0 rfl 2 rfl
        have z39 := H21.out.cell 0 rfl 3 rfl
        have z40 := H21.out.cell 2 rfl 0 rfl
        have z41 := H21.out.free 2 rfl 0
        have z42 := H21.out.cell 2 rfl 1 rfl
        have z43 := H21.out.free 2 rfl 1
        have z44 := H21.out.cell 2 rfl 2 rfl
        have z45 := H21.out.free 2 rfl 2
        have z46 := H21.out.cell 2 rfl 3 rfl
        have z47 := H21.out.free 2 rfl 3
        go_wp2_with fail
        clear z32 z33 z34 z35 z36 z37 z38 z39 z40 z41 z42 z43 z44 z45 z46 z47
        have H48 := hid (show St B W [.cells D7 #[.int .i64 nh, .int .i64 nw, .int .i64 mx, .slice (some ⟨DT, 0, none⟩) n n] 35, .own (.slice (some ⟨DT, 0, none⟩) n n) ql, .cells (B + 1) #[.int .i64 nh, .int .i64 nw, .int .i64 mx, .slice (some ⟨DT, 0, none⟩) n n] 35, .cells B #[.int .i64 nw, .int .i64 nh, .int .i64 mx, .slice (some ⟨pb, po, none⟩) n c] 35] [] ((((u20.setCell ⟨B + 1, 0, none⟩ (.int .i64 nh)).setCell ⟨B + 1, 1, none⟩ (.int .i64 nw)).setCell ⟨B + 1, 2, none⟩ (.int .i64 mx)).setCell ⟨B + 1, 3, none⟩ (.slice (some ⟨DT, 0, none⟩) n n)) from (H21.out.set4 2 rfl (.int .i64 nh) (.int .i64 nw) (.int .i64 mx) (.slice (some ⟨DT, 0, none⟩) n n)))
        have q49 := H48.out.cell 2 rfl 0 rfl
        have q50 := H48.out.cell 2 rfl 1 rfl
        have q51 := H48.out.cell 2 rfl 2 rfl
        have q52 := H48.out.cell 2 rfl 3 rfl
        refine bodyPost_ret (v := .agg #[.int .i64 nh, .int .i64 nw, .int .i64 mx, .slice (some ⟨DT, 0, none⟩) n n]) ?_ rfl ⟨_, _, rfl, HTU.out, by (try rw [hB]); exact H48.out.own 1 rfl, by first | exact H48.out.below | exact H48.out.below'⟩
        simp [results, Try.results40, go_sem, q49, q50, q51, q52]
  · obtain ⟨D53, hD53⟩ : ∃ D, k4.heap.size = D := ⟨_, rfl⟩
    have H54 := hid (H3.out.alloc #[.int .i64 0, .int .i64 0, .int .i64 0, .slice none 0 0] 35 hD53)
    go_simp
    refine hK.out _ _ ?_ (fun hHeld2 => ?_)
    focus ((try dsimp only); (exact ⟨H54.out.cell 2 rfl 0 rfl, H54.out.cell 2 rfl 1 rfl, H54.out.cell 2 rfl 2 rfl, H54.out.cell 2 rfl 3 rfl⟩))
    clear hK K hHeld
    try simp only [Act.put, List.getElem_toArray, List.getElem_cons_zero, List.getElem_cons_succ, List.setIfInBounds_toArray, List.set_cons_zero, List.set_cons_succ]
    clear hD53
    generalize (k4.alloc (.cells #[.int .i64 0, .int .i64 0, .int .i64 0, .slice none 0 0] 35)) = k55 at *
    have hHeld := hHeld2
    clear hHeld2
    refine wpAnyH_ready (rs := [9]) (by kernel_rfl) (by simp) (AllReadyH.cons (o := _) rfl (fun K hK => ?_) AllReadyH.nil)
    skip
    obtain ⟨DT, hDT⟩ : ∃ L, k55.heap.size = L := ⟨_, rfl⟩
    have hBDT : B ≤ DT := by have := H54.out.size; omega
    rw [if_pos (by rfl)]
    refine oper_make_int _ _ rfl DT _ _ n rfl rfl (by rfl) (by rfl) (by omega) (by omega) ?_
    intro k56 ho hb
    rw [hDT] at ho ⊢
    have H57 := hid (H54.out.made hDT ho hb)
    clear ho hb hDT hBDT
    refine hK.out _ _ ?_ (fun hHeld2 => ?_)
    focus ((try dsimp only); (exact ⟨H57.out.cell 3 rfl 0 rfl, H57.out.cell 3 rfl 1 rfl, H57.out.cell 3 rfl 2 rfl, H57.out.cell 3 rfl 3 rfl⟩))
    clear hK K
    try simp only [Act.put, List.getElem_toArray, List.getElem_cons_zero, List.getElem_cons_succ, List.setIfInBounds_toArray, List.set_cons_zero, List.set_cons_succ]
    clear hHeld
    have hHeld := hHeld2
    clear hHeld2
    refine wpAnyH_take (i := 10) (oi := _) (v := ?_) rfl (by kernel_rfl) (by kernel_rfl) (by kernel_rfl) (fun _ _ _ h => h) (Or.inl ⟨by rfl, ?_⟩) (by assumption) ?_
    rotate_left
    focus (intro wS hSw; (try dsimp only at hSw); go_simp; (try with_reducible rfl))
    try simp only [Act.put, List.getElem_toArray, List.getElem_cons_zero, List.getElem_cons_succ, List.setIfInBounds_toArray, List.set_cons_zero, List.set_cons_succ]
    refine wpAnyH_ready (rs := [12]) (by kernel_rfl) (by simp) (AllReadyH.cons (o := _) rfl (fun K hK => ?_) AllReadyH.nil)
    have z58 := H57.out.cell 1 rfl 0 rfl
    have z59 := H57.out.free 1 rfl 0
    have z60 := H57.out.cell 1 rfl 1 rfl
    have z61 := H57.out.free 1 rfl 1
    have z62 := H57.out.cell 1 rfl 2 rfl
    have z63 := H57.out.free 1 rfl 2
    have z64 := H57.out.cell 1 rfl 3 rfl
    have z65 := H57.out.free 1 rfl 3
    have H66 := hid (show St B W [.own (.slice (some ⟨DT, 0, none⟩) n n) (List.replicate n 0), .cells D53 #[.int .i64 nh, .int .i64 nw, .int .i64 mx, .slice (some ⟨DT, 0, none⟩) n n] 35, .cells (B + 1) #[.int .i64 0, .int .i64 0, .int .i64 0, .slice none 0 0] 35, .cells B #[.int .i64 nw, .int .i64 nh, .int .i64 mx, .slice (some ⟨pb, po, none⟩) n c] 35] [] ((((k56.setCell ⟨D53, 0, none⟩ (.int .i64 nh)).setCell ⟨D53, 1, none⟩ (.int .i64 nw)).setCell ⟨D53, 2, none⟩ (.int .i64 mx)).setCell ⟨D53, 3, none⟩ (.slice (some ⟨DT, 0, none⟩) n n)) from (H57.out.set4 1 rfl (.int .i64 nh) (.int .i64 nw) (.int .i64 mx) (.slice (some ⟨DT, 0, none⟩) n n)))
    go_simp
    refine hK.out _ _ ?_ (fun hHeld2 => ?_)
    focus ((try dsimp only); (exact ⟨H66.out.cell 3 rfl 0 rfl, H66.out.cell 3 rfl 1 rfl, H66.out.cell 3 rfl 2 rfl, H66.out.cell 3 rfl 3 rfl⟩))
    clear hK K hHeld
    try simp only [Act.put, List.getElem_toArray, List.getElem_cons_zero, List.getElem_cons_succ, List.setIfInBounds_toArray, List.set_cons_zero, List.set_cons_succ]
    clear z58 z59 z60 z61 z62 z63 z64 z65
    generalize ((((k56.setCell ⟨D53, 0, none⟩ (.int .i64 nh)).setCell ⟨D53, 1, none⟩ (.int .i64 nw)).setCell ⟨D53, 2, none⟩ (.int .i64 mx)).setCell ⟨D53, 3, none⟩ (.slice (some ⟨DT, 0, none⟩) n n)) = k67 at *
    have hHeld := hHeld2
    clear hHeld2
    refine wpAnyH_done (by kernel_rfl) ?_ _
    try clear hHeld
    go_wp2_with fail
    go_loopw [4] (fun i wr => ∃ (j : Nat) (ql : List Int), j ≤ n ∧ TurnTo nw nh zs ql j ∧ i = .int .i64 j ∧ St B W [.own (.slice (some ⟨DT, 0, none⟩) n n) ql, .cells D53 #[.int .i64 nh, .int .i64 nw, .int .i64 mx, .slice (some ⟨DT, 0, none⟩) n n] 35, .cells (B + 1) #[.int .i64 0, .int .i64 0, .int .i64 0, .slice none 0 0] 35, .cells B #[.int .i64 nw, .int .i64 nh, .int .i64 mx, .slice (some ⟨pb, po, none⟩) n c] 35] [] wr) (fun i _ => n - (intOf i).toNat)
    case atStart => exact ⟨0, _, by omega, ⟨by rw [List.length_replicate, HL.out], fun i hi => by omega⟩, rfl, H66.out⟩
    case round =>
      obtain ⟨j, ql, hj, hmo, rfl, hst⟩ := hrel
      obtain ⟨u68, rfl⟩ : ∃ u68 : World, u68 = wr := ⟨_, rfl⟩
      have H69 := hid hst
      clear hst
      have HMO := hid hmo
      clear hmo
      by_cases hjn : j < n
      · skip
        have hjn' : (j : Int) < n := by omega
        have z70 := H69.out.cell 3 rfl 0 rfl
        have z71 := H69.out.cell 3 rfl 1 rfl
        have z72 := H69.out.cell 3 rfl 2 rfl
        have z73 := H69.out.cell 3 rfl 3 rfl
        go_upto_region 5 with fail
        clear z70 z71 z72 z73
        obtain ⟨jq, hjq⟩ : ∃ xx' : Nat, j / nw = xx' := ⟨_, rfl⟩
        obtain ⟨jr, hjr⟩ : ∃ xx' : Nat, j % nw = xx' := ⟨_, rfl⟩
        obtain ⟨KN, hKN⟩ : ∃ xx' : Nat, jr * nh = xx' := ⟨_, rfl⟩
        obtain ⟨MJ, hMJ⟩ : ∃ xx' : Nat, KN + jq = xx' := ⟨_, rfl⟩
        have HMV := hid (show tvI nw nh j = MJ from by unfold tvI; rw [hjq, hjr, hKN, hMJ])
        have hml : MJ < n := by have h1 := tvI_lt (nw := nw) (nh := nh) (i := j) (by omega); rw [HMV.out, Nat.mul_comm] at h1; omega
        have jq1 : jq ≤ j := by rw [← hjq]; exact Nat.div_le_self _ _
        have jr1 : jr < nw := by rw [← hjr]; exact Nat.mod_lt _ (by omega)
        have tq : Int.tdiv (j : Int) (nw : Int) = jq := by rw [← hjq, Int.tdiv_eq_ediv_of_nonneg (by omega)]; simp
        have tr : Int.tmod (j : Int) (nw : Int) = jr := by rw [← hjr, Int.tmod_eq_emod_of_nonneg (by omega)]; simp
        have tk : (jr : Int) * (nh : Int) = (KN : Int) := by rw [← hKN]; simp
        have tM : (KN : Int) + (jq : Int) = (MJ : Int) := by omega
        have kn0 : ¬ ((nw : Int) = 0) := by omega
        have kn1 : ¬ (nw = 0) := by omega
        have kn4 : KN ≤ MJ := by omega
        have wq1 : IntKind.i64.wrap (jq : Int) = jq := IntWalk.i64_in _ (by omega)
        have wq2 : IntKind.i64.wrap (jr : Int) = jr := IntWalk.i64_in _ (by omega)
        have wq3 : IntKind.i64.wrap (KN : Int) = KN := IntWalk.i64_in _ (by omega)
        have wq6 : IntKind.i64.wrap (MJ : Int) = MJ := IntWalk.i64_in _ (by omega)
        clear hjq hjr hKN hMJ
        have HMN := hid (show TurnTo nw nh zs (ql.set MJ (zs.getD j 0)) (j + 1) from by rw [← HMV.out]; exact HMO.out.next HLP.out (by rw [HL.out]; exact hjn))
        obtain ⟨pz, hpz⟩ : ∃ xx', zs.getD j 0 = xx' := ⟨_, rfl⟩
        have HPZ := hid hpz
        clear hpz
        have hml2 : (MJ : Int) < n := by omega
        have H74 := hid H69.out.drew
        refine wp_region_held_drew (S := (fun w' => w'.cell? ⟨D53, 0, none⟩ = some (.int .i64 nh) ∧ w'.cell? ⟨D53, 1, none⟩ = some (.int .i64 nw) ∧ w'.cell? ⟨D53, 2, none⟩ = some (.int .i64 mx) ∧ w'.cell? ⟨D53, 3, none⟩ = some (.slice (some ⟨DT, 0, none⟩) n n) ∧ w'.cell? ⟨B, 0, none⟩ = some (.int .i64 nw) ∧ w'.cell? ⟨B, 1, none⟩ = some (.int .i64 nh) ∧ w'.cell? ⟨B, 2, none⟩ = some (.int .i64 mx) ∧ w'.cell? ⟨B, 3, none⟩ = some (.slice (some ⟨pb, po, none⟩) n c) ∧ w'.cell? ⟨pb, po + j, none⟩ = some (.int .i64 pz))) (by kernel_rfl) ⟨H74.out.cell 1 rfl 0 rfl, H74.out.cell 1 rfl 1 rfl, H74.out.cell 1 rfl 2 rfl, H74.out.cell 1 rfl 3 rfl, H74.out.cell 3 rfl 0 rfl, H74.out.cell 3 rfl 1 rfl, H74.out.cell 3 rfl 2 rfl, H74.out.cell 3 rfl 3 rfl, (by have := row_cell (H74.out.old HS.out).row (j := j) hjn; rw [HPZ.out] at this; exact this)⟩ (fun hHeld => ?_)
        generalize u68.drew = k75 at *
        refine wpAnyH_take (i := 0) (oi := _) (v := ?_) rfl (by kernel_rfl) (by kernel_rfl) (by kernel_rfl) (fun _ _ _ h => h) (Or.inl ⟨by rfl, ?_⟩) (by assumption) ?_
        rotate_left
        focus (intro wS hSw; (try dsimp only at hSw); go_simp; (try with_reducible rfl))
        try simp only [Act.put, List.getElem_toArray, List.getElem_cons_zero, List.getElem_cons_succ, List.setIfInBounds_toArray, List.set_cons_zero, List.set_cons_succ]
        refine wpAnyH_take (i := 1) (oi := _) (v := ?_) rfl (by kernel_rfl) (by kernel_rfl) (by kernel_rfl) (fun _ _ _ h => h) (Or.inl ⟨by rfl, ?_⟩) (by assumption) ?_
        rotate_left
        focus (intro wS hSw; (try dsimp only at hSw); go_simp; (try with_reducible rfl))
        try simp only [Act.put, List.getElem_toArray, List.getElem_cons_zero, List.getElem_cons_succ, List.setIfInBounds_toArray, List.set_cons_zero, List.set_cons_succ]
        refine wpAnyH_take (i := 2) (oi := _) (v := ?_) rfl (by kernel_rfl) (by kernel_rfl) (by kernel_rfl) (fun _ _ _ h => h) (Or.inl ⟨by rfl, ?_⟩) (by assumption) ?_
        rotate_left
        focus (intro wS hSw; (try dsimp only at hSw); go_simp; (try with_reducible rfl))
        try simp only [Act.put, List.getElem_toArray, List.getElem_cons_zero, List.getElem_cons_succ, List.setIfInBounds_toArray, List.set_cons_zero, List.set_cons_succ]
        refine wpAnyH_take (i := 3) (oi := _) (v := ?_) rfl (by kernel_rfl) (by kernel_rfl) (by kernel_rfl) (fun _ _ _ h => h) (Or.inl ⟨by rfl, ?_⟩) (by assumption) ?_
        rotate_left
        focus (intro wS hSw; (try dsimp only at hSw); go_simp; (try with_reducible rfl))
        try simp only [Act.put, List.getElem_toArray, List.getElem_cons_zero, List.getElem_cons_succ, List.setIfInBounds_toArray, List.set_cons_zero, List.set_cons_succ]
        refine wpAnyH_take (i := 4) (oi := _) (v := ?_) rfl (by kernel_rfl) (by kernel_rfl) (by kernel_rfl) (fun _ _ _ h => h) (Or.inl ⟨by rfl, ?_⟩) (by assumption) ?_
        rotate_left
        focus (intro wS hSw; (try dsimp only at hSw); go_simp; (try with_reducible rfl))
        try simp only [Act.put, List.getElem_toArray, List.getElem_cons_zero, List.getElem_cons_succ, List.setIfInBounds_toArray, List.set_cons_zero, List.set_cons_succ]
        refine wpAnyH_take (i := 5) (oi := _) (v := ?_) rfl (by kernel_rfl) (by kernel_rfl) (by kernel_rfl) (fun _ _ _ h => h) (Or.inl ⟨by rfl, ?_⟩) (by assumption) ?_
        rotate_left
        focus (intro wS hSw; (try dsimp only at hSw); go_simp; (try with_reducible rfl))
        try simp only [Act.put, List.getElem_toArray, List.getElem_cons_zero, List.getElem_cons_succ, List.setIfInBounds_toArray, List.set_cons_zero, List.set_cons_succ]
        refine wpAnyH_take (i := 6) (oi := _) (v := ?_) rfl (by kernel_rfl) (by kernel_rfl) (by kernel_rfl) (fun _ _ _ h => h) (Or.inl ⟨by rfl, ?_⟩) (by assumption) ?_
        rotate_left
        focus (intro wS hSw; (try dsimp only at hSw); go_simp; (try with_reducible rfl))
        try simp only [Act.put, List.getElem_toArray, List.getElem_cons_zero, List.getElem_cons_succ, List.setIfInBounds_toArray, List.set_cons_zero, List.set_cons_succ]
        refine wpAnyH_take (i := 7) (oi := _) (v := ?_) rfl (by kernel_rfl) (by kernel_rfl) (by kernel_rfl) (fun _ _ _ h => h) (Or.inl ⟨by rfl, ?_⟩) (by assumption) ?_
        rotate_left
        focus (intro wS hSw; (try dsimp only at hSw); go_simp; (try with_reducible rfl))
        try simp only [Act.put, List.getElem_toArray, List.getElem_cons_zero, List.getElem_cons_succ, List.setIfInBounds_toArray, List.set_cons_zero, List.set_cons_succ]
        refine wpAnyH_take (i := 8) (oi := _) (v := ?_) rfl (by kernel_rfl) (by kernel_rfl) (by kernel_rfl) (fun _ _ _ h => h) (Or.inl ⟨by rfl, ?_⟩) (by assumption) ?_
        rotate_left
        focus (intro wS hSw; (try dsimp only at hSw); go_simp; (try with_reducible rfl))
        try simp only [Act.put, List.getElem_toArray, List.getElem_cons_zero, List.getElem_cons_succ, List.setIfInBounds_toArray, List.set_cons_zero, List.set_cons_succ]
        refine wpAnyH_take (i := 9) (oi := _) (v := ?_) rfl (by kernel_rfl) (by kernel_rfl) (by kernel_rfl) (fun _ _ _ h => h) (Or.inl ⟨by rfl, ?_⟩) (by assumption) ?_
        rotate_left
        focus (intro wS hSw; (try dsimp only at hSw); go_simp; (try with_reducible rfl))
        try simp only [Act.put, List.getElem_toArray, List.getElem_cons_zero, List.getElem_cons_succ, List.setIfInBounds_toArray, List.set_cons_zero, List.set_cons_succ]
        refine wpAnyH_take (i := 10) (oi := _) (v := ?_) rfl (by kernel_rfl) (by kernel_rfl) (by kernel_rfl) (fun _ _ _ h => h) (Or.inl ⟨by rfl, ?_⟩) (by assumption) ?_
        rotate_left
        focus (intro wS hSw; (try dsimp only at hSw); go_simp; (try with_reducible rfl))
        try simp only [Act.put, List.getElem_toArray, List.getElem_cons_zero, List.getElem_cons_succ, List.setIfInBounds_toArray, List.set_cons_zero, List.set_cons_succ]
        refine wpAnyH_take (i := 11) (oi := _) (v := ?_) rfl (by kernel_rfl) (by kernel_rfl) (by kernel_rfl) (fun _ _ _ h => h) (Or.inl ⟨by rfl, ?_⟩) (by assumption) ?_
        rotate_left
        focus (intro wS hSw; (try dsimp only at hSw); go_simp; (try with_reducible rfl))
        try simp only [Act.put, List.getElem_toArray, List.getElem_cons_zero, List.getElem_cons_succ, List.setIfInBounds_toArray, List.set_cons_zero, List.set_cons_succ]
        refine wpAnyH_take (i := 12) (oi := _) (v := ?_) rfl (by kernel_rfl) (by kernel_rfl) (by kernel_rfl) (fun _ _ _ h => h) (Or.inl ⟨by rfl, ?_⟩) (by assumption) ?_
        rotate_left
        focus (intro wS hSw; (try dsimp only at hSw); go_simp; (try with_reducible rfl))
        try simp only [Act.put, List.getElem_toArray, List.getElem_cons_zero, List.getElem_cons_succ, List.setIfInBounds_toArray, List.set_cons_zero, List.set_cons_succ]
        refine wpAnyH_take (i := 13) (oi := _) (v := ?_) rfl (by kernel_rfl) (by kernel_rfl) (by kernel_rfl) (fun _ _ _ h => h) (Or.inl ⟨by rfl, ?_⟩) (by assumption) ?_
        rotate_left
        focus (intro wS hSw; (try dsimp only at hSw); go_simp; (try with_reducible rfl))
        try simp only [Act.put, List.getElem_toArray, List.getElem_cons_zero, List.getElem_cons_succ, List.setIfInBounds_toArray, List.set_cons_zero, List.set_cons_succ]
        refine wpAnyH_take (i := 14) (oi := _) (v := ?_) rfl (by kernel_rfl) (by kernel_rfl) (by kernel_rfl) (fun _ _ _ h => h) (Or.inl ⟨by rfl, ?_⟩) (by assumption) ?_
        rotate_left
        focus (intro wS hSw; (try dsimp only at hSw); go_simp; (try with_reducible rfl))
        try simp only [Act.put, List.getElem_toArray, List.getElem_cons_zero, List.getElem_cons_succ, List.setIfInBounds_toArray, List.set_cons_zero, List.set_cons_succ]
        refine wpAnyH_take (i := 15) (oi := _) (v := ?_) rfl (by kernel_rfl) (by kernel_rfl) (by kernel_rfl) (fun _ _ _ h => h) (Or.inl ⟨by rfl, ?_⟩) (by assumption) ?_
        rotate_left
        focus (intro wS hSw; (try dsimp only at hSw); go_simp; (try with_reducible rfl))
        try simp only [Act.put, List.getElem_toArray, List.getElem_cons_zero, List.getElem_cons_succ, List.setIfInBounds_toArray, List.set_cons_zero, List.set_cons_succ]
        refine wpAnyH_take (i := 16) (oi := _) (v := ?_) rfl (by kernel_rfl) (by kernel_rfl) (by kernel_rfl) (fun _ _ _ h => h) (Or.inl ⟨by rfl, ?_⟩) (by assumption) ?_
        rotate_left
        focus (intro wS hSw; (try dsimp only at hSw); go_simp; (try with_reducible rfl))
        try simp only [Act.put, List.getElem_toArray, List.getElem_cons_zero, List.getElem_cons_succ, List.setIfInBounds_toArray, List.set_cons_zero, List.set_cons_succ]
        refine wpAnyH_take (i := 17) (oi := _) (v := ?_) rfl (by kernel_rfl) (by kernel_rfl) (by kernel_rfl) (fun _ _ _ h => h) (Or.inl ⟨by rfl, ?_⟩) (by assumption) ?_
        rotate_left
        focus (intro wS hSw; (try dsimp only at hSw); go_simp; (try with_reducible rfl))
        try simp only [Act.put, List.getElem_toArray, List.getElem_cons_zero, List.getElem_cons_succ, List.setIfInBounds_toArray, List.set_cons_zero, List.set_cons_succ]
        refine wpAnyH_take (i := 18) (oi := _) (v := ?_) rfl (by kernel_rfl) (by kernel_rfl) (by kernel_rfl) (fun _ _ _ h => h) (Or.inl ⟨by rfl, ?_⟩) (by assumption) ?_
        rotate_left
        focus (intro wS hSw; (try dsimp only at hSw); go_simp; (try with_reducible rfl))
        try simp only [Act.put, List.getElem_toArray, List.getElem_cons_zero, List.getElem_cons_succ, List.setIfInBounds_toArray, List.set_cons_zero, List.set_cons_succ]
        refine wpAnyH_take (i := 19) (oi := _) (v := ?_) rfl (by kernel_rfl) (by kernel_rfl) (by kernel_rfl) (fun _ _ _ h => h) (Or.inl ⟨by rfl, ?_⟩) (by assumption) ?_
        rotate_left
        focus (intro wS hSw; (try dsimp only at hSw); go_simp; (try with_reducible rfl))
        try simp only [Act.put, List.getElem_toArray, List.getElem_cons_zero, List.getElem_cons_succ, List.setIfInBounds_toArray, List.set_cons_zero, List.set_cons_succ]
        refine wpAnyH_ready (rs := [20]) (by kernel_rfl) (by simp) (AllReadyH.cons (o := _) rfl (fun K hK => ?_) AllReadyH.nil)
        obtain ⟨s76, s77⟩ := H74.out.get 0 rfl (j := MJ) (by rw [HMO.out.1, HL.out]; exact hml)
        have H78 := hid (show St B W [.own (.slice (some ⟨DT, 0, none⟩) n n) (ql.set MJ pz), .cells D53 #[.int .i64 nh, .int .i64 nw, .int .i64 mx, .slice (some ⟨DT, 0, none⟩) n n] 35, .cells (B + 1) #[.int .i64 0, .int .i64 0, .int .i64 0, .slice none 0 0] 35, .cells B #[.int .i64 nw, .int .i64 nh, .int .i64 mx, .slice (some ⟨pb, po, none⟩) n c] 35] [] (k75.setCell ⟨DT, MJ, none⟩ (.int .i64 pz)) from (H74.out.store 0 rfl MJ pz))
        go_simp
        refine hK.out _ _ ?_ (fun hHeld2 => ?_)
        focus ((try dsimp only); (exact ⟨H78.out.cell 1 rfl 0 rfl, H78.out.cell 1 rfl 1 rfl, H78.out.cell 1 rfl 2 rfl, H78.out.cell 1 rfl 3 rfl, H78.out.cell 3 rfl 0 rfl, H78.out.cell 3 rfl 1 rfl, H78.out.cell 3 rfl 2 rfl, H78.out.cell 3 rfl 3 rfl, (by have := row_cell (H78.out.old HS.out).row (j := j) hjn; rw [HPZ.out] at this; exact this)⟩))
        clear hK K hHeld
        try simp only [Act.put, List.getElem_toArray, List.getElem_cons_zero, List.getElem_cons_succ, List.setIfInBounds_toArray, List.set_cons_zero, List.set_cons_succ]
        clear s76 s77
        generalize (k75.setCell ⟨DT, MJ, none⟩ (.int .i64 pz)) = k79 at *
        have hHeld := hHeld2
        clear hHeld2
        refine wpAnyH_done (by kernel_rfl) ?_ _
        try clear hHeld
        clear tq tr tk tM wq1 wq2 wq3 wq6
        go_wp2_with fail
        go_roundw
        case rel => exact ⟨j + 1, _, by omega, HMN.out, by go_num, by rw [HPZ.out]; exact H78.out⟩
        case measure => first | (simp [intOf]; omega) | (simp [intOf]; done)
      · skip
        have hjn' : ¬ ((j : Int) < n) := by omega
        have HTU := hid (show Turned nw nh zs ql from by have := HMO.out; unfold Turned; rwa [show zs.length = j by rw [HL.out]; omega])
        have z80 := H69.out.cell 3 rfl 0 rfl
        have z81 := H69.out.cell 3 rfl 1 rfl
        have z82 := H69.out.cell 3 rfl 2 rfl
        have z83 := H69.out.cell 3 rfl 3 rfl
        have z84 := H69.out.cell 1 rfl 0 rfl
        have z85 := H69.out.cell 1 rfl 1 rfl
        have z86 := H69.out.cell 1 rfl 2 rfl
        have z87 := H69.out.cell 1 rfl 3 rfl
        have z88 := H69.out.cell 2 rfl 0 rfl
        have z89 := H69.out.free 2 rfl 0
        have z90 := H69.out.cell 2 rfl 1 rfl
        have z91 := H69.out.free 2 rfl 1
        have z92 := H69.out.cell 2 rfl 2 rfl
        have z93 := H69.out.free 2 rfl 2
        have z94 := H69.out.cell 2 rfl 3 rfl
        have z95 := H69.out.free 2 rfl 3
        go_wp2_with fail
        clear z80 z81 z82 z83 z84 z85 z86 z87 z88 z89 z90 z91 z92 z93 z94 z95
        have H96 := hid (show St B W [.own (.slice (some ⟨DT, 0, none⟩) n n) ql, .cells D53 #[.int .i64 nh, .int .i64 nw, .int .i64 mx, .slice (some ⟨DT, 0, none⟩) n n] 35, .cells (B + 1) #[.int .i64 nh, .int .i64 nw, .int .i64 mx, .slice (some ⟨DT, 0, none⟩) n n] 35, .cells B #[.int .i64 nw, .int .i64 nh, .int .i64 mx, .slice (some ⟨pb, po, none⟩) n c] 35] [] ((((u68.setCell ⟨B + 1, 0, none⟩ (.int .i64 nh)).setCell ⟨B + 1, 1, none⟩ (.int .i64 nw)).setCell ⟨B + 1, 2, none⟩ (.int .i64 mx)).setCell ⟨B + 1, 3, none⟩ (.slice (some ⟨DT, 0, none⟩) n n)) from (H69.out.set4 2 rfl (.int .i64 nh) (.int .i64 nw) (.int .i64 mx) (.slice (some ⟨DT, 0, none⟩) n n)))
        have q97 := H96.out.cell 2 rfl 0 rfl
        have q98 := H96.out.cell 2 rfl 1 rfl
        have q99 := H96.out.cell 2 rfl 2 rfl
        have q100 := H96.out.cell 2 rfl 3 rfl
        refine bodyPost_ret (v := .agg #[.int .i64 nh, .int .i64 nw, .int .i64 mx, .slice (some ⟨DT, 0, none⟩) n n]) ?_ rfl ⟨_, _, rfl, HTU.out, by (try rw [hB]); exact H96.out.own 0 rfl, by first | exact H96.out.below | exact H96.out.below'⟩
        simp [results, Try.results40, go_sem, q97, q98, q99, q100]
end Go.Proofs.Ytkpdahjddjdgcaa
