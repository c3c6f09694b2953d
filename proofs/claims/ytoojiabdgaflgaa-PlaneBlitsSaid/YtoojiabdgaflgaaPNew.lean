/-
  Contracts: new planes, equal lists and equal planes, in the program.
-/
import Derived.Test.YtoojiabdgaflgaaQNew
import Derived.Test.YtoojiabdgaflgaaEqual
import Derived.Test.YtoojiabdgaflgaaGen
namespace Go.Proofs.Ytoojiabdgaflgaa
open Go.RowKit
attribute [local go_sem ↓] Go.wp_at_zero Go.wp_at_succ
set_option linter.unusedVariables false
set_option linter.unusedSimpArgs false

set_option maxRecDepth 100000 in
set_option maxHeartbeats 1600000 in
theorem pnew_any (w h mx : Int) (W : World) : Calls Try.prog 55 #[.int .i64 w, .int .i64 h, .int .i64 mx] W (NewPost w h mx W) := by
  obtain ⟨B, hB⟩ : ∃ B, W.heap.size = B := ⟨_, rfl⟩
  have HI0 := hid (St.init hB)
  go_enter Try.func55, Try.ntmps55
  go_upto_region 1 with fail
  have H1 := hid (show St B W [.cells B #[.int .i64 0, .int .i64 0, .int .i64 0, .slice none 0 0] 26] [] (W.alloc (.cells #[.int .i64 0, .int .i64 0, .int .i64 0, .slice none 0 0] 26)) from (HI0.out.alloc #[.int .i64 0, .int .i64 0, .int .i64 0, .slice none 0 0] 26 hB))
  first | refine gen_code H1.out ?_ | refine gen_list H1.out ?_ | refine gen_calls H1.out ?_
  intro w2 hG
  clear H1
  have H1 := hid hG
  clear hG
  go_wp2_with fail
  refine (area_any _ _ _ _).mono ?_
  rintro e w3 ⟨rfl, hsw⟩
  have hsw2 : w2 = w3 := by first | exact hsw | exact hsw.symm
  clear hsw
  subst hsw2
  obtain ⟨ar, har⟩ : ∃ z, pArea1 w h mx = z := ⟨_, rfl⟩
  have HAR := hid har
  rw [har]
  clear har
  have HPO := hid (show ∃ b, pOk w h mx = b from ⟨_, rfl⟩)
  obtain ⟨pk, hpk⟩ := HPO.out
  rw [hpk]
  cases pk with
  | true =>
    have HI := hid (show ∀ x, nIf w h mx x = x from fun x => by unfold nIf; rw [if_pos hpk])
    obtain ⟨p1, p2, p3, p4, p5, p6, p7⟩ := pOk_iff.1 hpk
    have p0 := Int.mul_nonneg (a := w) (b := h) (by omega) (by omega)
    obtain ⟨N, hN⟩ : ∃ N : Nat, w * h = N := ⟨(w * h).toNat, by omega⟩
    have HL := hid (show nList w h mx = List.replicate N 0 by unfold nList; rw [if_pos hpk, hN]; rfl)
    have N1 : N ≤ 4096 := by omega
    have hae : ar = (N : Int) := by rw [← HAR.out, ← hN]; unfold pArea1; rw [if_pos hpk]
    subst hae
    have HP := hid hpk
    clear hpk p0 hN HAR HPO
    have hBD : B ≤ w2.heap.size := H1.out.size
    obtain ⟨D5, hD5⟩ : ∃ D, w2.heap.size = D := ⟨_, rfl⟩
    go_wp2_with (at_make; refine make_int rfl _ _ rfl D5 _ _ N rfl rfl (by rfl) (by rfl) (by omega) (by omega) ?_; intro w6 ho hb; rw [hD5] at ho ⊢; have H4 := hid (H1.out.made hD5 ho hb); clear ho hb; have y0 := H4.out.cell 1 rfl 0 rfl; have y1 := H4.out.cell 1 rfl 1 rfl; have y2 := H4.out.cell 1 rfl 2 rfl; have y3 := H4.out.cell 1 rfl 3 rfl; have e0 := H4.out.free 1 rfl 0; have e1 := H4.out.free 1 rfl 1; have e2 := H4.out.free 1 rfl 2; have e3 := H4.out.free 1 rfl 3)
    have HZ := hid (H4.out.set4 1 rfl (.int .i64 w) (.int .i64 h) (.int .i64 mx) (.slice (some ⟨D5, 0, none⟩) N N))
    have k0 := HZ.out.cell 1 rfl 0 rfl
    have k1 := HZ.out.cell 1 rfl 1 rfl
    have k2 := HZ.out.cell 1 rfl 2 rfl
    have k3 := HZ.out.cell 1 rfl 3 rfl
    refine bodyPost_ret (v := .tuple #[.agg #[.int .i64 w, .int .i64 h, .int .i64 mx, .slice (some ⟨D5, 0, none⟩) N N], .bool true]) ?_ rfl ⟨_, by rw [HI.out, HI.out, HI.out, HP.out], by rw [HL.out, hB]; exact HZ.out.own 0 rfl, by first | exact HZ.out.below | exact HZ.out.below'⟩
    unfold set4 at k0 k1 k2 k3
    simp [results, Try.results55, go_sem, k0, k1, k2, k3]
  | false =>
    have HI := hid (show ∀ x, nIf w h mx x = 0 from fun x => by unfold nIf; rw [if_neg (by rw [hpk]; simp)])
    have HL := hid (show nList w h mx = [] by unfold nList; rw [if_neg (by rw [hpk]; simp)])
    have HP := hid hpk
    clear hpk HPO
    have z7 := H1.out.cell 0 rfl 0 rfl
    have z8 := H1.out.free 0 rfl 0
    have z9 := H1.out.cell 0 rfl 1 rfl
    have z10 := H1.out.free 0 rfl 1
    have z11 := H1.out.cell 0 rfl 2 rfl
    have z12 := H1.out.free 0 rfl 2
    have z13 := H1.out.cell 0 rfl 3 rfl
    have z14 := H1.out.free 0 rfl 3
    go_wp2_with fail
    clear z7 z8 z9 z10 z11 z12 z13 z14
    have H15 := hid (show St B W [.cells B #[.int .i64 0, .int .i64 0, .int .i64 0, .slice none 0 0] 26] [] ((((w2.setCell ⟨B, 0, none⟩ (.int .i64 0)).setCell ⟨B, 1, none⟩ (.int .i64 0)).setCell ⟨B, 2, none⟩ (.int .i64 0)).setCell ⟨B, 3, none⟩ (.slice none 0 0)) from (H1.out.set4 0 rfl (.int .i64 0) (.int .i64 0) (.int .i64 0) (.slice none 0 0)))
    have q16 := H15.out.cell 0 rfl 0 rfl
    have q17 := H15.out.cell 0 rfl 1 rfl
    have q18 := H15.out.cell 0 rfl 2 rfl
    have q19 := H15.out.cell 0 rfl 3 rfl
    refine bodyPost_ret (v := .tuple #[.agg #[.int .i64 0, .int .i64 0, .int .i64 0, .slice none 0 0], .bool false]) ?_ rfl ⟨_, by rw [HI.out, HI.out, HI.out, HP.out], by rw [HL.out]; exact Own.nil _ _, by first | exact H15.out.below | exact H15.out.below'⟩
    simp [results, Try.results55, go_sem, q16, q17, q18, q19]

set_option maxRecDepth 100000 in
set_option maxHeartbeats 1600000 in
theorem sequal_any (a : Option Addr) (n c : Nat) (xs : List Int) (a' : Option Addr) (n' c' : Nat) (ys : List Int) (W : World) (hx : Slc W a n c xs) (hy : Slc W a' n' c' ys) :
    Calls Try.prog 81 #[.slice a n c, .slice a' n' c'] W fun e w' => e = .returned (.bool (lEq xs ys)) ∧ Below W.heap.size W w' := by
  obtain ⟨B, hB⟩ : ∃ B, W.heap.size = B := ⟨_, rfl⟩
  have HI0 := hid (St.init hB)
  have HX := hid hx
  have HY := hid hy
  have LX := hid hx.len
  have LY := hid hy.len
  obtain ⟨nc1, nc2⟩ := And.intro hx.nc hx.cap
  have nm : (n : Int) ≤ 9223372036854775807 := by omega
  clear hx hy nc1 nc2
  go_enter Try.func81, Try.ntmps81
  by_cases hn : n = n'
  · skip
    have hN := hid hn
    obtain ⟨hn1, hn2⟩ : n ≤ n' ∧ n' ≤ n := by omega
    have h1 : ((n : Int) != (n' : Int)) = false := by rw [hn]; simp
    have h3 : ((n : Int) == (n' : Int)) = true := by rw [hn]; simp
    clear hn
    go_wp2_with fail
    go_loopw [13] (fun i wr => ∃ j : Nat, j ≤ n ∧ i = .int .i64 j ∧ (∀ i, i < j → xs.getD i 0 = ys.getD i 0) ∧ St B W [] [] wr) (fun i _ => n - (intOf i).toNat)
    case atStart => exact ⟨0, by omega, rfl, fun i hi => by omega, HI0.out⟩
    case round =>
      obtain ⟨j, hj, rfl, ha, hst⟩ := hrel
      obtain ⟨u20, rfl⟩ : ∃ u20 : World, u20 = wr := ⟨_, rfl⟩
      have H21 := hid hst
      clear hst
      have HA := hid ha
      clear ha
      by_cases hjn : j < n
      · skip
        have hjn' : (j : Int) < n := by omega
        obtain ⟨b, o, hab⟩ := row_at HX.out.row (by omega)
        obtain ⟨b', o', hab'⟩ := row_at HY.out.row (by omega)
        subst hab hab'
        have HBX := hid (fun h : xs.getD j 0 ≠ ys.getD j 0 => ne_of_getD (by have := LX.out; omega) (by have := LY.out; omega) h)
        have HI := hid (show xs.getD j 0 = ys.getD j 0 → ∀ i, i < j + 1 → xs.getD i 0 = ys.getD i 0 from fun hg i hi => by
          rcases Nat.lt_or_ge i j with h' | h'
          · exact HA.out i h'
          · obtain rfl : i = j := by omega
            exact hg)
        obtain ⟨x, hx⟩ : ∃ z, xs.getD j 0 = z := ⟨_, rfl⟩
        obtain ⟨y, hy⟩ : ∃ z, ys.getD j 0 = z := ⟨_, rfl⟩
        rw [hx, hy] at HBX HI
        have HXJ := hid hx
        have HYJ := hid hy
        clear hx hy
        have hjm' : (j : Int) < n' := by omega
        go_upto_region 6 with fail
        have H22 := hid H21.out.drew
        refine wp_region_held_drew (S := (fun w' => w'.cell? ⟨b, o + j, none⟩ = some (.int .i64 x) ∧ w'.cell? ⟨b', o' + j, none⟩ = some (.int .i64 y))) (by kernel_rfl) ⟨(by have := row_cell (H22.out.old HX.out).row hjn; rw [HXJ.out] at this; exact this), (by have := row_cell (H22.out.old HY.out).row (j := j) (by omega); rw [HYJ.out] at this; exact this)⟩ (fun hHeld => ?_)
        generalize u20.drew = k23 at *
        refine wpAnyH_take (i := 0) (oi := _) (v := ?_) rfl (by kernel_rfl) (by kernel_rfl) (by kernel_rfl) (fun _ _ _ h => h) (Or.inl ⟨by rfl, ?_⟩) (by assumption) ?_
        rotate_left
        focus (intro wS hSw; (try dsimp only at hSw); go_simp; (try with_reducible rfl))
        try simp only [Act.put, List.getElem_toArray, List.getElem_cons_zero, List.getElem_cons_succ, List.setIfInBounds_toArray, List.set_cons_zero, List.set_cons_succ]
        refine wpAnyH_take (i := 1) (oi := _) (v := ?_) rfl (by kernel_rfl) (by kernel_rfl) (by kernel_rfl) (fun _ _ _ h => h) (Or.inl ⟨by rfl, ?_⟩) (by assumption) ?_
        rotate_left
        focus (intro wS hSw; (try dsimp only at hSw); go_simp; (try with_reducible rfl))
        try simp only [Act.put, List.getElem_toArray, List.getElem_cons_zero, List.getElem_cons_succ, List.setIfInBounds_toArray, List.set_cons_zero, List.set_cons_succ]
        refine wpAnyH_take (i := 2) (oi := _) (v := ?_) rfl (by kernel_rfl) (by kernel_rfl) (by kernel_rfl) (fun _ _ _ h => h) (Or.inl ⟨by rfl, ?_⟩) (by assumption) ?_
        rotate_left
        focus (intro wS hSw; (try dsimp only at hSw); go_simp; (try with_reducible rfl))
        try simp only [Act.put, List.getElem_toArray, List.getElem_cons_zero, List.getElem_cons_succ, List.setIfInBounds_toArray, List.set_cons_zero, List.set_cons_succ]
        refine wpAnyH_take (i := 3) (oi := _) (v := ?_) rfl (by kernel_rfl) (by kernel_rfl) (by kernel_rfl) (fun _ _ _ h => h) (Or.inl ⟨by rfl, ?_⟩) (by assumption) ?_
        rotate_left
        focus (intro wS hSw; (try dsimp only at hSw); go_simp; (try with_reducible rfl))
        try simp only [Act.put, List.getElem_toArray, List.getElem_cons_zero, List.getElem_cons_succ, List.setIfInBounds_toArray, List.set_cons_zero, List.set_cons_succ]
        refine wpAnyH_take (i := 4) (oi := _) (v := ?_) rfl (by kernel_rfl) (by kernel_rfl) (by kernel_rfl) (fun _ _ _ h => h) (Or.inl ⟨by rfl, ?_⟩) (by assumption) ?_
        rotate_left
        focus (intro wS hSw; (try dsimp only at hSw); go_simp; (try with_reducible rfl))
        try simp only [Act.put, List.getElem_toArray, List.getElem_cons_zero, List.getElem_cons_succ, List.setIfInBounds_toArray, List.set_cons_zero, List.set_cons_succ]
        refine wpAnyH_take (i := 5) (oi := _) (v := ?_) rfl (by kernel_rfl) (by kernel_rfl) (by kernel_rfl) (fun _ _ _ h => h) (Or.inl ⟨by rfl, ?_⟩) (by assumption) ?_
        rotate_left
        focus (intro wS hSw; (try dsimp only at hSw); go_simp; (try with_reducible rfl))
        try simp only [Act.put, List.getElem_toArray, List.getElem_cons_zero, List.getElem_cons_succ, List.setIfInBounds_toArray, List.set_cons_zero, List.set_cons_succ]
        refine wpAnyH_take (i := 6) (oi := _) (v := ?_) rfl (by kernel_rfl) (by kernel_rfl) (by kernel_rfl) (fun _ _ _ h => h) (Or.inl ⟨by rfl, ?_⟩) (by assumption) ?_
        rotate_left
        focus (intro wS hSw; (try dsimp only at hSw); go_simp; (try with_reducible rfl))
        try simp only [Act.put, List.getElem_toArray, List.getElem_cons_zero, List.getElem_cons_succ, List.setIfInBounds_toArray, List.set_cons_zero, List.set_cons_succ]
        refine wpAnyH_take (i := 7) (oi := _) (v := ?_) rfl (by kernel_rfl) (by kernel_rfl) (by kernel_rfl) (fun _ _ _ h => h) (Or.inl ⟨by rfl, ?_⟩) (by assumption) ?_
        rotate_left
        focus (intro wS hSw; (try dsimp only at hSw); go_simp; (try with_reducible rfl))
        try simp only [Act.put, List.getElem_toArray, List.getElem_cons_zero, List.getElem_cons_succ, List.setIfInBounds_toArray, List.set_cons_zero, List.set_cons_succ]
        refine wpAnyH_take (i := 8) (oi := _) (v := ?_) rfl (by kernel_rfl) (by kernel_rfl) (by kernel_rfl) (fun _ _ _ h => h) (Or.inl ⟨by rfl, ?_⟩) (by assumption) ?_
        rotate_left
        focus (intro wS hSw; (try dsimp only at hSw); go_simp; (try with_reducible rfl))
        try simp only [Act.put, List.getElem_toArray, List.getElem_cons_zero, List.getElem_cons_succ, List.setIfInBounds_toArray, List.set_cons_zero, List.set_cons_succ]
        refine wpAnyH_done (by kernel_rfl) ?_ _
        try clear hHeld
        by_cases hxy : x = y
        · skip
          have HXY := hid hxy
          have h4 : (x != y) = false := by simp [hxy]
          have h5 : (x == y) = true := by simp [hxy]
          clear hxy
          go_wp2_with fail
          go_roundw
          case rel => exact ⟨j + 1, by omega, by go_num, HI.out HXY.out, H22.out⟩
          case measure => first | (simp [intOf]; omega) | (simp [intOf]; done)
        · skip
          have HXY := hid hxy
          have h4 : (x != y) = true := by simp [hxy]
          have h5 : (x == y) = false := by simp [hxy]
          clear hxy
          go_wp2_with fail
          go_ret
          exact ⟨ret_b (by unfold lEq; rw [eq_comm, decide_eq_false_iff_not]; exact HBX.out HXY.out), by first | exact H22.out.below | exact H22.out.below'⟩
      · skip
        have hjn' : ¬ ((j : Int) < n) := by omega
        go_wp2_with fail
        go_ret
        exact ⟨ret_b (by unfold lEq; rw [eq_comm, decide_eq_true_eq]; exact eq_of_getD (by rw [LX.out, LY.out]; exact hN.out) (fun i hi => HA.out i (by rw [LX.out] at hi; omega))), by first | exact H21.out.below | exact H21.out.below'⟩
  · skip
    have HNN := hid hn
    have h1 : ((n : Int) != (n' : Int)) = true := by simp; omega
    have h3 : ((n : Int) == (n' : Int)) = false := by simp; omega
    go_wp2_with fail
    go_ret
    exact ⟨ret_b (by unfold lEq; rw [eq_comm, decide_eq_false_iff_not]; exact fun e => HNN.out (by rw [← LX.out, ← LY.out, e])), by first | exact HI0.out.below | exact HI0.out.below'⟩

set_option maxRecDepth 100000 in
set_option maxHeartbeats 1600000 in
theorem pequal_any (w h m : Int) (a : Option Addr) (n c : Nat) (xs : List Int) (w' h' m' : Int) (a' : Option Addr) (n' c' : Nat) (ys : List Int) (W : World) (hx : Slc W a n c xs) (hy : Slc W a' n' c' ys) :
    Calls Try.prog 51 #[.agg #[.int .i64 w, .int .i64 h, .int .i64 m, .slice a n c], .agg #[.int .i64 w', .int .i64 h', .int .i64 m', .slice a' n' c']] W fun e u => e = .returned (.bool (pEq w h m xs w' h' m' ys)) ∧ Below W.heap.size W u := by
  obtain ⟨B, hB⟩ : ∃ B, W.heap.size = B := ⟨_, rfl⟩
  have HI0 := hid (St.init hB)
  have HX := hid hx
  have HY := hid hy
  clear hx hy
  go_enter Try.func51, Try.ntmps51
  go_upto_region 1 with fail
  have H24 := hid (show St B W [.cells (B + 1) #[.int .i64 w', .int .i64 h', .int .i64 m', .slice a' n' c'] 26, .cells B #[.int .i64 w, .int .i64 h, .int .i64 m, .slice a n c] 26] [] ((W.alloc (.cells #[.int .i64 w, .int .i64 h, .int .i64 m, .slice a n c] 26)).alloc (.cells #[.int .i64 w', .int .i64 h', .int .i64 m', .slice a' n' c'] 26)) from ((HI0.out.alloc #[.int .i64 w, .int .i64 h, .int .i64 m, .slice a n c] 26 hB).alloc #[.int .i64 w', .int .i64 h', .int .i64 m', .slice a' n' c'] 26 (by first | exact hB | simp [hB])))
  first | refine gen_code H24.out ?_ | refine gen_list H24.out ?_ | refine gen_calls H24.out ?_
  intro w25 hG
  clear H24
  have H24 := hid hG
  clear hG
  by_cases hc : w = w'
  · skip
    have HW := hid hc
    have HWa : (w == w') = true := by simpa using hc
    clear hc
    by_cases hc : h = h'
    · skip
      have HH := hid hc
      have HHa : (h == h') = true := by simpa using hc
      clear hc
      by_cases hc : m = m'
      · skip
        have HM := hid hc
        have HMa : (m == m') = true := by simpa using hc
        clear hc
        have z26 := H24.out.cell 1 rfl 0 rfl
        have z27 := H24.out.cell 1 rfl 1 rfl
        have z28 := H24.out.cell 1 rfl 2 rfl
        have z29 := H24.out.cell 1 rfl 3 rfl
        have z30 := H24.out.cell 0 rfl 0 rfl
        have z31 := H24.out.cell 0 rfl 1 rfl
        have z32 := H24.out.cell 0 rfl 2 rfl
        have z33 := H24.out.cell 0 rfl 3 rfl
        go_wp2_with fail
        clear z26 z27 z28 z29 z30 z31 z32 z33
        refine (sequal_any _ _ _ xs _ _ _ ys _ (H24.out.old HX.out) (H24.out.old HY.out)).mono ?_
        rintro e w34 ⟨rfl, hb⟩
        have H35 := hid (H24.out.call hb)
        clear hb
        go_wp2_with fail
        go_ret
        exact ⟨ret_b (by unfold pEq lEq; rw [HW.out, HH.out, HM.out]; simp), by first | exact H35.out.below | exact H35.out.below'⟩
      · skip
        have HM := hid hc
        have HMa : (m == m') = false := by simpa using hc
        clear hc
        have z36 := H24.out.cell 1 rfl 0 rfl
        have z37 := H24.out.cell 1 rfl 1 rfl
        have z38 := H24.out.cell 1 rfl 2 rfl
        have z39 := H24.out.cell 1 rfl 3 rfl
        have z40 := H24.out.cell 0 rfl 0 rfl
        have z41 := H24.out.cell 0 rfl 1 rfl
        have z42 := H24.out.cell 0 rfl 2 rfl
        have z43 := H24.out.cell 0 rfl 3 rfl
        go_wp2_with fail
        clear z36 z37 z38 z39 z40 z41 z42 z43
        go_ret
        exact ⟨ret_b ((pEq_false fun e => HM.out e.2.2.1).symm), by first | exact H24.out.below | exact H24.out.below'⟩
    · skip
      have HH := hid hc
      have HHa : (h == h') = false := by simpa using hc
      clear hc
      have z44 := H24.out.cell 1 rfl 0 rfl
      have z45 := H24.out.cell 1 rfl 1 rfl
      have z46 := H24.out.cell 1 rfl 2 rfl
      have z47 := H24.out.cell 1 rfl 3 rfl
      have z48 := H24.out.cell 0 rfl 0 rfl
      have z49 := H24.out.cell 0 rfl 1 rfl
      have z50 := H24.out.cell 0 rfl 2 rfl
      have z51 := H24.out.cell 0 rfl 3 rfl
      go_wp2_with fail
      clear z44 z45 z46 z47 z48 z49 z50 z51
      go_ret
      exact ⟨ret_b ((pEq_false fun e => HH.out e.2.1).symm), by first | exact H24.out.below | exact H24.out.below'⟩
  · skip
    have HW := hid hc
    have HWa : (w == w') = false := by simpa using hc
    clear hc
    have z52 := H24.out.cell 1 rfl 0 rfl
    have z53 := H24.out.cell 1 rfl 1 rfl
    have z54 := H24.out.cell 1 rfl 2 rfl
    have z55 := H24.out.cell 1 rfl 3 rfl
    have z56 := H24.out.cell 0 rfl 0 rfl
    have z57 := H24.out.cell 0 rfl 1 rfl
    have z58 := H24.out.cell 0 rfl 2 rfl
    have z59 := H24.out.cell 0 rfl 3 rfl
    go_wp2_with fail
    clear z52 z53 z54 z55 z56 z57 z58 z59
    go_ret
    exact ⟨ret_b ((pEq_false fun e => HW.out e.1).symm), by first | exact H24.out.below | exact H24.out.below'⟩
end Go.Proofs.Ytoojiabdgaflgaa
