/-
  Contracts: new planes, equal lists and equal planes, in the program. copy into a row that the call made itself. Contracts: crops, in the program and in the reference. Contracts: the greatest of a list, and a copy of a list.
-/
import Derived.Test.YtoojiabdgaflgaaKB
import Derived.Test.YtoojiabdgaflgaaKC
import Derived.Test.YtoojiabdgaflgaaKA
import Derived.Laws.CopyOwn
import Derived.Test.YtoojiabdgaflgaaKH
import Derived.WalkLawsBesides
import Derived.WalkSpells
namespace Go.Proofs.Ytoojiabdgaflgaa
section
open Go.RowKit
attribute [local go_sem ↓] Go.wp_at_zero Go.wp_at_succ
set_option linter.unusedVariables false
set_option linter.unusedSimpArgs false

set_option maxRecDepth 100000 in
set_option maxHeartbeats 1600000 in
theorem pnew_any (w h mx : Int) (W : World) : Calls Try.prog 55 #[.int .i64 w, .int .i64 h, .int .i64 mx] W (NewPost w h mx W) := by
  obtain ⟨B, hB⟩ : ∃ B, W.heap.size = B := ⟨_, rfl⟩
  have HI0 := hid (St.init hB)
  go_enter Try.func55, Try.ntmps55
  go_upto_region 1 with fail
  have H1 := hid (show St B W [.cells B #[.int .i64 0, .int .i64 0, .int .i64 0, .slice none 0 0] 26] [] (W.alloc (.cells #[.int .i64 0, .int .i64 0, .int .i64 0, .slice none 0 0] 26)) from (HI0.out.alloc #[.int .i64 0, .int .i64 0, .int .i64 0, .slice none 0 0] 26 hB))
  first | refine gen_code H1.out ?_ | refine gen_list H1.out ?_ | refine gen_calls H1.out ?_
  intro w2 hG
  clear H1
  have H1 := hid hG
  clear hG
  go_wp2_with fail
  refine (area_any _ _ _ _).mono ?_
  rintro e w3 ⟨rfl, hsw⟩
  have hsw2 : w2 = w3 := by first | exact hsw | exact hsw.symm
  clear hsw
  subst hsw2
  obtain ⟨ar, har⟩ : ∃ z, pArea1 w h mx = z := ⟨_, rfl⟩
  have HAR := hid har
  rw [har]
  clear har
  have HPO := hid (show ∃ b, pOk w h mx = b from ⟨_, rfl⟩)
  obtain ⟨pk, hpk⟩ := HPO.out
  rw [hpk]
  cases pk with
  | true =>
    have HI := hid (show ∀ x, nIf w h mx x = x from fun x => by unfold nIf; rw [if_pos hpk])
    obtain ⟨p1, p2, p3, p4, p5, p6, p7⟩ := pOk_iff.1 hpk
    have p0 := Int.mul_nonneg (a := w) (b := h) (by omega) (by omega)
    obtain ⟨N, hN⟩ : ∃ N : Nat, w * h = N := ⟨(w * h).toNat, by omega⟩
    have HL := hid (show nList w h mx = List.replicate N 0 by unfold nList; rw [if_pos hpk, hN]; rfl)
    have N1 : N ≤ 4096 := by omega
    have hae : ar = (N : Int) := by rw [← HAR.out, ← hN]; unfold pArea1; rw [if_pos hpk]
    subst hae
    have HP := hid hpk
    clear hpk p0 hN HAR HPO
    have hBD : B ≤ w2.heap.size := H1.out.size
    obtain ⟨D5, hD5⟩ : ∃ D, w2.heap.size = D := ⟨_, rfl⟩
    go_wp2_with (at_make; refine make_int rfl _ _ rfl D5 _ _ N rfl rfl (by rfl) (by rfl) (by omega) (by omega) ?_; intro w6 ho hb; rw [hD5] at ho ⊢; have H4 := hid (H1.out.made hD5 ho hb); clear ho hb; have y0 := H4.out.cell 1 rfl 0 rfl; have y1 := H4.out.cell 1 rfl 1 rfl; have y2 := H4.out.cell 1 rfl 2 rfl; have y3 := H4.out.cell 1 rfl 3 rfl; have e0 := H4.out.free 1 rfl 0; have e1 := H4.out.free 1 rfl 1; have e2 := H4.out.free 1 rfl 2; have e3 := H4.out.free 1 rfl 3)
    have HZ := hid (H4.out.set4 1 rfl (.int .i64 w) (.int .i64 h) (.int .i64 mx) (.slice (some ⟨D5, 0, none⟩) N N))
    have k0 := HZ.out.cell 1 rfl 0 rfl
    have k1 := HZ.out.cell 1 rfl 1 rfl
    have k2 := HZ.out.cell 1 rfl 2 rfl
    have k3 := HZ.out.cell 1 rfl 3 rfl
    refine bodyPost_ret (v := .tuple #[.agg #[.int .i64 w, .int .i64 h, .int .i64 mx, .slice (some ⟨D5, 0, none⟩) N N], .bool true]) ?_ rfl ⟨_, by rw [HI.out, HI.out, HI.out, HP.out], by rw [HL.out, hB]; exact HZ.out.own 0 rfl, by first | exact HZ.out.below | exact HZ.out.below'⟩
    unfold set4 at k0 k1 k2 k3
    simp [results, Try.results55, go_sem, k0, k1, k2, k3]
  | false =>
    have HI := hid (show ∀ x, nIf w h mx x = 0 from fun x => by unfold nIf; rw [if_neg (by rw [hpk]; simp)])
    have HL := hid (show nList w h mx = [] by unfold nList; rw [if_neg (by rw [hpk]; simp)])
    have HP := hid hpk
    clear hpk HPO
    have z7 := H1.out.cell 0 rfl 0 rfl
    have z8 := H1.out.free 0 rfl 0
    have z9 := H1.out.cell 0 rfl 1 rfl
    have z10 := H1.out.free 0 rfl 1
    have z11 := H1.out.cell 0 rfl 2 rfl
    have z12 := H1.out.free 0 rfl 2
    have z13 := H1.out.cell 0 rfl 3 rfl
    have z14 := H1.out.free 0 rfl 3
    go_wp2_with fail
    clear z7 z8 z9 z10 z11 z12 z13 z14
    have H15 := hid (show St B W [.cells B #[.int .i64 0, .int .i64 0, .int .i64 0, .slice none 0 0] 26] [] ((((w2.setCell ⟨B, 0, none⟩ (.int .i64 0)).setCell ⟨B, 1, none⟩ (.int .i64 0)).setCell ⟨B, 2, none⟩ (.int .i64 0)).setCell ⟨B, 3, none⟩ (.slice none 0 0)) from (H1.out.set4 0 rfl (.int .i64 0) (.int .i64 0) (.int .i64 0) (.slice none 0 0)))
    have q16 := H15.out.cell 0 rfl 0 rfl
    have q17 := H15.out.cell 0 rfl 1 rfl
    have q18 := H15.out.cell 0 rfl 2 rfl
    have q19 := H15.out.cell 0 rfl 3 rfl
    refine bodyPost_ret (v := .tuple #[.agg #[.int .i64 0, .int .i64 0, .int .i64 0, .slice none 0 0], .bool false]) ?_ rfl ⟨_, by rw [HI.out, HI.out, HI.out, HP.out], by rw [HL.out]; exact Own.nil _ _, by first | exact H15.out.below | exact H15.out.below'⟩
    simp [results, Try.results55, go_sem, q16, q17, q18, q19]

set_option maxRecDepth 100000 in
set_option maxHeartbeats 1600000 in
theorem sequal_any (a : Option Addr) (n c : Nat) (xs : List Int) (a' : Option Addr) (n' c' : Nat) (ys : List Int) (W : World) (hx : Slc W a n c xs) (hy : Slc W a' n' c' ys) :
    Calls Try.prog 81 #[.slice a n c, .slice a' n' c'] W fun e w' => e = .returned (.bool (lEq xs ys)) ∧ Below W.heap.size W w' := by
  obtain ⟨B, hB⟩ : ∃ B, W.heap.size = B := ⟨_, rfl⟩
  have HI0 := hid (St.init hB)
  have HX := hid hx
  have HY := hid hy
  have LX := hid hx.len
  have LY := hid hy.len
  obtain ⟨nc1, nc2⟩ := And.intro hx.nc hx.cap
  have nm : (n : Int) ≤ 9223372036854775807 := by omega
  clear hx hy nc1 nc2
  go_enter Try.func81, Try.ntmps81
  by_cases hn : n = n'
  · skip
    have hN := hid hn
    obtain ⟨hn1, hn2⟩ : n ≤ n' ∧ n' ≤ n := by omega
    have h1 : ((n : Int) != (n' : Int)) = false := by rw [hn]; simp
    have h3 : ((n : Int) == (n' : Int)) = true := by rw [hn]; simp
    clear hn
    go_wp2_with fail
    go_loopw [13] (fun i wr => ∃ j : Nat, j ≤ n ∧ i = .int .i64 j ∧ (∀ i, i < j → xs.getD i 0 = ys.getD i 0) ∧ St B W [] [] wr) (fun i _ => n - (intOf i).toNat)
    case atStart => exact ⟨0, by omega, rfl, fun i hi => by omega, HI0.out⟩
    case round =>
      obtain ⟨j, hj, rfl, ha, hst⟩ := hrel
      obtain ⟨u20, rfl⟩ : ∃ u20 : World, u20 = wr := ⟨_, rfl⟩
      have H21 := hid hst
      clear hst
      have HA := hid ha
      clear ha
      by_cases hjn : j < n
      · skip
        have hjn' : (j : Int) < n := by omega
        obtain ⟨b, o, hab⟩ := row_at HX.out.row (by omega)
        obtain ⟨b', o', hab'⟩ := row_at HY.out.row (by omega)
        subst hab hab'
        have HBX := hid (fun h : xs.getD j 0 ≠ ys.getD j 0 => ne_of_getD (by have := LX.out; omega) (by have := LY.out; omega) h)
        have HI := hid (show xs.getD j 0 = ys.getD j 0 → ∀ i, i < j + 1 → xs.getD i 0 = ys.getD i 0 from fun hg i hi => by
          rcases Nat.lt_or_ge i j with h' | h'
          · exact HA.out i h'
          · obtain rfl : i = j := by omega
            exact hg)
        obtain ⟨x, hx⟩ : ∃ z, xs.getD j 0 = z := ⟨_, rfl⟩
        obtain ⟨y, hy⟩ : ∃ z, ys.getD j 0 = z := ⟨_, rfl⟩
        rw [hx, hy] at HBX HI
        have HXJ := hid hx
        have HYJ := hid hy
        clear hx hy
        have hjm' : (j : Int) < n' := by omega
        go_upto_region 6 with fail
        have H22 := hid H21.out.drew
        refine wp_region_held_drew (S := (fun w' => w'.cell? ⟨b, o + j, none⟩ = some (.int .i64 x) ∧ w'.cell? ⟨b', o' + j, none⟩ = some (.int .i64 y))) (by kernel_rfl) ⟨(by have := row_cell (H22.out.old HX.out).row hjn; rw [HXJ.out] at this; exact this), (by have := row_cell (H22.out.old HY.out).row (j := j) (by omega); rw [HYJ.out] at this; exact this)⟩ (fun hHeld => ?_)
        generalize u20.drew = k23 at *
        refine wpAnyH_take (i := 0) (oi := _) (v := ?_) rfl (by kernel_rfl) (by kernel_rfl) (by kernel_rfl) (fun _ _ _ h => h) (Or.inl ⟨by rfl, ?_⟩) (by assumption) ?_
        rotate_left
        focus (intro wS hSw; (try dsimp only at hSw); go_simp; (try with_reducible rfl))
        try simp only [Act.put, List.getElem_toArray, List.getElem_cons_zero, List.getElem_cons_succ, List.setIfInBounds_toArray, List.set_cons_zero, List.set_cons_succ]
        refine wpAnyH_take (i := 1) (oi := _) (v := ?_) rfl (by kernel_rfl) (by kernel_rfl) (by kernel_rfl) (fun _ _ _ h => h) (Or.inl ⟨by rfl, ?_⟩) (by assumption) ?_
        rotate_left
        focus (intro wS hSw; (try dsimp only at hSw); go_simp; (try with_reducible rfl))
        try simp only [Act.put, List.getElem_toArray, List.getElem_cons_zero, List.getElem_cons_succ, List.setIfInBounds_toArray, List.set_cons_zero, List.set_cons_succ]
        refine wpAnyH_take (i := 2) (oi := _) (v := ?_) rfl (by kernel_rfl) (by kernel_rfl) (by kernel_rfl) (fun _ _ _ h => h) (Or.inl ⟨by rfl, ?_⟩) (by assumption) ?_
        rotate_left
        focus (intro wS hSw; (try dsimp only at hSw); go_simp; (try with_reducible rfl))
        try simp only [Act.put, List.getElem_toArray, List.getElem_cons_zero, List.getElem_cons_succ, List.setIfInBounds_toArray, List.set_cons_zero, List.set_cons_succ]
        refine wpAnyH_take (i := 3) (oi := _) (v := ?_) rfl (by kernel_rfl) (by kernel_rfl) (by kernel_rfl) (fun _ _ _ h => h) (Or.inl ⟨by rfl, ?_⟩) (by assumption) ?_
        rotate_left
        focus (intro wS hSw; (try dsimp only at hSw); go_simp; (try with_reducible rfl))
        try simp only [Act.put, List.getElem_toArray, List.getElem_cons_zero, List.getElem_cons_succ, List.setIfInBounds_toArray, List.set_cons_zero, List.set_cons_succ]
        refine wpAnyH_take (i := 4) (oi := _) (v := ?_) rfl (by kernel_rfl) (by kernel_rfl) (by kernel_rfl) (fun _ _ _ h => h) (Or.inl ⟨by rfl, ?_⟩) (by assumption) ?_
        rotate_left
        focus (intro wS hSw; (try dsimp only at hSw); go_simp; (try with_reducible rfl))
        try simp only [Act.put, List.getElem_toArray, List.getElem_cons_zero, List.getElem_cons_succ, List.setIfInBounds_toArray, List.set_cons_zero, List.set_cons_succ]
        refine wpAnyH_take (i := 5) (oi := _) (v := ?_) rfl (by kernel_rfl) (by kernel_rfl) (by kernel_rfl) (fun _ _ _ h => h) (Or.inl ⟨by rfl, ?_⟩) (by assumption) ?_
        rotate_left
        focus (intro wS hSw; (try dsimp only at hSw); go_simp; (try with_reducible rfl))
        try simp only [Act.put, List.getElem_toArray, List.getElem_cons_zero, List.getElem_cons_succ, List.setIfInBounds_toArray, List.set_cons_zero, List.set_cons_succ]
        refine wpAnyH_take (i := 6) (oi := _) (v := ?_) rfl (by kernel_rfl) (by kernel_rfl) (by kernel_rfl) (fun _ _ _ h => h) (Or.inl ⟨by rfl, ?_⟩) (by assumption) ?_
        rotate_left
        focus (intro wS hSw; (try dsimp only at hSw); go_simp; (try with_reducible rfl))
        try simp only [Act.put, List.getElem_toArray, List.getElem_cons_zero, List.getElem_cons_succ, List.setIfInBounds_toArray, List.set_cons_zero, List.set_cons_succ]
        refine wpAnyH_take (i := 7) (oi := _) (v := ?_) rfl (by kernel_rfl) (by kernel_rfl) (by kernel_rfl) (fun _ _ _ h => h) (Or.inl ⟨by rfl, ?_⟩) (by assumption) ?_
        rotate_left
        focus (intro wS hSw; (try dsimp only at hSw); go_simp; (try with_reducible rfl))
        try simp only [Act.put, List.getElem_toArray, List.getElem_cons_zero, List.getElem_cons_succ, List.setIfInBounds_toArray, List.set_cons_zero, List.set_cons_succ]
        refine wpAnyH_take (i := 8) (oi := _) (v := ?_) rfl (by kernel_rfl) (by kernel_rfl) (by kernel_rfl) (fun _ _ _ h => h) (Or.inl ⟨by rfl, ?_⟩) (by assumption) ?_
        rotate_left
        focus (intro wS hSw; (try dsimp only at hSw); go_simp; (try with_reducible rfl))
        try simp only [Act.put, List.getElem_toArray, List.getElem_cons_zero, List.getElem_cons_succ, List.setIfInBounds_toArray, List.set_cons_zero, List.set_cons_succ]
        refine wpAnyH_done (by kernel_rfl) ?_ _
        try clear hHeld
        by_cases hxy : x = y
        · skip
          have HXY := hid hxy
          have h4 : (x != y) = false := by simp [hxy]
          have h5 : (x == y) = true := by simp [hxy]
          clear hxy
          go_wp2_with fail
          go_roundw
          case rel => exact ⟨j + 1, by omega, by go_num, HI.out HXY.out, H22.out⟩
          case measure => first | (simp [intOf]; omega) | (simp [intOf]; done)
        · skip
          have HXY := hid hxy
          have h4 : (x != y) = true := by simp [hxy]
          have h5 : (x == y) = false := by simp [hxy]
          clear hxy
          go_wp2_with fail
          go_ret
          exact ⟨ret_b (by unfold lEq; rw [eq_comm, decide_eq_false_iff_not]; exact HBX.out HXY.out), by first | exact H22.out.below | exact H22.out.below'⟩
      · skip
        have hjn' : ¬ ((j : Int) < n) := by omega
        go_wp2_with fail
        go_ret
        exact ⟨ret_b (by unfold lEq; rw [eq_comm, decide_eq_true_eq]; exact eq_of_getD (by rw [LX.out, LY.out]; exact hN.out) (fun i hi => HA.out i (by rw [LX.out] at hi; omega))), by first | exact H21.out.below | exact H21.out.below'⟩
  · skip
    have HNN := hid hn
    have h1 : ((n : Int) != (n' : Int)) = true := by simp; omega
    have h3 : ((n : Int) == (n' : Int)) = false := by simp; omega
    go_wp2_with fail
    go_ret
    exact ⟨ret_b (by unfold lEq; rw [eq_comm, decide_eq_false_iff_not]; exact fun e => HNN.out (by rw [← LX.out, ← LY.out, e])), by first | exact HI0.out.below | exact HI0.out.below'⟩

set_option maxRecDepth 100000 in
set_option maxHeartbeats 1600000 in
theorem pequal_any (w h m : Int) (a : Option Addr) (n c : Nat) (xs : List Int) (w' h' m' : Int) (a' : Option Addr) (n' c' : Nat) (ys : List Int) (W : World) (hx : Slc W a n c xs) (hy : Slc W a' n' c' ys) :
    Calls Try.prog 51 #[.agg #[.int .i64 w, .int .i64 h, .int .i64 m, .slice a n c], .agg #[.int .i64 w', .int .i64 h', .int .i64 m', .slice a' n' c']] W fun e u => e = .returned (.bool (pEq w h m xs w' h' m' ys)) ∧ Below W.heap.size W u := by
  obtain ⟨B, hB⟩ : ∃ B, W.heap.size = B := ⟨_, rfl⟩
  have HI0 := hid (St.init hB)
  have HX := hid hx
  have HY := hid hy
  clear hx hy
  go_enter Try.func51, Try.ntmps51
  go_upto_region 1 with fail
  have H24 := hid (show St B W [.cells (B + 1) #[.int .i64 w', .int .i64 h', .int .i64 m', .slice a' n' c'] 26, .cells B #[.int .i64 w, .int .i64 h, .int .i64 m, .slice a n c] 26] [] ((W.alloc (.cells #[.int .i64 w, .int .i64 h, .int .i64 m, .slice a n c] 26)).alloc (.cells #[.int .i64 w', .int .i64 h', .int .i64 m', .slice a' n' c'] 26)) from ((HI0.out.alloc #[.int .i64 w, .int .i64 h, .int .i64 m, .slice a n c] 26 hB).alloc #[.int .i64 w', .int .i64 h', .int .i64 m', .slice a' n' c'] 26 (by first | exact hB | simp [hB])))
  first | refine gen_code H24.out ?_ | refine gen_list H24.out ?_ | refine gen_calls H24.out ?_
  intro w25 hG
  clear H24
  have H24 := hid hG
  clear hG
  by_cases hc : w = w'
  · skip
    have HW := hid hc
    have HWa : (w == w') = true := by simpa using hc
    clear hc
    by_cases hc : h = h'
    · skip
      have HH := hid hc
      have HHa : (h == h') = true := by simpa using hc
      clear hc
      by_cases hc : m = m'
      · skip
        have HM := hid hc
        have HMa : (m == m') = true := by simpa using hc
        clear hc
        have z26 := H24.out.cell 1 rfl 0 rfl
        have z27 := H24.out.cell 1 rfl 1 rfl
        have z28 := H24.out.cell 1 rfl 2 rfl
        have z29 := H24.out.cell 1 rfl 3 rfl
        have z30 := H24.out.cell 0 rfl 0 rfl
        have z31 := H24.out.cell 0 rfl 1 rfl
        have z32 := H24.out.cell 0 rfl 2 rfl
        have z33 := H24.out.cell 0 rfl 3 rfl
        go_wp2_with fail
        clear z26 z27 z28 z29 z30 z31 z32 z33
        refine (sequal_any _ _ _ xs _ _ _ ys _ (H24.out.old HX.out) (H24.out.old HY.out)).mono ?_
        rintro e w34 ⟨rfl, hb⟩
        have H35 := hid (H24.out.call hb)
        clear hb
        go_wp2_with fail
        go_ret
        exact ⟨ret_b (by unfold pEq lEq; rw [HW.out, HH.out, HM.out]; simp), by first | exact H35.out.below | exact H35.out.below'⟩
      · skip
        have HM := hid hc
        have HMa : (m == m') = false := by simpa using hc
        clear hc
        have z36 := H24.out.cell 1 rfl 0 rfl
        have z37 := H24.out.cell 1 rfl 1 rfl
        have z38 := H24.out.cell 1 rfl 2 rfl
        have z39 := H24.out.cell 1 rfl 3 rfl
        have z40 := H24.out.cell 0 rfl 0 rfl
        have z41 := H24.out.cell 0 rfl 1 rfl
        have z42 := H24.out.cell 0 rfl 2 rfl
        have z43 := H24.out.cell 0 rfl 3 rfl
        go_wp2_with fail
        clear z36 z37 z38 z39 z40 z41 z42 z43
        go_ret
        exact ⟨ret_b ((pEq_false fun e => HM.out e.2.2.1).symm), by first | exact H24.out.below | exact H24.out.below'⟩
    · skip
      have HH := hid hc
      have HHa : (h == h') = false := by simpa using hc
      clear hc
      have z44 := H24.out.cell 1 rfl 0 rfl
      have z45 := H24.out.cell 1 rfl 1 rfl
      have z46 := H24.out.cell 1 rfl 2 rfl
      have z47 := H24.out.cell 1 rfl 3 rfl
      have z48 := H24.out.cell 0 rfl 0 rfl
      have z49 := H24.out.cell 0 rfl 1 rfl
      have z50 := H24.out.cell 0 rfl 2 rfl
      have z51 := H24.out.cell 0 rfl 3 rfl
      go_wp2_with fail
      clear z44 z45 z46 z47 z48 z49 z50 z51
      go_ret
      exact ⟨ret_b ((pEq_false fun e => HH.out e.2.1).symm), by first | exact H24.out.below | exact H24.out.below'⟩
  · skip
    have HW := hid hc
    have HWa : (w == w') = false := by simpa using hc
    clear hc
    have z52 := H24.out.cell 1 rfl 0 rfl
    have z53 := H24.out.cell 1 rfl 1 rfl
    have z54 := H24.out.cell 1 rfl 2 rfl
    have z55 := H24.out.cell 1 rfl 3 rfl
    have z56 := H24.out.cell 0 rfl 0 rfl
    have z57 := H24.out.cell 0 rfl 1 rfl
    have z58 := H24.out.cell 0 rfl 2 rfl
    have z59 := H24.out.cell 0 rfl 3 rfl
    go_wp2_with fail
    clear z52 z53 z54 z55 z56 z57 z58 z59
    go_ret
    exact ⟨ret_b ((pEq_false fun e => HW.out e.1).symm), by first | exact H24.out.below | exact H24.out.below'⟩
end

section
open Go.RowKit

theorem take_splice {α : Type} (L : List α) (off n : Nat) (cs : List α) (h : off + cs.length ≤ n) (hn : n ≤ L.length) : (splice L off cs).take n = splice (L.take n) off cs := by
  refine List.ext_getElem? fun i => ?_
  unfold splice
  simp only [List.getElem?_take, List.getElem?_append, List.getElem?_drop, List.length_take]
  have e1 : min off L.length = off := by omega
  have e2 : min off (min n L.length) = off := by omega
  rw [e1, e2]
  by_cases h1 : i < off
  · have : i < n := by omega
    simp [h1, this]
  · by_cases h2 : i - off < cs.length
    · have : i < n := by omega
      simp [h1, h2, this]
    · by_cases h3 : i < n
      · have : off + cs.length + (i - off - cs.length) < n := by omega
        simp [h1, h2, h3, this]
      · have : ¬ (off + cs.length + (i - off - cs.length) < n) := by omega
        simp [h1, h2, h3, this]
theorem map_splice {α β : Type} (f : α → β) (L : List α) (off : Nat) (cs : List α) : (splice L off cs).map f = splice (L.map f) off (cs.map f) := by
  unfold splice; simp [List.map_append, List.map_take, List.map_drop]

theorem oper_copy_own {o : Oper} {a : Act} {Q : Exit → Act → World → Prop} {K : Act → World → Prop} {w : World} (d s : Operand)
    (ho : o.op = .call { callee := .builtin .copy, args := #[d, s], argTypes := #[22, 22] })
    (base g off n cp dc m b f sc : Nat) (zs ys : List Int) (hd : a.eval d = .slice (some ⟨g, off, none⟩) m dc) (hs : a.eval s = .slice (some ⟨b, f, none⟩) m sc)
    (hown : Own base w (.slice (some ⟨g, 0, none⟩) n cp) zs) (hrow : Row w .i64 (some ⟨b, f, none⟩) m ys) (hfit : off + m ≤ zs.length)
    (h : ∀ w', Own base w' (.slice (some ⟨g, 0, none⟩) n cp) (splice zs off ys) → w.grownBy w' (some g) → K (a.put o.dst (.int .i64 m)) w') : o.wp Try.prog a w K Q := by
  have hl := hrow.len
  have hlen : (splice zs off ys).length = zs.length := length_splice _ _ _ (by omega)
  rcases hown.2 with ⟨e, _⟩ | ⟨g', cap, cur, e, hb, hg, h1, h2, h3, h4⟩
  · cases e
  cases e
  have hsz : (Try.prog.info? 3).map (·.size) = some 1 := by kernel_rfl
  have hx := hown.1
  simp only [List.length_map, Nat.mul_one] at hx h3 h4
  have hcl : (ys.map (Value.int .i64)).length = m := by rw [List.length_map, hl]
  have hrun := run_copy_row (P := Try.prog) w 22 22 o.type 3 g off m dc ⟨b, f, none⟩ m sc cur 3 (ys.map (Value.int .i64)) Try.underlying22 hsz hg (by rw [hcl]; simp) (fun j v hv => by
    rw [List.getElem?_map] at hv
    cases hy : ys[j]? with
    | none => rw [hy] at hv; simp at hv
    | some y =>
      rw [hy] at hv; simp at hv; subst hv
      obtain ⟨hlt, _⟩ := List.getElem?_eq_some_iff.1 hy
      have := row_cell hrow (j := j) (by omega)
      rw [List.getD_eq_getElem?_getD, hy] at this
      simp only [Addr.add]
      split
      · rename_i e; subst e; rw [Nat.add_zero] at this; exact this
      · exact this) (by rw [hcl]; omega) (by intro v hv; obtain ⟨y, _, rfl⟩ := List.mem_map.1 hv; rfl)
  have e0 : List.take off cur.toList ++ ys.map (Value.int .i64) ++ List.drop (off + (ys.map (Value.int .i64)).length) cur.toList = splice cur.toList off (ys.map (Value.int .i64)) := by unfold splice; rw [List.append_assoc]
  have hsp : (splice cur.toList off (ys.map (Value.int .i64))).length = cur.size := by rw [length_splice _ _ _ (by rw [hcl]; simp; omega)]; simp
  have hfin := h (w.setRow g (splice cur.toList off (ys.map (Value.int .i64))).toArray) (by
    refine ⟨by simp, .inr ⟨g, cp, _, by rw [hlen], hb, setRow_heap w g cur _ 3 _ hg, by omega, h2, by simp only [Array.size, Nat.mul_one]; rw [hsp]; omega, ?_⟩⟩
    show List.take ((splice zs off ys).length * 1) (splice cur.toList off (ys.map (Value.int .i64))) = (splice zs off ys).map (Value.int .i64)
    rw [Nat.mul_one, hlen, take_splice _ _ _ _ (by rw [hcl]; omega) (by simp; omega), h4, map_splice])
    ⟨rfl, rfl, rfl, by simp [World.setRow], fun k _ hk => setRow_other w g k _ (fun e => hk (by rw [e]))⟩
  unfold Oper.wp
  rw [e0] at hrun
  simp [execOp, ho, resolve, invoke, builtin, hd, hs, hrun, Result.andThen, hl]
  exact hfin
end

section
open Go.RowKit
attribute [local go_sem ↓] Go.wp_at_zero Go.wp_at_succ
set_option linter.unusedVariables false
set_option linter.unusedSimpArgs false

def cOk (w h mx : Int) (zs : List Int) (r0 r1 r2 r3 : Int) : Bool := pValid w h mx zs && (!rEmpty r0 r1 r2 r3 && rInside r0 r1 r2 r3 0 0 w h)
def cIf (w h mx : Int) (zs : List Int) (r0 r1 r2 r3 x : Int) : Int := if cOk w h mx zs r0 r1 r2 r3 = true then x else 0
def cAll (w : Int) (zs : List Int) (r0 r1 r2 r3 : Int) : List Int := gridL (tPix w zs r0 r1) (r2 - r0).toNat (r3 - r1).toNat 0
def cList (w h mx : Int) (zs : List Int) (r0 r1 r2 r3 : Int) : List Int := if cOk w h mx zs r0 r1 r2 r3 = true then cAll w zs r0 r1 r2 r3 else []
def CropPost (w h mx : Int) (zs : List Int) (r0 r1 r2 r3 : Int) (W : World) (e : Ending) (w' : World) : Prop :=
  ∃ v, e = .returned (.tuple #[.agg #[.int .i64 (cIf w h mx zs r0 r1 r2 r3 (r2 - r0)), .int .i64 (cIf w h mx zs r0 r1 r2 r3 (r3 - r1)), .int .i64 (cIf w h mx zs r0 r1 r2 r3 mx), v], .bool (cOk w h mx zs r0 r1 r2 r3)]) ∧
    Own W.heap.size w' v (cList w h mx zs r0 r1 r2 r3) ∧ Below W.heap.size W w'
theorem crop_no {w h mx : Int} {zs : List Int} {r0 r1 r2 r3 : Int} {W w' : World} (hk : cOk w h mx zs r0 r1 r2 r3 = false) (hb : Below W.heap.size W w') :
    CropPost w h mx zs r0 r1 r2 r3 W (.returned (.tuple #[.agg #[.int .i64 0, .int .i64 0, .int .i64 0, .slice none 0 0], .bool false])) w' := by
  have hi : ∀ x, cIf w h mx zs r0 r1 r2 r3 x = 0 := fun x => by unfold cIf; rw [hk]; simp
  refine ⟨_, by rw [hi, hi, hi, hk], ?_, hb⟩
  have : cList w h mx zs r0 r1 r2 r3 = [] := by unfold cList; rw [hk]; simp
  rw [this]; exact Own.nil _ _
/-- The facts of a crop that is permitted. -/
theorem crop_in {w h mx : Int} {zs : List Int} {r0 r1 r2 r3 : Int} (hv : pValid w h mx zs = true) (he : rEmpty r0 r1 r2 r3 = false) (hi : rInside r0 r1 r2 r3 0 0 w h = true) :
    cOk w h mx zs r0 r1 r2 r3 = true ∧ (0 ≤ r0 ∧ r0 < r2 ∧ r2 ≤ w ∧ 0 ≤ r1 ∧ r1 < r3 ∧ r3 ≤ h) ∧ pOk (r2 - r0) (r3 - r1) mx = true := by
  obtain ⟨p1, p2, p3, p4, p5, p6, p7⟩ := pOk_iff.1 (pValid_iff.1 hv).1
  have hx : (!rEmpty r0 r1 r2 r3 && rInside r0 r1 r2 r3 0 0 w h) = true := by rw [he, hi]; rfl
  have hin := (inside_iff p1 p2 p3 p4).1 hx
  refine ⟨by unfold cOk; rw [hv, hx]; rfl, hin, pOk_iff.2 ⟨by omega, by omega, by omega, by omega, ?_, p6, p7⟩⟩
  have := Int.mul_le_mul (a := r2 - r0) (c := w) (b := r3 - r1) (d := h) (by omega) (by omega) (by omega) (by omega)
  omega
theorem fillL_splice {f : Nat → Nat → Int} {wd k N : Nat} (h : k * wd + wd ≤ N) : splice (fillL f wd k 0 N) (k * wd) ((List.range wd).map (f k)) = fillL f wd (k + 1) 0 N := by
  have e : (gridL f wd k 0).length = k * wd := by rw [gridL_len]; rfl
  unfold splice fillL
  rw [List.take_left' e, List.length_map, List.length_range, List.drop_append, e, List.drop_eq_nil_of_le (by rw [e]; omega), List.nil_append, List.drop_replicate, ← List.append_assoc]
  congr 1
  · simp [gridL, List.range_succ]
  · rw [Nat.add_mul, Nat.one_mul]; congr 1; omega
theorem part_row {w : Int} {zs : List Int} {r0 r1 : Int} {k wd S : Nat} (hS : (r1 + (k : Int)) * w + r0 = (S : Int)) (h : S + wd ≤ zs.length) : (zs.drop S).take wd = (List.range wd).map (tPix w zs r0 r1 k) := by
  refine List.ext_getElem (by simp; omega) fun i h1 h2 => ?_
  simp at h1 h2
  simp only [List.getElem_take, List.getElem_drop, List.getElem_map, List.getElem_range]
  unfold tPix
  have e : ((r1 + (k : Int)) * w + r0 + (i : Int)).toNat = S + i := by omega
  rw [e, List.getD_eq_getElem?_getD, List.getElem?_eq_getElem (by omega)]
  rfl

set_option maxRecDepth 100000 in
set_option maxHeartbeats 6400000 in
theorem pcrop_any (w h mx : Int) (a : Option Addr) (n c : Nat) (zs : List Int) (r0 r1 r2 r3 : Int) (W : World) (hs : Slc W a n c zs) :
    Calls Try.prog 49 #[.agg #[.int .i64 w, .int .i64 h, .int .i64 mx, .slice a n c], .agg #[.int .i64 r0, .int .i64 r1, .int .i64 r2, .int .i64 r3]] W (CropPost w h mx zs r0 r1 r2 r3 W) := by
  obtain ⟨B, hB⟩ : ∃ B, W.heap.size = B := ⟨_, rfl⟩
  have HI0 := hid (St.init hB)
  have HS := hid hs
  have HL := hid hs.len
  have hnc : n ≤ c := hs.nc
  have hcc : (c : Int) ≤ 9223372036854775807 := by have := hs.cap; omega
  clear hs
  go_enter Try.func49, Try.ntmps49
  go_upto_region 1 with fail
  have H1 := hid (show St B W [.cells (B + 1 + 1) #[.int .i64 0, .int .i64 0, .int .i64 0, .slice none 0 0] 26, .cells (B + 1) #[.int .i64 r0, .int .i64 r1, .int .i64 r2, .int .i64 r3] 39, .cells B #[.int .i64 w, .int .i64 h, .int .i64 mx, .slice a n c] 26] [] (((W.alloc (.cells #[.int .i64 w, .int .i64 h, .int .i64 mx, .slice a n c] 26)).alloc (.cells #[.int .i64 r0, .int .i64 r1, .int .i64 r2, .int .i64 r3] 39)).alloc (.cells #[.int .i64 0, .int .i64 0, .int .i64 0, .slice none 0 0] 26)) from (((HI0.out.alloc #[.int .i64 w, .int .i64 h, .int .i64 mx, .slice a n c] 26 hB).alloc #[.int .i64 r0, .int .i64 r1, .int .i64 r2, .int .i64 r3] 39 (by first | exact hB | simp [hB])).alloc #[.int .i64 0, .int .i64 0, .int .i64 0, .slice none 0 0] 26 (by first | exact hB | simp [hB])))
  first | refine gen_code H1.out ?_ | refine gen_list H1.out ?_ | refine gen_calls H1.out ?_
  intro w2 hG
  clear H1
  have H1 := hid hG
  clear hG
  have z3 := H1.out.cell 2 rfl 0 rfl
  have z4 := H1.out.cell 2 rfl 1 rfl
  have z5 := H1.out.cell 2 rfl 2 rfl
  have z6 := H1.out.cell 2 rfl 3 rfl
  go_wp2_with fail
  clear z3 z4 z5 z6
  refine (pvalid_any _ _ _ _ _ _ _ _ (by have := HS.out.nc; have := HS.out.cap; omega) (H1.out.old HS.out).row).mono ?_
  rintro e w7 ⟨rfl, hb⟩
  have H8 := hid (H1.out.call hb)
  clear hb
  obtain ⟨bv, hbv⟩ : ∃ b, pValid w h mx zs = b := ⟨_, rfl⟩
  rw [hbv]
  have HV := hid hbv
  clear hbv
  cases bv with
  | true =>
    have z9 := H8.out.cell 1 rfl 0 rfl
    have z10 := H8.out.cell 1 rfl 1 rfl
    have z11 := H8.out.cell 1 rfl 2 rfl
    have z12 := H8.out.cell 1 rfl 3 rfl
    go_wp2_with fail
    clear z9 z10 z11 z12
    refine (rempty_any _ _ _ _ _).mono ?_
    rintro e w13 ⟨rfl, hb⟩
    have H14 := hid (H8.out.call hb)
    clear hb
    obtain ⟨be, hbe⟩ : ∃ b, rEmpty r0 r1 r2 r3 = b := ⟨_, rfl⟩
    rw [hbe]
    have HE := hid hbe
    clear hbe
    cases be with
    | true =>
      have z15 := H14.out.cell 0 rfl 0 rfl
      have z16 := H14.out.free 0 rfl 0
      have z17 := H14.out.cell 0 rfl 1 rfl
      have z18 := H14.out.free 0 rfl 1
      have z19 := H14.out.cell 0 rfl 2 rfl
      have z20 := H14.out.free 0 rfl 2
      have z21 := H14.out.cell 0 rfl 3 rfl
      have z22 := H14.out.free 0 rfl 3
      go_wp2_with fail
      clear z15 z16 z17 z18 z19 z20 z21 z22
      have H23 := hid (show St B W [.cells (B + 1 + 1) #[.int .i64 0, .int .i64 0, .int .i64 0, .slice none 0 0] 26, .cells (B + 1) #[.int .i64 r0, .int .i64 r1, .int .i64 r2, .int .i64 r3] 39, .cells B #[.int .i64 w, .int .i64 h, .int .i64 mx, .slice a n c] 26] [] ((((w13.setCell ⟨B + 1 + 1, 0, none⟩ (.int .i64 0)).setCell ⟨B + 1 + 1, 1, none⟩ (.int .i64 0)).setCell ⟨B + 1 + 1, 2, none⟩ (.int .i64 0)).setCell ⟨B + 1 + 1, 3, none⟩ (.slice none 0 0)) from (H14.out.set4 0 rfl (.int .i64 0) (.int .i64 0) (.int .i64 0) (.slice none 0 0)))
      have HNO := hid (show cOk w h mx zs r0 r1 r2 r3 = false by unfold cOk; rw [HE.out]; simp)
      have q24 := H23.out.cell 0 rfl 0 rfl
      have q25 := H23.out.cell 0 rfl 1 rfl
      have q26 := H23.out.cell 0 rfl 2 rfl
      have q27 := H23.out.cell 0 rfl 3 rfl
      refine bodyPost_ret (v := .tuple #[.agg #[.int .i64 0, .int .i64 0, .int .i64 0, .slice none 0 0], .bool false]) ?_ rfl (crop_no HNO.out (by first | exact H23.out.below | exact H23.out.below'))
      simp [results, Try.results49, go_sem, q24, q25, q26, q27]
    | false =>
      have z28 := H14.out.cell 1 rfl 0 rfl
      have z29 := H14.out.cell 1 rfl 1 rfl
      have z30 := H14.out.cell 1 rfl 2 rfl
      have z31 := H14.out.cell 1 rfl 3 rfl
      have z32 := H14.out.cell 2 rfl 0 rfl
      have z33 := H14.out.cell 2 rfl 1 rfl
      have z34 := H14.out.cell 2 rfl 2 rfl
      have z35 := H14.out.cell 2 rfl 3 rfl
      go_wp2_with fail
      clear z28 z29 z30 z31 z32 z33 z34 z35
      refine (rinside_any _ _ _ _ _ _ _ _ _).mono ?_
      rintro e w36 ⟨rfl, hb⟩
      have H37 := hid (H14.out.call hb)
      clear hb
      obtain ⟨bi, hbi⟩ : ∃ b, rInside r0 r1 r2 r3 0 0 w h = b := ⟨_, rfl⟩
      rw [hbi]
      have HIN := hid hbi
      clear hbi
      cases bi with
      | true =>
        obtain ⟨hok, hin, hpk⟩ := crop_in HV.out HE.out HIN.out
        obtain ⟨p1, p2, p3, p4, p5, p6, p7⟩ := pOk_iff.1 (pValid_iff.1 HV.out).1
        obtain ⟨i1, i2, i3, i4, i5, i6⟩ := hin
        have HOK := hid hok
        have HPK := hid hpk
        obtain ⟨wd, hwd⟩ : ∃ m : Nat, r2 - r0 = m := ⟨(r2 - r0).toNat, by omega⟩
        obtain ⟨ht, hht⟩ : ∃ m : Nat, r3 - r1 = m := ⟨(r3 - r1).toNat, by omega⟩
        have HWD := hid hwd
        have HHT := hid hht
        obtain ⟨wd1, wd2, ht1, ht2⟩ : 1 ≤ wd ∧ wd ≤ 128 ∧ 1 ≤ ht ∧ ht ≤ 128 := by omega
        obtain ⟨NN, hNN⟩ : ∃ N : Nat, ht * wd = N := ⟨_, rfl⟩
        have hNT : (wd : Int) * (ht : Int) = (NN : Int) := by rw [← hNN, Nat.mul_comm]; simp
        have HNN := hid hNN
        obtain ⟨q1, q2, q3, q4, q5, q6, q7⟩ := pOk_iff.1 hpk
        have n1 : 1 ≤ NN := by rw [← hNN]; exact Nat.mul_pos (by omega) (by omega)
        have n2 : NN ≤ 4096 := by rw [hwd, hht, hNT] at q5; omega
        have HNI := hid (show ∀ x, nIf wd ht mx x = x from fun x => by unfold nIf; rw [← hwd, ← hht, if_pos hpk])
        have HNL := hid (show nList wd ht mx = List.replicate NN 0 from by unfold nList; rw [← hwd, ← hht, if_pos hpk, hwd, hht, hNT]; rfl)
        have HNP := hid (show pOk wd ht mx = true by rw [← hwd, ← hht]; exact hpk)
        have HNW := hid (show (n : Int) = w * h from by rw [← (pValid_iff.1 HV.out).2.1, HL.out])
        obtain ⟨wr1, wr2⟩ : r2 - r0 ≤ wd ∧ (wd : Int) ≤ r2 - r0 := by omega
        obtain ⟨hr1, hr2⟩ : r3 - r1 ≤ ht ∧ (ht : Int) ≤ r3 - r1 := by omega
        clear hok hpk hNN hNT q1 q2 q3 q4 q5 q6 q7
        have z38 := H37.out.cell 1 rfl 0 rfl
        have z39 := H37.out.cell 1 rfl 1 rfl
        have z40 := H37.out.cell 1 rfl 2 rfl
        have z41 := H37.out.cell 1 rfl 3 rfl
        have z42 := H37.out.cell 2 rfl 0 rfl
        have z43 := H37.out.cell 2 rfl 1 rfl
        have z44 := H37.out.cell 2 rfl 2 rfl
        have z45 := H37.out.cell 2 rfl 3 rfl
        go_wp2_with fail
        clear z38 z39 z40 z41 z42 z43 z44 z45
        refine (pnew_any _ _ _ _).mono ?_
        rintro e w46 ⟨v47, rfl, ho, hb⟩
        have H48 := hid (H37.out.grow hb ho)
        obtain ⟨v47a, v47c, rfl, _⟩ := ho.slc
        clear ho hb
        have hnl := HNL.out
        rw [hnl] at H48 ⊢
        simp only [List.length_replicate] at H48 ⊢
        rw [HNI.out, HNI.out, HNI.out, HNP.out]
        clear hnl
        obtain ⟨g0, g1, hg0⟩ := (H48.out.own 0 rfl).pos (by rw [List.length_replicate]; omega)
        simp only [List.length_replicate] at hg0
        injection hg0 with e1 e2 e3
        subst e1
        clear e2 e3
        obtain ⟨cp, hcp⟩ : ∃ m, v47c = m := ⟨_, rfl⟩
        rw [hcp] at H48 ⊢
        clear hcp
        have hNc : NN ≤ cp ∧ (cp : Int) ≤ 9223372036854775807 := by have h' := H48.out.slc 0 rfl; have := h'.nc; have := h'.cap; omega
        obtain ⟨hNc1, hNc2⟩ := hNc
        clear hwd hht
        obtain ⟨D49, hD49⟩ : ∃ D, w46.heap.size = D := ⟨_, rfl⟩
        go_upto_region 4 with fail
        have H50 := hid (show St B W [.cells D49 #[.int .i64 wd, .int .i64 ht, .int .i64 mx, .slice (some ⟨g0, 0, none⟩) NN cp] 26, .own (.slice (some ⟨g0, 0, none⟩) NN cp) (List.replicate NN 0), .cells (B + 1 + 1) #[.int .i64 0, .int .i64 0, .int .i64 0, .slice none 0 0] 26, .cells (B + 1) #[.int .i64 r0, .int .i64 r1, .int .i64 r2, .int .i64 r3] 39, .cells B #[.int .i64 w, .int .i64 h, .int .i64 mx, .slice a n c] 26] [] (w46.alloc (.cells #[.int .i64 wd, .int .i64 ht, .int .i64 mx, .slice (some ⟨g0, 0, none⟩) NN cp] 26)) from (H48.out.alloc #[.int .i64 wd, .int .i64 ht, .int .i64 mx, .slice (some ⟨g0, 0, none⟩) NN cp] 26 hD49))
        first | refine gen_code H50.out ?_ | refine gen_list H50.out ?_ | refine gen_calls H50.out ?_
        intro w51 hG
        clear H50
        have H50 := hid hG
        clear hG
        clear hD49
        have z52 := H50.out.cell 0 rfl 0 rfl
        have z53 := H50.out.cell 0 rfl 1 rfl
        have z54 := H50.out.cell 0 rfl 2 rfl
        have z55 := H50.out.cell 0 rfl 3 rfl
        go_wp2_with fail
        clear z52 z53 z54 z55
        obtain ⟨f, hf⟩ : ∃ f, tPix w zs r0 r1 = f := ⟨_, rfl⟩
        have HF := hid hf
        clear hf
        go_loopw [49] (fun i wr => ∃ k : Nat, k ≤ ht ∧ i = .int .i64 k ∧ St B W [.own (.slice (some ⟨g0, 0, none⟩) NN cp) (fillL f wd k 0 NN), .cells D49 #[.int .i64 wd, .int .i64 ht, .int .i64 mx, .slice (some ⟨g0, 0, none⟩) NN cp] 26, .cells (B + 1 + 1) #[.int .i64 0, .int .i64 0, .int .i64 0, .slice none 0 0] 26, .cells (B + 1) #[.int .i64 r0, .int .i64 r1, .int .i64 r2, .int .i64 r3] 39, .cells B #[.int .i64 w, .int .i64 h, .int .i64 mx, .slice a n c] 26] [] wr) (fun i _ => ht - (intOf i).toNat)
        case atStart => exact ⟨0, by omega, rfl, by rw [fillL_zero]; exact H50.out.pick [1, 0, 2, 3, 4] rfl (by decide)⟩
        case round =>
          obtain ⟨k, hk, rfl, hst⟩ := hrel
          obtain ⟨u56, rfl⟩ : ∃ u56 : World, u56 = wr := ⟨_, rfl⟩
          have H57 := hid hst
          clear hst
          by_cases hkn : k < ht
          · skip
            have hkn' : (k : Int) < ht := by omega
            obtain ⟨KN, hKN⟩ : ∃ K : Nat, k * wd = K := ⟨_, rfl⟩
            have hKM : (k : Int) * (wd : Int) = (KN : Int) := by rw [← hKN]; simp
            have hKM2 : ((k : Int) + 1) * (wd : Int) = (KN : Int) + wd := by rw [Int.add_mul, Int.one_mul, hKM]
            have kn1 : KN + wd ≤ NN := by
              have e1 : (k + 1) * wd ≤ ht * wd := Nat.mul_le_mul_right _ (by omega)
              rw [HNN.out, Nat.add_mul, Nat.one_mul, hKN] at e1
              omega
            have HSP := hid (show splice (fillL f wd k 0 NN) KN ((List.range wd).map (f k)) = fillL f wd (k + 1) 0 NN from by rw [← hKN]; exact fillL_splice (by omega))
            obtain ⟨pa0, pa1, pa2, pa3⟩ := pix_at (w := w) (h := h) (x := r0) (y := r1 + k) p1 p2 p4 (by omega) (by omega) (by omega) (by omega)
            obtain ⟨pb0, pb1, pb2, pb3⟩ := pix_at (w := w) (h := h) (x := r0 + (wd : Int) - 1) (y := r1 + k) p1 p2 p4 (by omega) (by omega) (by omega) (by omega)
            obtain ⟨PA, hPA⟩ : ∃ P, (r1 + (k : Int)) * w = P := ⟨_, rfl⟩
            rw [hPA] at pa0 pa1 pa2 pa3 pb0 pb1 pb2 pb3
            obtain ⟨SN, hSN⟩ : ∃ S : Nat, PA + r0 = (S : Int) := ⟨(PA + r0).toNat, by omega⟩
            have sn1 : SN + wd ≤ n := by have := HNW.out; omega
            have HPR := hid (show (zs.drop SN).take wd = (List.range wd).map (f k) from by rw [← HF.out]; exact part_row (by rw [hPA]; exact hSN) (by rw [HL.out]; exact sn1))
            clear hKN
            have z58 := H57.out.cell 3 rfl 0 rfl
            have z59 := H57.out.cell 3 rfl 1 rfl
            have z60 := H57.out.cell 3 rfl 2 rfl
            have z61 := H57.out.cell 3 rfl 3 rfl
            have z62 := H57.out.cell 4 rfl 0 rfl
            have z63 := H57.out.cell 4 rfl 1 rfl
            have z64 := H57.out.cell 4 rfl 2 rfl
            have z65 := H57.out.cell 4 rfl 3 rfl
            go_upto_region 10 with fail
            clear z58 z59 z60 z61 z62 z63 z64 z65
            obtain ⟨pbk, po, hpa⟩ := row_at (H57.out.old HS.out).row (by omega)
            subst hpa
            have w1 : IntKind.i64.wrap (KN : Int) = KN := IntWalk.i64_in _ (by omega)
            have w2 : IntKind.i64.wrap ((KN : Int) + wd) = (KN : Int) + wd := IntWalk.i64_in _ (by omega)
            have w3 : IntKind.i64.wrap ((k : Int) + 1) = (k : Int) + 1 := IntWalk.i64_in _ (by omega)
            have w4 : IntKind.i64.wrap ((SN : Int) + wd) = (SN : Int) + wd := IntWalk.i64_in _ (by omega)
            have b1 : (0 : Int) ≤ (KN : Int) := by omega
            have b2 : (KN : Int) ≤ (KN : Int) + wd := by omega
            have b3 : (KN : Int) + wd ≤ (cp : Int) := by omega
            have b4 : (KN : Int) < (cp : Int) := by omega
            have b5 : (0 : Int) ≤ (SN : Int) := by omega
            have b6 : (SN : Int) ≤ (SN : Int) + wd := by omega
            have b7 : (SN : Int) + wd ≤ (c : Int) := by omega
            have b8 : (SN : Int) < (c : Int) := by omega
            have b9 : ¬ (cp = KN) := by omega
            have b10 : ¬ (c = SN) := by omega
            have b11 : ((KN : Int) + (wd : Int)).toNat = KN + wd := by omega
            have b12 : ((SN : Int) + (wd : Int)).toNat = SN + wd := by omega
            go_upto_region 10 with fail
            have H66 := hid H57.out.drew
            refine wp_region_held_drew (S := (fun w' => w'.cell? ⟨D49, 0, none⟩ = some (.int .i64 wd) ∧ w'.cell? ⟨D49, 1, none⟩ = some (.int .i64 ht) ∧ w'.cell? ⟨D49, 2, none⟩ = some (.int .i64 mx) ∧ w'.cell? ⟨D49, 3, none⟩ = some (.slice (some ⟨g0, 0, none⟩) NN cp) ∧ w'.cell? ⟨B, 0, none⟩ = some (.int .i64 w) ∧ w'.cell? ⟨B, 1, none⟩ = some (.int .i64 h) ∧ w'.cell? ⟨B, 2, none⟩ = some (.int .i64 mx) ∧ w'.cell? ⟨B, 3, none⟩ = some (.slice (some ⟨pbk, po, none⟩) n c))) (by kernel_rfl) ⟨H66.out.cell 1 rfl 0 rfl, H66.out.cell 1 rfl 1 rfl, H66.out.cell 1 rfl 2 rfl, H66.out.cell 1 rfl 3 rfl, H66.out.cell 4 rfl 0 rfl, H66.out.cell 4 rfl 1 rfl, H66.out.cell 4 rfl 2 rfl, H66.out.cell 4 rfl 3 rfl⟩ (fun hHeld => ?_)
            generalize u56.drew = k67 at *
            refine wpAnyH_take (i := 0) (oi := _) (v := ?_) rfl (by kernel_rfl) (by kernel_rfl) (by kernel_rfl) (fun _ _ _ h => h) (Or.inl ⟨by rfl, ?_⟩) (by assumption) ?_
            rotate_left
            focus (intro wS hSw; (try dsimp only at hSw); go_simp; (try with_reducible rfl))
            try simp only [Act.put, List.getElem_toArray, List.getElem_cons_zero, List.getElem_cons_succ, List.setIfInBounds_toArray, List.set_cons_zero, List.set_cons_succ]
            refine wpAnyH_take (i := 1) (oi := _) (v := ?_) rfl (by kernel_rfl) (by kernel_rfl) (by kernel_rfl) (fun _ _ _ h => h) (Or.inl ⟨by rfl, ?_⟩) (by assumption) ?_
            rotate_left
            focus (intro wS hSw; (try dsimp only at hSw); go_simp; (try with_reducible rfl))
            try simp only [Act.put, List.getElem_toArray, List.getElem_cons_zero, List.getElem_cons_succ, List.setIfInBounds_toArray, List.set_cons_zero, List.set_cons_succ]
            refine wpAnyH_take (i := 2) (oi := _) (v := ?_) rfl (by kernel_rfl) (by kernel_rfl) (by kernel_rfl) (fun _ _ _ h => h) (Or.inl ⟨by rfl, ?_⟩) (by assumption) ?_
            rotate_left
            focus (intro wS hSw; (try dsimp only at hSw); go_simp; (try with_reducible rfl))
            try simp only [Act.put, List.getElem_toArray, List.getElem_cons_zero, List.getElem_cons_succ, List.setIfInBounds_toArray, List.set_cons_zero, List.set_cons_succ]
            refine wpAnyH_take (i := 3) (oi := _) (v := ?_) rfl (by kernel_rfl) (by kernel_rfl) (by kernel_rfl) (fun _ _ _ h => h) (Or.inl ⟨by rfl, ?_⟩) (by assumption) ?_
            rotate_left
            focus (intro wS hSw; (try dsimp only at hSw); go_simp; (try with_reducible rfl))
            try simp only [Act.put, List.getElem_toArray, List.getElem_cons_zero, List.getElem_cons_succ, List.setIfInBounds_toArray, List.set_cons_zero, List.set_cons_succ]
            refine wpAnyH_take (i := 4) (oi := _) (v := ?_) rfl (by kernel_rfl) (by kernel_rfl) (by kernel_rfl) (fun _ _ _ h => h) (Or.inl ⟨by rfl, ?_⟩) (by assumption) ?_
            rotate_left
            focus (intro wS hSw; (try dsimp only at hSw); go_simp; (try with_reducible rfl))
            try simp only [Act.put, List.getElem_toArray, List.getElem_cons_zero, List.getElem_cons_succ, List.setIfInBounds_toArray, List.set_cons_zero, List.set_cons_succ]
            refine wpAnyH_take (i := 5) (oi := _) (v := ?_) rfl (by kernel_rfl) (by kernel_rfl) (by kernel_rfl) (fun _ _ _ h => h) (Or.inl ⟨by rfl, ?_⟩) (by assumption) ?_
            rotate_left
            focus (intro wS hSw; (try dsimp only at hSw); go_simp; (try with_reducible rfl))
            try simp only [Act.put, List.getElem_toArray, List.getElem_cons_zero, List.getElem_cons_succ, List.setIfInBounds_toArray, List.set_cons_zero, List.set_cons_succ]
            refine wpAnyH_take (i := 6) (oi := _) (v := ?_) rfl (by kernel_rfl) (by kernel_rfl) (by kernel_rfl) (fun _ _ _ h => h) (Or.inl ⟨by rfl, ?_⟩) (by assumption) ?_
            rotate_left
            focus (intro wS hSw; (try dsimp only at hSw); go_simp; (try with_reducible rfl))
            try simp only [Act.put, List.getElem_toArray, List.getElem_cons_zero, List.getElem_cons_succ, List.setIfInBounds_toArray, List.set_cons_zero, List.set_cons_succ]
            refine wpAnyH_take (i := 7) (oi := _) (v := ?_) rfl (by kernel_rfl) (by kernel_rfl) (by kernel_rfl) (fun _ _ _ h => h) (Or.inl ⟨by rfl, ?_⟩) (by assumption) ?_
            rotate_left
            focus (intro wS hSw; (try dsimp only at hSw); go_simp; (try with_reducible rfl))
            try simp only [Act.put, List.getElem_toArray, List.getElem_cons_zero, List.getElem_cons_succ, List.setIfInBounds_toArray, List.set_cons_zero, List.set_cons_succ]
            refine wpAnyH_take (i := 8) (oi := _) (v := ?_) rfl (by kernel_rfl) (by kernel_rfl) (by kernel_rfl) (fun _ _ _ h => h) (Or.inl ⟨by rfl, ?_⟩) (by assumption) ?_
            rotate_left
            focus (intro wS hSw; (try dsimp only at hSw); go_simp; (try with_reducible rfl))
            try simp only [Act.put, List.getElem_toArray, List.getElem_cons_zero, List.getElem_cons_succ, List.setIfInBounds_toArray, List.set_cons_zero, List.set_cons_succ]
            refine wpAnyH_take (i := 9) (oi := _) (v := ?_) rfl (by kernel_rfl) (by kernel_rfl) (by kernel_rfl) (fun _ _ _ h => h) (Or.inl ⟨by rfl, ?_⟩) (by assumption) ?_
            rotate_left
            focus (intro wS hSw; (try dsimp only at hSw); go_simp; (try with_reducible rfl))
            try simp only [Act.put, List.getElem_toArray, List.getElem_cons_zero, List.getElem_cons_succ, List.setIfInBounds_toArray, List.set_cons_zero, List.set_cons_succ]
            refine wpAnyH_take (i := 10) (oi := _) (v := ?_) rfl (by kernel_rfl) (by kernel_rfl) (by kernel_rfl) (fun _ _ _ h => h) (Or.inl ⟨by rfl, ?_⟩) (by assumption) ?_
            rotate_left
            focus (intro wS hSw; (try dsimp only at hSw); go_simp; (try with_reducible rfl))
            try simp only [Act.put, List.getElem_toArray, List.getElem_cons_zero, List.getElem_cons_succ, List.setIfInBounds_toArray, List.set_cons_zero, List.set_cons_succ]
            refine wpAnyH_take (i := 11) (oi := _) (v := ?_) rfl (by kernel_rfl) (by kernel_rfl) (by kernel_rfl) (fun _ _ _ h => h) (Or.inl ⟨by rfl, ?_⟩) (by assumption) ?_
            rotate_left
            focus (intro wS hSw; (try dsimp only at hSw); go_simp; (try with_reducible rfl))
            try simp only [Act.put, List.getElem_toArray, List.getElem_cons_zero, List.getElem_cons_succ, List.setIfInBounds_toArray, List.set_cons_zero, List.set_cons_succ]
            refine wpAnyH_take (i := 12) (oi := _) (v := ?_) rfl (by kernel_rfl) (by kernel_rfl) (by kernel_rfl) (fun _ _ _ h => h) (Or.inl ⟨by rfl, ?_⟩) (by assumption) ?_
            rotate_left
            focus (intro wS hSw; (try dsimp only at hSw); go_simp; (try with_reducible rfl))
            try simp only [Act.put, List.getElem_toArray, List.getElem_cons_zero, List.getElem_cons_succ, List.setIfInBounds_toArray, List.set_cons_zero, List.set_cons_succ]
            refine wpAnyH_take (i := 13) (oi := _) (v := ?_) rfl (by kernel_rfl) (by kernel_rfl) (by kernel_rfl) (fun _ _ _ h => h) (Or.inl ⟨by rfl, ?_⟩) (by assumption) ?_
            rotate_left
            focus (intro wS hSw; (try dsimp only at hSw); go_simp; (try with_reducible rfl))
            try simp only [Act.put, List.getElem_toArray, List.getElem_cons_zero, List.getElem_cons_succ, List.setIfInBounds_toArray, List.set_cons_zero, List.set_cons_succ]
            refine wpAnyH_take (i := 14) (oi := _) (v := ?_) rfl (by kernel_rfl) (by kernel_rfl) (by kernel_rfl) (fun _ _ _ h => h) (Or.inl ⟨by rfl, ?_⟩) (by assumption) ?_
            rotate_left
            focus (intro wS hSw; (try dsimp only at hSw); go_simp; (try with_reducible rfl))
            try simp only [Act.put, List.getElem_toArray, List.getElem_cons_zero, List.getElem_cons_succ, List.setIfInBounds_toArray, List.set_cons_zero, List.set_cons_succ]
            refine wpAnyH_take (i := 15) (oi := _) (v := ?_) rfl (by kernel_rfl) (by kernel_rfl) (by kernel_rfl) (fun _ _ _ h => h) (Or.inl ⟨by rfl, ?_⟩) (by assumption) ?_
            rotate_left
            focus (intro wS hSw; (try dsimp only at hSw); go_simp; (try with_reducible rfl))
            try simp only [Act.put, List.getElem_toArray, List.getElem_cons_zero, List.getElem_cons_succ, List.setIfInBounds_toArray, List.set_cons_zero, List.set_cons_succ]
            refine wpAnyH_take (i := 16) (oi := _) (v := ?_) rfl (by kernel_rfl) (by kernel_rfl) (by kernel_rfl) (fun _ _ _ h => h) (Or.inl ⟨by rfl, ?_⟩) (by assumption) ?_
            rotate_left
            focus (intro wS hSw; (try dsimp only at hSw); go_simp; (try with_reducible rfl))
            try simp only [Act.put, List.getElem_toArray, List.getElem_cons_zero, List.getElem_cons_succ, List.setIfInBounds_toArray, List.set_cons_zero, List.set_cons_succ]
            refine wpAnyH_take (i := 17) (oi := _) (v := ?_) rfl (by kernel_rfl) (by kernel_rfl) (by kernel_rfl) (fun _ _ _ h => h) (Or.inl ⟨by rfl, ?_⟩) (by assumption) ?_
            rotate_left
            focus (intro wS hSw; (try dsimp only at hSw); go_simp; (try with_reducible rfl))
            try simp only [Act.put, List.getElem_toArray, List.getElem_cons_zero, List.getElem_cons_succ, List.setIfInBounds_toArray, List.set_cons_zero, List.set_cons_succ]
            refine wpAnyH_take (i := 18) (oi := _) (v := ?_) rfl (by kernel_rfl) (by kernel_rfl) (by kernel_rfl) (fun _ _ _ h => h) (Or.inl ⟨by rfl, ?_⟩) (by assumption) ?_
            rotate_left
            focus (intro wS hSw; (try dsimp only at hSw); go_simp; (try with_reducible rfl))
            try simp only [Act.put, List.getElem_toArray, List.getElem_cons_zero, List.getElem_cons_succ, List.setIfInBounds_toArray, List.set_cons_zero, List.set_cons_succ]
            refine wpAnyH_take (i := 19) (oi := _) (v := ?_) rfl (by kernel_rfl) (by kernel_rfl) (by kernel_rfl) (fun _ _ _ h => h) (Or.inl ⟨by rfl, ?_⟩) (by assumption) ?_
            rotate_left
            focus (intro wS hSw; (try dsimp only at hSw); go_simp; (try with_reducible rfl))
            try simp only [Act.put, List.getElem_toArray, List.getElem_cons_zero, List.getElem_cons_succ, List.setIfInBounds_toArray, List.set_cons_zero, List.set_cons_succ]
            refine wpAnyH_ready (rs := [20]) (by kernel_rfl) (by simp) (AllReadyH.cons (o := _) rfl (fun K hK => ?_) AllReadyH.nil)
            skip
            refine oper_copy_own _ _ rfl B g0 KN NN cp _ wd pbk (po + SN) _ (fillL f wd k 0 NN) ((List.range wd).map (f k)) (by rfl) (by rfl) (H66.out.own 0 rfl) (by rw [← HPR.out]; exact (H66.out.old HS.out).row.part SN wd sn1) (by rw [fillL_len (by omega)]; omega) ?_
            intro k69 ho hg
            have H68 := hid (H66.out.append 0 rfl ho hg (.inl rfl))
            clear ho hg
            refine hK.out _ _ ?_ (fun hHeld2 => ?_)
            focus ((try dsimp only); (exact ⟨H68.out.cell 1 rfl 0 rfl, H68.out.cell 1 rfl 1 rfl, H68.out.cell 1 rfl 2 rfl, H68.out.cell 1 rfl 3 rfl, H68.out.cell 4 rfl 0 rfl, H68.out.cell 4 rfl 1 rfl, H68.out.cell 4 rfl 2 rfl, H68.out.cell 4 rfl 3 rfl⟩))
            clear hK K
            try simp only [Act.put, List.getElem_toArray, List.getElem_cons_zero, List.getElem_cons_succ, List.setIfInBounds_toArray, List.set_cons_zero, List.set_cons_succ]
            clear hHeld
            have hHeld := hHeld2
            clear hHeld2
            refine wpAnyH_done (by kernel_rfl) ?_ _
            try clear hHeld
            clear w1 w2 w3 w4 b1 b2 b3 b4 b5 b6 b7 b8 b9 b10 b11 b12
            go_wp2_with fail
            go_roundw
            case rel => exact ⟨k + 1, by omega, by go_num, by rw [← HSP.out]; exact H68.out⟩
            case measure => first | (simp [intOf]; omega) | (simp [intOf]; done)
          · skip
            have hkn' : ¬ ((k : Int) < ht) := by omega
            have HKL := hid (show k = ht by omega)
            have z70 := H57.out.cell 1 rfl 0 rfl
            have z71 := H57.out.cell 1 rfl 1 rfl
            have z72 := H57.out.cell 1 rfl 2 rfl
            have z73 := H57.out.cell 1 rfl 3 rfl
            have z74 := H57.out.cell 2 rfl 0 rfl
            have z75 := H57.out.free 2 rfl 0
            have z76 := H57.out.cell 2 rfl 1 rfl
            have z77 := H57.out.free 2 rfl 1
            have z78 := H57.out.cell 2 rfl 2 rfl
            have z79 := H57.out.free 2 rfl 2
            have z80 := H57.out.cell 2 rfl 3 rfl
            have z81 := H57.out.free 2 rfl 3
            go_wp2_with fail
            clear z70 z71 z72 z73 z74 z75 z76 z77 z78 z79 z80 z81
            have H82 := hid (show St B W [.own (.slice (some ⟨g0, 0, none⟩) NN cp) (fillL f wd k 0 NN), .cells D49 #[.int .i64 wd, .int .i64 ht, .int .i64 mx, .slice (some ⟨g0, 0, none⟩) NN cp] 26, .cells (B + 1 + 1) #[.int .i64 wd, .int .i64 ht, .int .i64 mx, .slice (some ⟨g0, 0, none⟩) NN cp] 26, .cells (B + 1) #[.int .i64 r0, .int .i64 r1, .int .i64 r2, .int .i64 r3] 39, .cells B #[.int .i64 w, .int .i64 h, .int .i64 mx, .slice a n c] 26] [] ((((u56.setCell ⟨B + 1 + 1, 0, none⟩ (.int .i64 wd)).setCell ⟨B + 1 + 1, 1, none⟩ (.int .i64 ht)).setCell ⟨B + 1 + 1, 2, none⟩ (.int .i64 mx)).setCell ⟨B + 1 + 1, 3, none⟩ (.slice (some ⟨g0, 0, none⟩) NN cp)) from (H57.out.set4 2 rfl (.int .i64 wd) (.int .i64 ht) (.int .i64 mx) (.slice (some ⟨g0, 0, none⟩) NN cp)))
            have HCI := hid (show ∀ x, cIf w h mx zs r0 r1 r2 r3 x = x from fun x => by unfold cIf; rw [if_pos HOK.out])
            have HCL := hid (show cList w h mx zs r0 r1 r2 r3 = fillL f wd k 0 NN from by unfold cList cAll; rw [if_pos HOK.out, HF.out, HWD.out, HHT.out, ← HNN.out, ← HKL.out, fillL_all]; rfl)
            have q83 := H82.out.cell 2 rfl 0 rfl
            have q84 := H82.out.cell 2 rfl 1 rfl
            have q85 := H82.out.cell 2 rfl 2 rfl
            have q86 := H82.out.cell 2 rfl 3 rfl
            refine bodyPost_ret (v := .tuple #[.agg #[.int .i64 wd, .int .i64 ht, .int .i64 mx, .slice (some ⟨g0, 0, none⟩) NN cp], .bool true]) ?_ rfl ⟨_, by rw [HCI.out, HCI.out, HCI.out, HOK.out, HWD.out, HHT.out], by rw [HCL.out, hB]; exact H82.out.own 0 rfl, by first | exact H82.out.below | exact H82.out.below'⟩
            simp [results, Try.results49, go_sem, q83, q84, q85, q86]
      | false =>
        have z87 := H37.out.cell 0 rfl 0 rfl
        have z88 := H37.out.free 0 rfl 0
        have z89 := H37.out.cell 0 rfl 1 rfl
        have z90 := H37.out.free 0 rfl 1
        have z91 := H37.out.cell 0 rfl 2 rfl
        have z92 := H37.out.free 0 rfl 2
        have z93 := H37.out.cell 0 rfl 3 rfl
        have z94 := H37.out.free 0 rfl 3
        go_wp2_with fail
        clear z87 z88 z89 z90 z91 z92 z93 z94
        have H95 := hid (show St B W [.cells (B + 1 + 1) #[.int .i64 0, .int .i64 0, .int .i64 0, .slice none 0 0] 26, .cells (B + 1) #[.int .i64 r0, .int .i64 r1, .int .i64 r2, .int .i64 r3] 39, .cells B #[.int .i64 w, .int .i64 h, .int .i64 mx, .slice a n c] 26] [] ((((w36.setCell ⟨B + 1 + 1, 0, none⟩ (.int .i64 0)).setCell ⟨B + 1 + 1, 1, none⟩ (.int .i64 0)).setCell ⟨B + 1 + 1, 2, none⟩ (.int .i64 0)).setCell ⟨B + 1 + 1, 3, none⟩ (.slice none 0 0)) from (H37.out.set4 0 rfl (.int .i64 0) (.int .i64 0) (.int .i64 0) (.slice none 0 0)))
        have HNO := hid (show cOk w h mx zs r0 r1 r2 r3 = false by unfold cOk; rw [HIN.out]; simp)
        have q96 := H95.out.cell 0 rfl 0 rfl
        have q97 := H95.out.cell 0 rfl 1 rfl
        have q98 := H95.out.cell 0 rfl 2 rfl
        have q99 := H95.out.cell 0 rfl 3 rfl
        refine bodyPost_ret (v := .tuple #[.agg #[.int .i64 0, .int .i64 0, .int .i64 0, .slice none 0 0], .bool false]) ?_ rfl (crop_no HNO.out (by first | exact H95.out.below | exact H95.out.below'))
        simp [results, Try.results49, go_sem, q96, q97, q98, q99]
  | false =>
    have z100 := H8.out.cell 0 rfl 0 rfl
    have z101 := H8.out.free 0 rfl 0
    have z102 := H8.out.cell 0 rfl 1 rfl
    have z103 := H8.out.free 0 rfl 1
    have z104 := H8.out.cell 0 rfl 2 rfl
    have z105 := H8.out.free 0 rfl 2
    have z106 := H8.out.cell 0 rfl 3 rfl
    have z107 := H8.out.free 0 rfl 3
    go_wp2_with fail
    clear z100 z101 z102 z103 z104 z105 z106 z107
    have H108 := hid (show St B W [.cells (B + 1 + 1) #[.int .i64 0, .int .i64 0, .int .i64 0, .slice none 0 0] 26, .cells (B + 1) #[.int .i64 r0, .int .i64 r1, .int .i64 r2, .int .i64 r3] 39, .cells B #[.int .i64 w, .int .i64 h, .int .i64 mx, .slice a n c] 26] [] ((((w7.setCell ⟨B + 1 + 1, 0, none⟩ (.int .i64 0)).setCell ⟨B + 1 + 1, 1, none⟩ (.int .i64 0)).setCell ⟨B + 1 + 1, 2, none⟩ (.int .i64 0)).setCell ⟨B + 1 + 1, 3, none⟩ (.slice none 0 0)) from (H8.out.set4 0 rfl (.int .i64 0) (.int .i64 0) (.int .i64 0) (.slice none 0 0)))
    have HNO := hid (show cOk w h mx zs r0 r1 r2 r3 = false by unfold cOk; rw [HV.out]; simp)
    have q109 := H108.out.cell 0 rfl 0 rfl
    have q110 := H108.out.cell 0 rfl 1 rfl
    have q111 := H108.out.cell 0 rfl 2 rfl
    have q112 := H108.out.cell 0 rfl 3 rfl
    refine bodyPost_ret (v := .tuple #[.agg #[.int .i64 0, .int .i64 0, .int .i64 0, .slice none 0 0], .bool false]) ?_ rfl (crop_no HNO.out (by first | exact H108.out.below | exact H108.out.below'))
    simp [results, Try.results49, go_sem, q109, q110, q111, q112]

set_option maxRecDepth 100000 in
set_option maxHeartbeats 6400000 in
theorem qcrop_any (w h mx : Int) (a : Option Addr) (n c : Nat) (zs : List Int) (r0 r1 r2 r3 : Int) (W : World) (hs : Slc W a n c zs) :
    Calls Try.prog 61 #[.agg #[.int .i64 w, .int .i64 h, .int .i64 mx, .slice a n c], .agg #[.int .i64 r0, .int .i64 r1, .int .i64 r2, .int .i64 r3]] W (CropPost w h mx zs r0 r1 r2 r3 W) := by
  obtain ⟨B, hB⟩ : ∃ B, W.heap.size = B := ⟨_, rfl⟩
  have HI0 := hid (St.init hB)
  have HS := hid hs
  have HL := hid hs.len
  have hnc : n ≤ c := hs.nc
  have hcc : (c : Int) ≤ 9223372036854775807 := by have := hs.cap; omega
  clear hs
  go_enter Try.func61, Try.ntmps61
  go_upto_region 1 with fail
  have H113 := hid (show St B W [.cells (B + 1 + 1) #[.int .i64 0, .int .i64 0, .int .i64 0, .slice none 0 0] 26, .cells (B + 1) #[.int .i64 r0, .int .i64 r1, .int .i64 r2, .int .i64 r3] 39, .cells B #[.int .i64 w, .int .i64 h, .int .i64 mx, .slice a n c] 26] [] (((W.alloc (.cells #[.int .i64 w, .int .i64 h, .int .i64 mx, .slice a n c] 26)).alloc (.cells #[.int .i64 r0, .int .i64 r1, .int .i64 r2, .int .i64 r3] 39)).alloc (.cells #[.int .i64 0, .int .i64 0, .int .i64 0, .slice none 0 0] 26)) from (((HI0.out.alloc #[.int .i64 w, .int .i64 h, .int .i64 mx, .slice a n c] 26 hB).alloc #[.int .i64 r0, .int .i64 r1, .int .i64 r2, .int .i64 r3] 39 (by first | exact hB | simp [hB])).alloc #[.int .i64 0, .int .i64 0, .int .i64 0, .slice none 0 0] 26 (by first | exact hB | simp [hB])))
  first | refine gen_code H113.out ?_ | refine gen_list H113.out ?_ | refine gen_calls H113.out ?_
  intro w114 hG
  clear H113
  have H113 := hid hG
  clear hG
  cases hv : pValid w h mx zs with
  | false =>
    have HV := hid hv
    clear hv
    go_upto_region 1 with fail
    have H115 := hid H113.out.drew
    refine wp_region_held_drew (S := (fun w' => w'.cell? ⟨B, 0, none⟩ = some (.int .i64 w) ∧ w'.cell? ⟨B, 1, none⟩ = some (.int .i64 h) ∧ w'.cell? ⟨B, 2, none⟩ = some (.int .i64 mx) ∧ w'.cell? ⟨B, 3, none⟩ = some (.slice a n c) ∧ w'.cell? ⟨B + 1, 0, none⟩ = some (.int .i64 r0) ∧ w'.cell? ⟨B + 1, 1, none⟩ = some (.int .i64 r1) ∧ w'.cell? ⟨B + 1, 2, none⟩ = some (.int .i64 r2) ∧ w'.cell? ⟨B + 1, 3, none⟩ = some (.int .i64 r3))) (by kernel_rfl) ⟨H115.out.cell 2 rfl 0 rfl, H115.out.cell 2 rfl 1 rfl, H115.out.cell 2 rfl 2 rfl, H115.out.cell 2 rfl 3 rfl, H115.out.cell 1 rfl 0 rfl, H115.out.cell 1 rfl 1 rfl, H115.out.cell 1 rfl 2 rfl, H115.out.cell 1 rfl 3 rfl⟩ (fun hHeld => ?_)
    generalize w114.drew = k116 at *
    refine wpAnyH_take (i := 0) (oi := _) (v := ?_) rfl (by kernel_rfl) (by kernel_rfl) (by kernel_rfl) (fun _ _ _ h => h) (Or.inl ⟨by rfl, ?_⟩) (by assumption) ?_
    rotate_left
    focus (intro wS hSw; (try dsimp only at hSw); go_simp; (try with_reducible rfl))
    try simp only [Act.put, List.getElem_toArray, List.getElem_cons_zero, List.getElem_cons_succ, List.setIfInBounds_toArray, List.set_cons_zero, List.set_cons_succ]
    refine wpAnyH_ready (rs := [1]) (by kernel_rfl) (by simp) (AllReadyH.cons (o := _) rfl (fun K hK => ?_) AllReadyH.nil)
    go_simp
    go_at_call 52
    refine (qpvalid_any _ _ _ _ _ _ _ _ (by have := HS.out.nc; have := HS.out.cap; omega) (H115.out.old HS.out).row).mono ?_
    rintro e w117 ⟨rfl, hb⟩
    have H118 := hid (H115.out.call hb)
    clear hb
    rw [HV.out]
    refine hK.out _ _ ?_ (fun hHeld2 => ?_)
    focus ((try dsimp only); (exact ⟨H118.out.cell 2 rfl 0 rfl, H118.out.cell 2 rfl 1 rfl, H118.out.cell 2 rfl 2 rfl, H118.out.cell 2 rfl 3 rfl, H118.out.cell 1 rfl 0 rfl, H118.out.cell 1 rfl 1 rfl, H118.out.cell 1 rfl 2 rfl, H118.out.cell 1 rfl 3 rfl⟩))
    clear hK K
    try simp only [Act.put, List.getElem_toArray, List.getElem_cons_zero, List.getElem_cons_succ, List.setIfInBounds_toArray, List.set_cons_zero, List.set_cons_succ]
    clear hHeld
    have hHeld := hHeld2
    clear hHeld2
    refine wpAnyH_take (i := 2) (oi := _) (v := ?_) rfl (by kernel_rfl) (by kernel_rfl) (by kernel_rfl) (fun _ _ _ h => h) (Or.inl ⟨by rfl, ?_⟩) (by assumption) ?_
    rotate_left
    focus (intro wS hSw; (try dsimp only at hSw); go_simp; (try with_reducible rfl))
    try simp only [Act.put, List.getElem_toArray, List.getElem_cons_zero, List.getElem_cons_succ, List.setIfInBounds_toArray, List.set_cons_zero, List.set_cons_succ]
    refine wpAnyH_take (i := 3) (oi := _) (v := ?_) rfl (by kernel_rfl) (by kernel_rfl) (by kernel_rfl) (fun _ _ _ h => h) (Or.inl ⟨by rfl, ?_⟩) (by assumption) ?_
    rotate_left
    focus (intro wS hSw; (try dsimp only at hSw); go_simp; (try with_reducible rfl))
    try simp only [Act.put, List.getElem_toArray, List.getElem_cons_zero, List.getElem_cons_succ, List.setIfInBounds_toArray, List.set_cons_zero, List.set_cons_succ]
    refine wpAnyH_take (i := 4) (oi := _) (v := _) rfl (by kernel_rfl) (by kernel_rfl) (by kernel_rfl) (fun _ _ _ h => h) (Or.inr ⟨by rfl, rfl⟩) (by assumption) ?_
    try simp only [Act.put, List.getElem_toArray, List.getElem_cons_zero, List.getElem_cons_succ, List.setIfInBounds_toArray, List.set_cons_zero, List.set_cons_succ]
    refine wpAnyH_take (i := 5) (oi := _) (v := _) rfl (by kernel_rfl) (by kernel_rfl) (by kernel_rfl) (fun _ _ _ h => h) (Or.inr ⟨by rfl, rfl⟩) (by assumption) ?_
    try simp only [Act.put, List.getElem_toArray, List.getElem_cons_zero, List.getElem_cons_succ, List.setIfInBounds_toArray, List.set_cons_zero, List.set_cons_succ]
    refine wpAnyH_take (i := 6) (oi := _) (v := ?_) rfl (by kernel_rfl) (by kernel_rfl) (by kernel_rfl) (fun _ _ _ h => h) (Or.inl ⟨by rfl, ?_⟩) (by assumption) ?_
    rotate_left
    focus (intro wS hSw; (try dsimp only at hSw); go_simp; (try with_reducible rfl))
    try simp only [Act.put, List.getElem_toArray, List.getElem_cons_zero, List.getElem_cons_succ, List.setIfInBounds_toArray, List.set_cons_zero, List.set_cons_succ]
    refine wpAnyH_take (i := 7) (oi := _) (v := ?_) rfl (by kernel_rfl) (by kernel_rfl) (by kernel_rfl) (fun _ _ _ h => h) (Or.inl ⟨by rfl, ?_⟩) (by assumption) ?_
    rotate_left
    focus (intro wS hSw; (try dsimp only at hSw); go_simp; (try with_reducible rfl))
    try simp only [Act.put, List.getElem_toArray, List.getElem_cons_zero, List.getElem_cons_succ, List.setIfInBounds_toArray, List.set_cons_zero, List.set_cons_succ]
    refine wpAnyH_take (i := 8) (oi := _) (v := _) rfl (by kernel_rfl) (by kernel_rfl) (by kernel_rfl) (fun _ _ _ h => h) (Or.inr ⟨by rfl, rfl⟩) (by assumption) ?_
    try simp only [Act.put, List.getElem_toArray, List.getElem_cons_zero, List.getElem_cons_succ, List.setIfInBounds_toArray, List.set_cons_zero, List.set_cons_succ]
    refine wpAnyH_take (i := 9) (oi := _) (v := _) rfl (by kernel_rfl) (by kernel_rfl) (by kernel_rfl) (fun _ _ _ h => h) (Or.inr ⟨by rfl, rfl⟩) (by assumption) ?_
    try simp only [Act.put, List.getElem_toArray, List.getElem_cons_zero, List.getElem_cons_succ, List.setIfInBounds_toArray, List.set_cons_zero, List.set_cons_succ]
    refine wpAnyH_take (i := 10) (oi := _) (v := _) rfl (by kernel_rfl) (by kernel_rfl) (by kernel_rfl) (fun _ _ _ h => h) (Or.inr ⟨by rfl, rfl⟩) (by assumption) ?_
    try simp only [Act.put, List.getElem_toArray, List.getElem_cons_zero, List.getElem_cons_succ, List.setIfInBounds_toArray, List.set_cons_zero, List.set_cons_succ]
    refine wpAnyH_take (i := 11) (oi := _) (v := _) rfl (by kernel_rfl) (by kernel_rfl) (by kernel_rfl) (fun _ _ _ h => h) (Or.inr ⟨by rfl, rfl⟩) (by assumption) ?_
    try simp only [Act.put, List.getElem_toArray, List.getElem_cons_zero, List.getElem_cons_succ, List.setIfInBounds_toArray, List.set_cons_zero, List.set_cons_succ]
    refine wpAnyH_take (i := 12) (oi := _) (v := _) rfl (by kernel_rfl) (by kernel_rfl) (by kernel_rfl) (fun _ _ _ h => h) (Or.inr ⟨by rfl, rfl⟩) (by assumption) ?_
    try simp only [Act.put, List.getElem_toArray, List.getElem_cons_zero, List.getElem_cons_succ, List.setIfInBounds_toArray, List.set_cons_zero, List.set_cons_succ]
    refine wpAnyH_take (i := 13) (oi := _) (v := ?_) rfl (by kernel_rfl) (by kernel_rfl) (by kernel_rfl) (fun _ _ _ h => h) (Or.inl ⟨by rfl, ?_⟩) (by assumption) ?_
    rotate_left
    focus (intro wS hSw; (try dsimp only at hSw); go_simp; (try with_reducible rfl))
    try simp only [Act.put, List.getElem_toArray, List.getElem_cons_zero, List.getElem_cons_succ, List.setIfInBounds_toArray, List.set_cons_zero, List.set_cons_succ]
    refine wpAnyH_done (by kernel_rfl) ?_ _
    try clear hHeld
    have z119 := H118.out.cell 0 rfl 0 rfl
    have z120 := H118.out.free 0 rfl 0
    have z121 := H118.out.cell 0 rfl 1 rfl
    have z122 := H118.out.free 0 rfl 1
    have z123 := H118.out.cell 0 rfl 2 rfl
    have z124 := H118.out.free 0 rfl 2
    have z125 := H118.out.cell 0 rfl 3 rfl
    have z126 := H118.out.free 0 rfl 3
    go_wp2_with fail
    clear z119 z120 z121 z122 z123 z124 z125 z126
    have H127 := hid (show St B W [.cells (B + 1 + 1) #[.int .i64 0, .int .i64 0, .int .i64 0, .slice none 0 0] 26, .cells (B + 1) #[.int .i64 r0, .int .i64 r1, .int .i64 r2, .int .i64 r3] 39, .cells B #[.int .i64 w, .int .i64 h, .int .i64 mx, .slice a n c] 26] [] ((((w117.setCell ⟨B + 1 + 1, 0, none⟩ (.int .i64 0)).setCell ⟨B + 1 + 1, 1, none⟩ (.int .i64 0)).setCell ⟨B + 1 + 1, 2, none⟩ (.int .i64 0)).setCell ⟨B + 1 + 1, 3, none⟩ (.slice none 0 0)) from (H118.out.set4 0 rfl (.int .i64 0) (.int .i64 0) (.int .i64 0) (.slice none 0 0)))
    have HNO := hid (show cOk w h mx zs r0 r1 r2 r3 = false by unfold cOk; rw [HV.out]; simp)
    have q128 := H127.out.cell 0 rfl 0 rfl
    have q129 := H127.out.cell 0 rfl 1 rfl
    have q130 := H127.out.cell 0 rfl 2 rfl
    have q131 := H127.out.cell 0 rfl 3 rfl
    refine bodyPost_ret (v := .tuple #[.agg #[.int .i64 0, .int .i64 0, .int .i64 0, .slice none 0 0], .bool false]) ?_ rfl (crop_no HNO.out (by first | exact H127.out.below | exact H127.out.below'))
    simp [results, Try.results61, go_sem, q128, q129, q130, q131]
  | true =>
    have HV := hid hv
    clear hv
    cases he : rEmpty r0 r1 r2 r3 with
    | true =>
      have HE := hid he
      clear he
      go_upto_region 1 with fail
      have H132 := hid H113.out.drew
      refine wp_region_held_drew (S := (fun w' => w'.cell? ⟨B, 0, none⟩ = some (.int .i64 w) ∧ w'.cell? ⟨B, 1, none⟩ = some (.int .i64 h) ∧ w'.cell? ⟨B, 2, none⟩ = some (.int .i64 mx) ∧ w'.cell? ⟨B, 3, none⟩ = some (.slice a n c) ∧ w'.cell? ⟨B + 1, 0, none⟩ = some (.int .i64 r0) ∧ w'.cell? ⟨B + 1, 1, none⟩ = some (.int .i64 r1) ∧ w'.cell? ⟨B + 1, 2, none⟩ = some (.int .i64 r2) ∧ w'.cell? ⟨B + 1, 3, none⟩ = some (.int .i64 r3))) (by kernel_rfl) ⟨H132.out.cell 2 rfl 0 rfl, H132.out.cell 2 rfl 1 rfl, H132.out.cell 2 rfl 2 rfl, H132.out.cell 2 rfl 3 rfl, H132.out.cell 1 rfl 0 rfl, H132.out.cell 1 rfl 1 rfl, H132.out.cell 1 rfl 2 rfl, H132.out.cell 1 rfl 3 rfl⟩ (fun hHeld => ?_)
      generalize w114.drew = k133 at *
      refine wpAnyH_take (i := 0) (oi := _) (v := ?_) rfl (by kernel_rfl) (by kernel_rfl) (by kernel_rfl) (fun _ _ _ h => h) (Or.inl ⟨by rfl, ?_⟩) (by assumption) ?_
      rotate_left
      focus (intro wS hSw; (try dsimp only at hSw); go_simp; (try with_reducible rfl))
      try simp only [Act.put, List.getElem_toArray, List.getElem_cons_zero, List.getElem_cons_succ, List.setIfInBounds_toArray, List.set_cons_zero, List.set_cons_succ]
      refine wpAnyH_ready (rs := [1]) (by kernel_rfl) (by simp) (AllReadyH.cons (o := _) rfl (fun K hK => ?_) AllReadyH.nil)
      go_simp
      go_at_call 52
      refine (qpvalid_any _ _ _ _ _ _ _ _ (by have := HS.out.nc; have := HS.out.cap; omega) (H132.out.old HS.out).row).mono ?_
      rintro e w134 ⟨rfl, hb⟩
      have H135 := hid (H132.out.call hb)
      clear hb
      rw [HV.out]
      refine hK.out _ _ ?_ (fun hHeld2 => ?_)
      focus ((try dsimp only); (exact ⟨H135.out.cell 2 rfl 0 rfl, H135.out.cell 2 rfl 1 rfl, H135.out.cell 2 rfl 2 rfl, H135.out.cell 2 rfl 3 rfl, H135.out.cell 1 rfl 0 rfl, H135.out.cell 1 rfl 1 rfl, H135.out.cell 1 rfl 2 rfl, H135.out.cell 1 rfl 3 rfl⟩))
      clear hK K
      try simp only [Act.put, List.getElem_toArray, List.getElem_cons_zero, List.getElem_cons_succ, List.setIfInBounds_toArray, List.set_cons_zero, List.set_cons_succ]
      clear hHeld
      have hHeld := hHeld2
      clear hHeld2
      refine wpAnyH_take (i := 2) (oi := _) (v := ?_) rfl (by kernel_rfl) (by kernel_rfl) (by kernel_rfl) (fun _ _ _ h => h) (Or.inl ⟨by rfl, ?_⟩) (by assumption) ?_
      rotate_left
      focus (intro wS hSw; (try dsimp only at hSw); go_simp; (try with_reducible rfl))
      try simp only [Act.put, List.getElem_toArray, List.getElem_cons_zero, List.getElem_cons_succ, List.setIfInBounds_toArray, List.set_cons_zero, List.set_cons_succ]
      refine wpAnyH_take (i := 3) (oi := _) (v := ?_) rfl (by kernel_rfl) (by kernel_rfl) (by kernel_rfl) (fun _ _ _ h => h) (Or.inl ⟨by rfl, ?_⟩) (by assumption) ?_
      rotate_left
      focus (intro wS hSw; (try dsimp only at hSw); go_simp; (try with_reducible rfl))
      try simp only [Act.put, List.getElem_toArray, List.getElem_cons_zero, List.getElem_cons_succ, List.setIfInBounds_toArray, List.set_cons_zero, List.set_cons_succ]
      refine wpAnyH_take (i := 4) (oi := _) (v := ?_) rfl (by kernel_rfl) (by kernel_rfl) (by kernel_rfl) (fun _ _ _ h => h) (Or.inl ⟨by rfl, ?_⟩) (by assumption) ?_
      rotate_left
      focus (intro wS hSw; (try dsimp only at hSw); go_simp; (try with_reducible rfl))
      try simp only [Act.put, List.getElem_toArray, List.getElem_cons_zero, List.getElem_cons_succ, List.setIfInBounds_toArray, List.set_cons_zero, List.set_cons_succ]
      refine wpAnyH_ready (rs := [5]) (by kernel_rfl) (by simp) (AllReadyH.cons (o := _) rfl (fun K hK => ?_) AllReadyH.nil)
      go_simp
      go_at_call 89
      refine (qempty_any _ _ _ _ _).mono ?_
      rintro e w136 ⟨rfl, hb⟩
      have H137 := hid (H135.out.call hb)
      clear hb
      rw [HE.out]
      refine hK.out _ _ ?_ (fun hHeld2 => ?_)
      focus ((try dsimp only); (exact ⟨H137.out.cell 2 rfl 0 rfl, H137.out.cell 2 rfl 1 rfl, H137.out.cell 2 rfl 2 rfl, H137.out.cell 2 rfl 3 rfl, H137.out.cell 1 rfl 0 rfl, H137.out.cell 1 rfl 1 rfl, H137.out.cell 1 rfl 2 rfl, H137.out.cell 1 rfl 3 rfl⟩))
      clear hK K
      try simp only [Act.put, List.getElem_toArray, List.getElem_cons_zero, List.getElem_cons_succ, List.setIfInBounds_toArray, List.set_cons_zero, List.set_cons_succ]
      clear hHeld
      have hHeld := hHeld2
      clear hHeld2
      refine wpAnyH_take (i := 6) (oi := _) (v := ?_) rfl (by kernel_rfl) (by kernel_rfl) (by kernel_rfl) (fun _ _ _ h => h) (Or.inl ⟨by rfl, ?_⟩) (by assumption) ?_
      rotate_left
      focus (intro wS hSw; (try dsimp only at hSw); go_simp; (try with_reducible rfl))
      try simp only [Act.put, List.getElem_toArray, List.getElem_cons_zero, List.getElem_cons_succ, List.setIfInBounds_toArray, List.set_cons_zero, List.set_cons_succ]
      refine wpAnyH_take (i := 7) (oi := _) (v := ?_) rfl (by kernel_rfl) (by kernel_rfl) (by kernel_rfl) (fun _ _ _ h => h) (Or.inl ⟨by rfl, ?_⟩) (by assumption) ?_
      rotate_left
      focus (intro wS hSw; (try dsimp only at hSw); go_simp; (try with_reducible rfl))
      try simp only [Act.put, List.getElem_toArray, List.getElem_cons_zero, List.getElem_cons_succ, List.setIfInBounds_toArray, List.set_cons_zero, List.set_cons_succ]
      refine wpAnyH_take (i := 8) (oi := _) (v := _) rfl (by kernel_rfl) (by kernel_rfl) (by kernel_rfl) (fun _ _ _ h => h) (Or.inr ⟨by rfl, rfl⟩) (by assumption) ?_
      try simp only [Act.put, List.getElem_toArray, List.getElem_cons_zero, List.getElem_cons_succ, List.setIfInBounds_toArray, List.set_cons_zero, List.set_cons_succ]
      refine wpAnyH_take (i := 9) (oi := _) (v := _) rfl (by kernel_rfl) (by kernel_rfl) (by kernel_rfl) (fun _ _ _ h => h) (Or.inr ⟨by rfl, rfl⟩) (by assumption) ?_
      try simp only [Act.put, List.getElem_toArray, List.getElem_cons_zero, List.getElem_cons_succ, List.setIfInBounds_toArray, List.set_cons_zero, List.set_cons_succ]
      refine wpAnyH_take (i := 10) (oi := _) (v := _) rfl (by kernel_rfl) (by kernel_rfl) (by kernel_rfl) (fun _ _ _ h => h) (Or.inr ⟨by rfl, rfl⟩) (by assumption) ?_
      try simp only [Act.put, List.getElem_toArray, List.getElem_cons_zero, List.getElem_cons_succ, List.setIfInBounds_toArray, List.set_cons_zero, List.set_cons_succ]
      refine wpAnyH_take (i := 11) (oi := _) (v := _) rfl (by kernel_rfl) (by kernel_rfl) (by kernel_rfl) (fun _ _ _ h => h) (Or.inr ⟨by rfl, rfl⟩) (by assumption) ?_
      try simp only [Act.put, List.getElem_toArray, List.getElem_cons_zero, List.getElem_cons_succ, List.setIfInBounds_toArray, List.set_cons_zero, List.set_cons_succ]
      refine wpAnyH_take (i := 12) (oi := _) (v := _) rfl (by kernel_rfl) (by kernel_rfl) (by kernel_rfl) (fun _ _ _ h => h) (Or.inr ⟨by rfl, rfl⟩) (by assumption) ?_
      try simp only [Act.put, List.getElem_toArray, List.getElem_cons_zero, List.getElem_cons_succ, List.setIfInBounds_toArray, List.set_cons_zero, List.set_cons_succ]
      refine wpAnyH_take (i := 13) (oi := _) (v := ?_) rfl (by kernel_rfl) (by kernel_rfl) (by kernel_rfl) (fun _ _ _ h => h) (Or.inl ⟨by rfl, ?_⟩) (by assumption) ?_
      rotate_left
      focus (intro wS hSw; (try dsimp only at hSw); go_simp; (try with_reducible rfl))
      try simp only [Act.put, List.getElem_toArray, List.getElem_cons_zero, List.getElem_cons_succ, List.setIfInBounds_toArray, List.set_cons_zero, List.set_cons_succ]
      refine wpAnyH_done (by kernel_rfl) ?_ _
      try clear hHeld
      have z138 := H137.out.cell 0 rfl 0 rfl
      have z139 := H137.out.free 0 rfl 0
      have z140 := H137.out.cell 0 rfl 1 rfl
      have z141 := H137.out.free 0 rfl 1
      have z142 := H137.out.cell 0 rfl 2 rfl
      have z143 := H137.out.free 0 rfl 2
      have z144 := H137.out.cell 0 rfl 3 rfl
      have z145 := H137.out.free 0 rfl 3
      go_wp2_with fail
      clear z138 z139 z140 z141 z142 z143 z144 z145
      have H146 := hid (show St B W [.cells (B + 1 + 1) #[.int .i64 0, .int .i64 0, .int .i64 0, .slice none 0 0] 26, .cells (B + 1) #[.int .i64 r0, .int .i64 r1, .int .i64 r2, .int .i64 r3] 39, .cells B #[.int .i64 w, .int .i64 h, .int .i64 mx, .slice a n c] 26] [] ((((w136.setCell ⟨B + 1 + 1, 0, none⟩ (.int .i64 0)).setCell ⟨B + 1 + 1, 1, none⟩ (.int .i64 0)).setCell ⟨B + 1 + 1, 2, none⟩ (.int .i64 0)).setCell ⟨B + 1 + 1, 3, none⟩ (.slice none 0 0)) from (H137.out.set4 0 rfl (.int .i64 0) (.int .i64 0) (.int .i64 0) (.slice none 0 0)))
      have HNO := hid (show cOk w h mx zs r0 r1 r2 r3 = false by unfold cOk; rw [HE.out]; simp)
      have q147 := H146.out.cell 0 rfl 0 rfl
      have q148 := H146.out.cell 0 rfl 1 rfl
      have q149 := H146.out.cell 0 rfl 2 rfl
      have q150 := H146.out.cell 0 rfl 3 rfl
      refine bodyPost_ret (v := .tuple #[.agg #[.int .i64 0, .int .i64 0, .int .i64 0, .slice none 0 0], .bool false]) ?_ rfl (crop_no HNO.out (by first | exact H146.out.below | exact H146.out.below'))
      simp [results, Try.results61, go_sem, q147, q148, q149, q150]
    | false =>
      have HE := hid he
      clear he
      cases hin : rInside r0 r1 r2 r3 0 0 w h with
      | false =>
        have HIN := hid hin
        clear hin
        go_upto_region 1 with fail
        have H151 := hid H113.out.drew
        refine wp_region_held_drew (S := (fun w' => w'.cell? ⟨B, 0, none⟩ = some (.int .i64 w) ∧ w'.cell? ⟨B, 1, none⟩ = some (.int .i64 h) ∧ w'.cell? ⟨B, 2, none⟩ = some (.int .i64 mx) ∧ w'.cell? ⟨B, 3, none⟩ = some (.slice a n c) ∧ w'.cell? ⟨B + 1, 0, none⟩ = some (.int .i64 r0) ∧ w'.cell? ⟨B + 1, 1, none⟩ = some (.int .i64 r1) ∧ w'.cell? ⟨B + 1, 2, none⟩ = some (.int .i64 r2) ∧ w'.cell? ⟨B + 1, 3, none⟩ = some (.int .i64 r3))) (by kernel_rfl) ⟨H151.out.cell 2 rfl 0 rfl, H151.out.cell 2 rfl 1 rfl, H151.out.cell 2 rfl 2 rfl, H151.out.cell 2 rfl 3 rfl, H151.out.cell 1 rfl 0 rfl, H151.out.cell 1 rfl 1 rfl, H151.out.cell 1 rfl 2 rfl, H151.out.cell 1 rfl 3 rfl⟩ (fun hHeld => ?_)
        generalize w114.drew = k152 at *
        refine wpAnyH_take (i := 0) (oi := _) (v := ?_) rfl (by kernel_rfl) (by kernel_rfl) (by kernel_rfl) (fun _ _ _ h => h) (Or.inl ⟨by rfl, ?_⟩) (by assumption) ?_
        rotate_left
        focus (intro wS hSw; (try dsimp only at hSw); go_simp; (try with_reducible rfl))
        try simp only [Act.put, List.getElem_toArray, List.getElem_cons_zero, List.getElem_cons_succ, List.setIfInBounds_toArray, List.set_cons_zero, List.set_cons_succ]
        refine wpAnyH_ready (rs := [1]) (by kernel_rfl) (by simp) (AllReadyH.cons (o := _) rfl (fun K hK => ?_) AllReadyH.nil)
        go_simp
        go_at_call 52
        refine (qpvalid_any _ _ _ _ _ _ _ _ (by have := HS.out.nc; have := HS.out.cap; omega) (H151.out.old HS.out).row).mono ?_
        rintro e w153 ⟨rfl, hb⟩
        have H154 := hid (H151.out.call hb)
        clear hb
        rw [HV.out]
        refine hK.out _ _ ?_ (fun hHeld2 => ?_)
        focus ((try dsimp only); (exact ⟨H154.out.cell 2 rfl 0 rfl, H154.out.cell 2 rfl 1 rfl, H154.out.cell 2 rfl 2 rfl, H154.out.cell 2 rfl 3 rfl, H154.out.cell 1 rfl 0 rfl, H154.out.cell 1 rfl 1 rfl, H154.out.cell 1 rfl 2 rfl, H154.out.cell 1 rfl 3 rfl⟩))
        clear hK K
        try simp only [Act.put, List.getElem_toArray, List.getElem_cons_zero, List.getElem_cons_succ, List.setIfInBounds_toArray, List.set_cons_zero, List.set_cons_succ]
        clear hHeld
        have hHeld := hHeld2
        clear hHeld2
        refine wpAnyH_take (i := 2) (oi := _) (v := ?_) rfl (by kernel_rfl) (by kernel_rfl) (by kernel_rfl) (fun _ _ _ h => h) (Or.inl ⟨by rfl, ?_⟩) (by assumption) ?_
        rotate_left
        focus (intro wS hSw; (try dsimp only at hSw); go_simp; (try with_reducible rfl))
        try simp only [Act.put, List.getElem_toArray, List.getElem_cons_zero, List.getElem_cons_succ, List.setIfInBounds_toArray, List.set_cons_zero, List.set_cons_succ]
        refine wpAnyH_take (i := 3) (oi := _) (v := ?_) rfl (by kernel_rfl) (by kernel_rfl) (by kernel_rfl) (fun _ _ _ h => h) (Or.inl ⟨by rfl, ?_⟩) (by assumption) ?_
        rotate_left
        focus (intro wS hSw; (try dsimp only at hSw); go_simp; (try with_reducible rfl))
        try simp only [Act.put, List.getElem_toArray, List.getElem_cons_zero, List.getElem_cons_succ, List.setIfInBounds_toArray, List.set_cons_zero, List.set_cons_succ]
        refine wpAnyH_take (i := 4) (oi := _) (v := ?_) rfl (by kernel_rfl) (by kernel_rfl) (by kernel_rfl) (fun _ _ _ h => h) (Or.inl ⟨by rfl, ?_⟩) (by assumption) ?_
        rotate_left
        focus (intro wS hSw; (try dsimp only at hSw); go_simp; (try with_reducible rfl))
        try simp only [Act.put, List.getElem_toArray, List.getElem_cons_zero, List.getElem_cons_succ, List.setIfInBounds_toArray, List.set_cons_zero, List.set_cons_succ]
        refine wpAnyH_ready (rs := [5]) (by kernel_rfl) (by simp) (AllReadyH.cons (o := _) rfl (fun K hK => ?_) AllReadyH.nil)
        go_simp
        go_at_call 89
        refine (qempty_any _ _ _ _ _).mono ?_
        rintro e w155 ⟨rfl, hb⟩
        have H156 := hid (H154.out.call hb)
        clear hb
        rw [HE.out]
        refine hK.out _ _ ?_ (fun hHeld2 => ?_)
        focus ((try dsimp only); (exact ⟨H156.out.cell 2 rfl 0 rfl, H156.out.cell 2 rfl 1 rfl, H156.out.cell 2 rfl 2 rfl, H156.out.cell 2 rfl 3 rfl, H156.out.cell 1 rfl 0 rfl, H156.out.cell 1 rfl 1 rfl, H156.out.cell 1 rfl 2 rfl, H156.out.cell 1 rfl 3 rfl⟩))
        clear hK K
        try simp only [Act.put, List.getElem_toArray, List.getElem_cons_zero, List.getElem_cons_succ, List.setIfInBounds_toArray, List.set_cons_zero, List.set_cons_succ]
        clear hHeld
        have hHeld := hHeld2
        clear hHeld2
        refine wpAnyH_take (i := 6) (oi := _) (v := ?_) rfl (by kernel_rfl) (by kernel_rfl) (by kernel_rfl) (fun _ _ _ h => h) (Or.inl ⟨by rfl, ?_⟩) (by assumption) ?_
        rotate_left
        focus (intro wS hSw; (try dsimp only at hSw); go_simp; (try with_reducible rfl))
        try simp only [Act.put, List.getElem_toArray, List.getElem_cons_zero, List.getElem_cons_succ, List.setIfInBounds_toArray, List.set_cons_zero, List.set_cons_succ]
        refine wpAnyH_take (i := 7) (oi := _) (v := ?_) rfl (by kernel_rfl) (by kernel_rfl) (by kernel_rfl) (fun _ _ _ h => h) (Or.inl ⟨by rfl, ?_⟩) (by assumption) ?_
        rotate_left
        focus (intro wS hSw; (try dsimp only at hSw); go_simp; (try with_reducible rfl))
        try simp only [Act.put, List.getElem_toArray, List.getElem_cons_zero, List.getElem_cons_succ, List.setIfInBounds_toArray, List.set_cons_zero, List.set_cons_succ]
        refine wpAnyH_take (i := 8) (oi := _) (v := ?_) rfl (by kernel_rfl) (by kernel_rfl) (by kernel_rfl) (fun _ _ _ h => h) (Or.inl ⟨by rfl, ?_⟩) (by assumption) ?_
        rotate_left
        focus (intro wS hSw; (try dsimp only at hSw); go_simp; (try with_reducible rfl))
        try simp only [Act.put, List.getElem_toArray, List.getElem_cons_zero, List.getElem_cons_succ, List.setIfInBounds_toArray, List.set_cons_zero, List.set_cons_succ]
        refine wpAnyH_take (i := 9) (oi := _) (v := ?_) rfl (by kernel_rfl) (by kernel_rfl) (by kernel_rfl) (fun _ _ _ h => h) (Or.inl ⟨by rfl, ?_⟩) (by assumption) ?_
        rotate_left
        focus (intro wS hSw; (try dsimp only at hSw); go_simp; (try with_reducible rfl))
        try simp only [Act.put, List.getElem_toArray, List.getElem_cons_zero, List.getElem_cons_succ, List.setIfInBounds_toArray, List.set_cons_zero, List.set_cons_succ]
        refine wpAnyH_ready (rs := [10]) (by kernel_rfl) (by simp) (AllReadyH.cons (o := _) rfl (fun K hK => ?_) AllReadyH.nil)
        go_simp
        go_at_call 70
        refine (qcover_any _ _ _ _ _ _ _).mono ?_
        rintro e w157 ⟨rfl, hb⟩
        have H158 := hid (H156.out.call hb)
        clear hb
        refine hK.out _ _ ?_ (fun hHeld2 => ?_)
        focus ((try dsimp only); (exact ⟨H158.out.cell 2 rfl 0 rfl, H158.out.cell 2 rfl 1 rfl, H158.out.cell 2 rfl 2 rfl, H158.out.cell 2 rfl 3 rfl, H158.out.cell 1 rfl 0 rfl, H158.out.cell 1 rfl 1 rfl, H158.out.cell 1 rfl 2 rfl, H158.out.cell 1 rfl 3 rfl⟩))
        clear hK K
        try simp only [Act.put, List.getElem_toArray, List.getElem_cons_zero, List.getElem_cons_succ, List.setIfInBounds_toArray, List.set_cons_zero, List.set_cons_succ]
        clear hHeld
        have hHeld := hHeld2
        clear hHeld2
        refine wpAnyH_ready (rs := [11]) (by kernel_rfl) (by simp) (AllReadyH.cons (o := _) rfl (fun K hK => ?_) AllReadyH.nil)
        go_simp
        go_at_call 69
        refine (qinside_any _ _ _ _ _ _ _ _ _).mono ?_
        rintro e w159 ⟨rfl, hb⟩
        have H160 := hid (H158.out.call hb)
        clear hb
        rw [HIN.out]
        refine hK.out _ _ ?_ (fun hHeld2 => ?_)
        focus ((try dsimp only); (exact ⟨H160.out.cell 2 rfl 0 rfl, H160.out.cell 2 rfl 1 rfl, H160.out.cell 2 rfl 2 rfl, H160.out.cell 2 rfl 3 rfl, H160.out.cell 1 rfl 0 rfl, H160.out.cell 1 rfl 1 rfl, H160.out.cell 1 rfl 2 rfl, H160.out.cell 1 rfl 3 rfl⟩))
        clear hK K
        try simp only [Act.put, List.getElem_toArray, List.getElem_cons_zero, List.getElem_cons_succ, List.setIfInBounds_toArray, List.set_cons_zero, List.set_cons_succ]
        clear hHeld
        have hHeld := hHeld2
        clear hHeld2
        refine wpAnyH_take (i := 12) (oi := _) (v := ?_) rfl (by kernel_rfl) (by kernel_rfl) (by kernel_rfl) (fun _ _ _ h => h) (Or.inl ⟨by rfl, ?_⟩) (by assumption) ?_
        rotate_left
        focus (intro wS hSw; (try dsimp only at hSw); go_simp; (try with_reducible rfl))
        try simp only [Act.put, List.getElem_toArray, List.getElem_cons_zero, List.getElem_cons_succ, List.setIfInBounds_toArray, List.set_cons_zero, List.set_cons_succ]
        refine wpAnyH_take (i := 13) (oi := _) (v := ?_) rfl (by kernel_rfl) (by kernel_rfl) (by kernel_rfl) (fun _ _ _ h => h) (Or.inl ⟨by rfl, ?_⟩) (by assumption) ?_
        rotate_left
        focus (intro wS hSw; (try dsimp only at hSw); go_simp; (try with_reducible rfl))
        try simp only [Act.put, List.getElem_toArray, List.getElem_cons_zero, List.getElem_cons_succ, List.setIfInBounds_toArray, List.set_cons_zero, List.set_cons_succ]
        refine wpAnyH_done (by kernel_rfl) ?_ _
        try clear hHeld
        have z161 := H160.out.cell 0 rfl 0 rfl
        have z162 := H160.out.free 0 rfl 0
        have z163 := H160.out.cell 0 rfl 1 rfl
        have z164 := H160.out.free 0 rfl 1
        have z165 := H160.out.cell 0 rfl 2 rfl
        have z166 := H160.out.free 0 rfl 2
        have z167 := H160.out.cell 0 rfl 3 rfl
        have z168 := H160.out.free 0 rfl 3
        go_wp2_with fail
        clear z161 z162 z163 z164 z165 z166 z167 z168
        have H169 := hid (show St B W [.cells (B + 1 + 1) #[.int .i64 0, .int .i64 0, .int .i64 0, .slice none 0 0] 26, .cells (B + 1) #[.int .i64 r0, .int .i64 r1, .int .i64 r2, .int .i64 r3] 39, .cells B #[.int .i64 w, .int .i64 h, .int .i64 mx, .slice a n c] 26] [] ((((w159.setCell ⟨B + 1 + 1, 0, none⟩ (.int .i64 0)).setCell ⟨B + 1 + 1, 1, none⟩ (.int .i64 0)).setCell ⟨B + 1 + 1, 2, none⟩ (.int .i64 0)).setCell ⟨B + 1 + 1, 3, none⟩ (.slice none 0 0)) from (H160.out.set4 0 rfl (.int .i64 0) (.int .i64 0) (.int .i64 0) (.slice none 0 0)))
        have HNO := hid (show cOk w h mx zs r0 r1 r2 r3 = false by unfold cOk; rw [HIN.out]; simp)
        have q170 := H169.out.cell 0 rfl 0 rfl
        have q171 := H169.out.cell 0 rfl 1 rfl
        have q172 := H169.out.cell 0 rfl 2 rfl
        have q173 := H169.out.cell 0 rfl 3 rfl
        refine bodyPost_ret (v := .tuple #[.agg #[.int .i64 0, .int .i64 0, .int .i64 0, .slice none 0 0], .bool false]) ?_ rfl (crop_no HNO.out (by first | exact H169.out.below | exact H169.out.below'))
        simp [results, Try.results61, go_sem, q170, q171, q172, q173]
      | true =>
        have HIN := hid hin
        clear hin
        go_upto_region 1 with fail
        have H174 := hid H113.out.drew
        refine wp_region_held_drew (S := (fun w' => w'.cell? ⟨B, 0, none⟩ = some (.int .i64 w) ∧ w'.cell? ⟨B, 1, none⟩ = some (.int .i64 h) ∧ w'.cell? ⟨B, 2, none⟩ = some (.int .i64 mx) ∧ w'.cell? ⟨B, 3, none⟩ = some (.slice a n c) ∧ w'.cell? ⟨B + 1, 0, none⟩ = some (.int .i64 r0) ∧ w'.cell? ⟨B + 1, 1, none⟩ = some (.int .i64 r1) ∧ w'.cell? ⟨B + 1, 2, none⟩ = some (.int .i64 r2) ∧ w'.cell? ⟨B + 1, 3, none⟩ = some (.int .i64 r3))) (by kernel_rfl) ⟨H174.out.cell 2 rfl 0 rfl, H174.out.cell 2 rfl 1 rfl, H174.out.cell 2 rfl 2 rfl, H174.out.cell 2 rfl 3 rfl, H174.out.cell 1 rfl 0 rfl, H174.out.cell 1 rfl 1 rfl, H174.out.cell 1 rfl 2 rfl, H174.out.cell 1 rfl 3 rfl⟩ (fun hHeld => ?_)
        generalize w114.drew = k175 at *
        refine wpAnyH_take (i := 0) (oi := _) (v := ?_) rfl (by kernel_rfl) (by kernel_rfl) (by kernel_rfl) (fun _ _ _ h => h) (Or.inl ⟨by rfl, ?_⟩) (by assumption) ?_
        rotate_left
        focus (intro wS hSw; (try dsimp only at hSw); go_simp; (try with_reducible rfl))
        try simp only [Act.put, List.getElem_toArray, List.getElem_cons_zero, List.getElem_cons_succ, List.setIfInBounds_toArray, List.set_cons_zero, List.set_cons_succ]
        refine wpAnyH_ready (rs := [1]) (by kernel_rfl) (by simp) (AllReadyH.cons (o := _) rfl (fun K hK => ?_) AllReadyH.nil)
        go_simp
        go_at_call 52
        refine (qpvalid_any _ _ _ _ _ _ _ _ (by have := HS.out.nc; have := HS.out.cap; omega) (H174.out.old HS.out).row).mono ?_
        rintro e w176 ⟨rfl, hb⟩
        have H177 := hid (H174.out.call hb)
        clear hb
        rw [HV.out]
        refine hK.out _ _ ?_ (fun hHeld2 => ?_)
        focus ((try dsimp only); (exact ⟨H177.out.cell 2 rfl 0 rfl, H177.out.cell 2 rfl 1 rfl, H177.out.cell 2 rfl 2 rfl, H177.out.cell 2 rfl 3 rfl, H177.out.cell 1 rfl 0 rfl, H177.out.cell 1 rfl 1 rfl, H177.out.cell 1 rfl 2 rfl, H177.out.cell 1 rfl 3 rfl⟩))
        clear hK K
        try simp only [Act.put, List.getElem_toArray, List.getElem_cons_zero, List.getElem_cons_succ, List.setIfInBounds_toArray, List.set_cons_zero, List.set_cons_succ]
        clear hHeld
        have hHeld := hHeld2
        clear hHeld2
        refine wpAnyH_take (i := 2) (oi := _) (v := ?_) rfl (by kernel_rfl) (by kernel_rfl) (by kernel_rfl) (fun _ _ _ h => h) (Or.inl ⟨by rfl, ?_⟩) (by assumption) ?_
        rotate_left
        focus (intro wS hSw; (try dsimp only at hSw); go_simp; (try with_reducible rfl))
        try simp only [Act.put, List.getElem_toArray, List.getElem_cons_zero, List.getElem_cons_succ, List.setIfInBounds_toArray, List.set_cons_zero, List.set_cons_succ]
        refine wpAnyH_take (i := 3) (oi := _) (v := ?_) rfl (by kernel_rfl) (by kernel_rfl) (by kernel_rfl) (fun _ _ _ h => h) (Or.inl ⟨by rfl, ?_⟩) (by assumption) ?_
        rotate_left
        focus (intro wS hSw; (try dsimp only at hSw); go_simp; (try with_reducible rfl))
        try simp only [Act.put, List.getElem_toArray, List.getElem_cons_zero, List.getElem_cons_succ, List.setIfInBounds_toArray, List.set_cons_zero, List.set_cons_succ]
        refine wpAnyH_take (i := 4) (oi := _) (v := ?_) rfl (by kernel_rfl) (by kernel_rfl) (by kernel_rfl) (fun _ _ _ h => h) (Or.inl ⟨by rfl, ?_⟩) (by assumption) ?_
        rotate_left
        focus (intro wS hSw; (try dsimp only at hSw); go_simp; (try with_reducible rfl))
        try simp only [Act.put, List.getElem_toArray, List.getElem_cons_zero, List.getElem_cons_succ, List.setIfInBounds_toArray, List.set_cons_zero, List.set_cons_succ]
        refine wpAnyH_ready (rs := [5]) (by kernel_rfl) (by simp) (AllReadyH.cons (o := _) rfl (fun K hK => ?_) AllReadyH.nil)
        go_simp
        go_at_call 89
        refine (qempty_any _ _ _ _ _).mono ?_
        rintro e w178 ⟨rfl, hb⟩
        have H179 := hid (H177.out.call hb)
        clear hb
        rw [HE.out]
        refine hK.out _ _ ?_ (fun hHeld2 => ?_)
        focus ((try dsimp only); (exact ⟨H179.out.cell 2 rfl 0 rfl, H179.out.cell 2 rfl 1 rfl, H179.out.cell 2 rfl 2 rfl, H179.out.cell 2 rfl 3 rfl, H179.out.cell 1 rfl 0 rfl, H179.out.cell 1 rfl 1 rfl, H179.out.cell 1 rfl 2 rfl, H179.out.cell 1 rfl 3 rfl⟩))
        clear hK K
        try simp only [Act.put, List.getElem_toArray, List.getElem_cons_zero, List.getElem_cons_succ, List.setIfInBounds_toArray, List.set_cons_zero, List.set_cons_succ]
        clear hHeld
        have hHeld := hHeld2
        clear hHeld2
        refine wpAnyH_take (i := 6) (oi := _) (v := ?_) rfl (by kernel_rfl) (by kernel_rfl) (by kernel_rfl) (fun _ _ _ h => h) (Or.inl ⟨by rfl, ?_⟩) (by assumption) ?_
        rotate_left
        focus (intro wS hSw; (try dsimp only at hSw); go_simp; (try with_reducible rfl))
        try simp only [Act.put, List.getElem_toArray, List.getElem_cons_zero, List.getElem_cons_succ, List.setIfInBounds_toArray, List.set_cons_zero, List.set_cons_succ]
        refine wpAnyH_take (i := 7) (oi := _) (v := ?_) rfl (by kernel_rfl) (by kernel_rfl) (by kernel_rfl) (fun _ _ _ h => h) (Or.inl ⟨by rfl, ?_⟩) (by assumption) ?_
        rotate_left
        focus (intro wS hSw; (try dsimp only at hSw); go_simp; (try with_reducible rfl))
        try simp only [Act.put, List.getElem_toArray, List.getElem_cons_zero, List.getElem_cons_succ, List.setIfInBounds_toArray, List.set_cons_zero, List.set_cons_succ]
        refine wpAnyH_take (i := 8) (oi := _) (v := ?_) rfl (by kernel_rfl) (by kernel_rfl) (by kernel_rfl) (fun _ _ _ h => h) (Or.inl ⟨by rfl, ?_⟩) (by assumption) ?_
        rotate_left
        focus (intro wS hSw; (try dsimp only at hSw); go_simp; (try with_reducible rfl))
        try simp only [Act.put, List.getElem_toArray, List.getElem_cons_zero, List.getElem_cons_succ, List.setIfInBounds_toArray, List.set_cons_zero, List.set_cons_succ]
        refine wpAnyH_take (i := 9) (oi := _) (v := ?_) rfl (by kernel_rfl) (by kernel_rfl) (by kernel_rfl) (fun _ _ _ h => h) (Or.inl ⟨by rfl, ?_⟩) (by assumption) ?_
        rotate_left
        focus (intro wS hSw; (try dsimp only at hSw); go_simp; (try with_reducible rfl))
        try simp only [Act.put, List.getElem_toArray, List.getElem_cons_zero, List.getElem_cons_succ, List.setIfInBounds_toArray, List.set_cons_zero, List.set_cons_succ]
        refine wpAnyH_ready (rs := [10]) (by kernel_rfl) (by simp) (AllReadyH.cons (o := _) rfl (fun K hK => ?_) AllReadyH.nil)
        go_simp
        go_at_call 70
        refine (qcover_any _ _ _ _ _ _ _).mono ?_
        rintro e w180 ⟨rfl, hb⟩
        have H181 := hid (H179.out.call hb)
        clear hb
        refine hK.out _ _ ?_ (fun hHeld2 => ?_)
        focus ((try dsimp only); (exact ⟨H181.out.cell 2 rfl 0 rfl, H181.out.cell 2 rfl 1 rfl, H181.out.cell 2 rfl 2 rfl, H181.out.cell 2 rfl 3 rfl, H181.out.cell 1 rfl 0 rfl, H181.out.cell 1 rfl 1 rfl, H181.out.cell 1 rfl 2 rfl, H181.out.cell 1 rfl 3 rfl⟩))
        clear hK K
        try simp only [Act.put, List.getElem_toArray, List.getElem_cons_zero, List.getElem_cons_succ, List.setIfInBounds_toArray, List.set_cons_zero, List.set_cons_succ]
        clear hHeld
        have hHeld := hHeld2
        clear hHeld2
        refine wpAnyH_ready (rs := [11]) (by kernel_rfl) (by simp) (AllReadyH.cons (o := _) rfl (fun K hK => ?_) AllReadyH.nil)
        go_simp
        go_at_call 69
        refine (qinside_any _ _ _ _ _ _ _ _ _).mono ?_
        rintro e w182 ⟨rfl, hb⟩
        have H183 := hid (H181.out.call hb)
        clear hb
        rw [HIN.out]
        refine hK.out _ _ ?_ (fun hHeld2 => ?_)
        focus ((try dsimp only); (exact ⟨H183.out.cell 2 rfl 0 rfl, H183.out.cell 2 rfl 1 rfl, H183.out.cell 2 rfl 2 rfl, H183.out.cell 2 rfl 3 rfl, H183.out.cell 1 rfl 0 rfl, H183.out.cell 1 rfl 1 rfl, H183.out.cell 1 rfl 2 rfl, H183.out.cell 1 rfl 3 rfl⟩))
        clear hK K
        try simp only [Act.put, List.getElem_toArray, List.getElem_cons_zero, List.getElem_cons_succ, List.setIfInBounds_toArray, List.set_cons_zero, List.set_cons_succ]
        clear hHeld
        have hHeld := hHeld2
        clear hHeld2
        refine wpAnyH_take (i := 12) (oi := _) (v := ?_) rfl (by kernel_rfl) (by kernel_rfl) (by kernel_rfl) (fun _ _ _ h => h) (Or.inl ⟨by rfl, ?_⟩) (by assumption) ?_
        rotate_left
        focus (intro wS hSw; (try dsimp only at hSw); go_simp; (try with_reducible rfl))
        try simp only [Act.put, List.getElem_toArray, List.getElem_cons_zero, List.getElem_cons_succ, List.setIfInBounds_toArray, List.set_cons_zero, List.set_cons_succ]
        refine wpAnyH_take (i := 13) (oi := _) (v := ?_) rfl (by kernel_rfl) (by kernel_rfl) (by kernel_rfl) (fun _ _ _ h => h) (Or.inl ⟨by rfl, ?_⟩) (by assumption) ?_
        rotate_left
        focus (intro wS hSw; (try dsimp only at hSw); go_simp; (try with_reducible rfl))
        try simp only [Act.put, List.getElem_toArray, List.getElem_cons_zero, List.getElem_cons_succ, List.setIfInBounds_toArray, List.set_cons_zero, List.set_cons_succ]
        refine wpAnyH_done (by kernel_rfl) ?_ _
        try clear hHeld
        obtain ⟨hok, hin, hpk⟩ := crop_in HV.out HE.out HIN.out
        obtain ⟨p1, p2, p3, p4, p5, p6, p7⟩ := pOk_iff.1 (pValid_iff.1 HV.out).1
        obtain ⟨i1, i2, i3, i4, i5, i6⟩ := hin
        have HOK := hid hok
        have HPK := hid hpk
        obtain ⟨wd, hwd⟩ : ∃ m : Nat, r2 - r0 = m := ⟨(r2 - r0).toNat, by omega⟩
        obtain ⟨ht, hht⟩ : ∃ m : Nat, r3 - r1 = m := ⟨(r3 - r1).toNat, by omega⟩
        have HWD := hid hwd
        have HHT := hid hht
        obtain ⟨wd1, wd2, ht1, ht2⟩ : 1 ≤ wd ∧ wd ≤ 128 ∧ 1 ≤ ht ∧ ht ≤ 128 := by omega
        obtain ⟨NN, hNN⟩ : ∃ N : Nat, ht * wd = N := ⟨_, rfl⟩
        have hNT : (wd : Int) * (ht : Int) = (NN : Int) := by rw [← hNN, Nat.mul_comm]; simp
        have HNN := hid hNN
        obtain ⟨q1, q2, q3, q4, q5, q6, q7⟩ := pOk_iff.1 hpk
        have n1 : 1 ≤ NN := by rw [← hNN]; exact Nat.mul_pos (by omega) (by omega)
        have n2 : NN ≤ 4096 := by rw [hwd, hht, hNT] at q5; omega
        have HNI := hid (show ∀ x, nIf wd ht mx x = x from fun x => by unfold nIf; rw [← hwd, ← hht, if_pos hpk])
        have HNL := hid (show nList wd ht mx = List.replicate NN 0 from by unfold nList; rw [← hwd, ← hht, if_pos hpk, hwd, hht, hNT]; rfl)
        have HNP := hid (show pOk wd ht mx = true by rw [← hwd, ← hht]; exact hpk)
        have HNW := hid (show (n : Int) = w * h from by rw [← (pValid_iff.1 HV.out).2.1, HL.out])
        obtain ⟨wr1, wr2⟩ : r2 - r0 ≤ wd ∧ (wd : Int) ≤ r2 - r0 := by omega
        obtain ⟨hr1, hr2⟩ : r3 - r1 ≤ ht ∧ (ht : Int) ≤ r3 - r1 := by omega
        clear hok hpk hNN hNT q1 q2 q3 q4 q5 q6 q7
        have z184 := H183.out.cell 1 rfl 0 rfl
        have z185 := H183.out.cell 1 rfl 1 rfl
        have z186 := H183.out.cell 1 rfl 2 rfl
        have z187 := H183.out.cell 1 rfl 3 rfl
        have z188 := H183.out.cell 2 rfl 0 rfl
        have z189 := H183.out.cell 2 rfl 1 rfl
        have z190 := H183.out.cell 2 rfl 2 rfl
        have z191 := H183.out.cell 2 rfl 3 rfl
        go_wp2_with fail
        clear z184 z185 z186 z187 z188 z189 z190 z191
        refine (qnew_any _ _ _ _).mono ?_
        rintro e w192 ⟨v193, rfl, ho, hb⟩
        have H194 := hid (H183.out.grow hb ho)
        obtain ⟨v193a, v193c, rfl, _⟩ := ho.slc
        clear ho hb
        have hnl := HNL.out
        rw [hnl] at H194 ⊢
        simp only [List.length_replicate] at H194 ⊢
        rw [HNI.out, HNI.out, HNI.out, HNP.out]
        clear hnl
        obtain ⟨g0, g1, hg0⟩ := (H194.out.own 0 rfl).pos (by rw [List.length_replicate]; omega)
        simp only [List.length_replicate] at hg0
        injection hg0 with e1 e2 e3
        subst e1
        clear e2 e3
        obtain ⟨cp, hcp⟩ : ∃ m, v193c = m := ⟨_, rfl⟩
        rw [hcp] at H194 ⊢
        clear hcp
        have hNc : NN ≤ cp ∧ (cp : Int) ≤ 9223372036854775807 := by have h' := H194.out.slc 0 rfl; have := h'.nc; have := h'.cap; omega
        obtain ⟨hNc1, hNc2⟩ := hNc
        clear hwd hht
        obtain ⟨D195, hD195⟩ : ∃ D, w192.heap.size = D := ⟨_, rfl⟩
        go_upto_region 4 with fail
        have H196 := hid (show St B W [.cells D195 #[.int .i64 wd, .int .i64 ht, .int .i64 mx, .slice (some ⟨g0, 0, none⟩) NN cp] 26, .own (.slice (some ⟨g0, 0, none⟩) NN cp) (List.replicate NN 0), .cells (B + 1 + 1) #[.int .i64 0, .int .i64 0, .int .i64 0, .slice none 0 0] 26, .cells (B + 1) #[.int .i64 r0, .int .i64 r1, .int .i64 r2, .int .i64 r3] 39, .cells B #[.int .i64 w, .int .i64 h, .int .i64 mx, .slice a n c] 26] [] (w192.alloc (.cells #[.int .i64 wd, .int .i64 ht, .int .i64 mx, .slice (some ⟨g0, 0, none⟩) NN cp] 26)) from (H194.out.alloc #[.int .i64 wd, .int .i64 ht, .int .i64 mx, .slice (some ⟨g0, 0, none⟩) NN cp] 26 hD195))
        first | refine gen_code H196.out ?_ | refine gen_list H196.out ?_ | refine gen_calls H196.out ?_
        intro w197 hG
        clear H196
        have H196 := hid hG
        clear hG
        clear hD195
        go_wp2_with fail
        obtain ⟨f, hf⟩ : ∃ f, tPix w zs r0 r1 = f := ⟨_, rfl⟩
        have HF := hid hf
        clear hf
        go_loopw [8] (fun i wr => ∃ k : Nat, k ≤ ht ∧ i = .int .i64 k ∧ St B W [.own (.slice (some ⟨g0, 0, none⟩) NN cp) (fillL f wd k 0 NN), .cells D195 #[.int .i64 wd, .int .i64 ht, .int .i64 mx, .slice (some ⟨g0, 0, none⟩) NN cp] 26, .cells (B + 1 + 1) #[.int .i64 0, .int .i64 0, .int .i64 0, .slice none 0 0] 26, .cells (B + 1) #[.int .i64 r0, .int .i64 r1, .int .i64 r2, .int .i64 r3] 39, .cells B #[.int .i64 w, .int .i64 h, .int .i64 mx, .slice a n c] 26] [] wr) (fun i _ => ht - (intOf i).toNat)
        case atStart => exact ⟨0, by omega, rfl, by rw [fillL_zero]; exact H196.out.pick [1, 0, 2, 3, 4] rfl (by decide)⟩
        case round =>
          obtain ⟨k, hk, rfl, hst⟩ := hrel
          obtain ⟨u198, rfl⟩ : ∃ u198 : World, u198 = wr := ⟨_, rfl⟩
          have H199 := hid hst
          clear hst
          by_cases hkn : k < ht
          · skip
            have hkn' : (k : Int) < ht := by omega
            have z200 := H199.out.cell 1 rfl 0 rfl
            have z201 := H199.out.cell 1 rfl 1 rfl
            have z202 := H199.out.cell 1 rfl 2 rfl
            have z203 := H199.out.cell 1 rfl 3 rfl
            go_wp2_with fail
            clear z200 z201 z202 z203
            go_loopw [9] (fun i wr => ∃ j : Nat, j ≤ wd ∧ i = .int .i64 j ∧ St B W [.own (.slice (some ⟨g0, 0, none⟩) NN cp) (fillL f wd k j NN), .cells D195 #[.int .i64 wd, .int .i64 ht, .int .i64 mx, .slice (some ⟨g0, 0, none⟩) NN cp] 26, .cells (B + 1 + 1) #[.int .i64 0, .int .i64 0, .int .i64 0, .slice none 0 0] 26, .cells (B + 1) #[.int .i64 r0, .int .i64 r1, .int .i64 r2, .int .i64 r3] 39, .cells B #[.int .i64 w, .int .i64 h, .int .i64 mx, .slice a n c] 26] [] wr) (fun i _ => wd - (intOf i).toNat)
            case atStart => exact ⟨0, by omega, rfl, H199.out⟩
            case round =>
              obtain ⟨j, hj, rfl, hst⟩ := hrel
              obtain ⟨u204, rfl⟩ : ∃ u204 : World, u204 = wr := ⟨_, rfl⟩
              have H205 := hid hst
              clear hst
              by_cases hjn : j < wd
              · skip
                have hjn' : (j : Int) < wd := by omega
                have z206 := H205.out.cell 1 rfl 0 rfl
                have z207 := H205.out.cell 1 rfl 1 rfl
                have z208 := H205.out.cell 1 rfl 2 rfl
                have z209 := H205.out.cell 1 rfl 3 rfl
                go_upto_region 10 with fail
                clear z206 z207 z208 z209
                refine wp_region_still_tail 25 (by kernel_rfl) (by kernel_rfl) ?_
                change wpStill _ _ (u204.drewN 1) (fun a' => wpList _ _ _ _ a' (u204.drewN 1)) _ _
                have H210 := hid (H205.out.drewN 1)
                generalize u204.drewN 1 = k211 at *
                have z212 := H210.out.cell 1 rfl 0 rfl
                have z213 := H210.out.cell 1 rfl 1 rfl
                have z214 := H210.out.cell 1 rfl 2 rfl
                have z215 := H210.out.cell 1 rfl 3 rfl
                have z216 := H210.out.cell 4 rfl 0 rfl
                have z217 := H210.out.cell 4 rfl 1 rfl
                have z218 := H210.out.cell 4 rfl 2 rfl
                have z219 := H210.out.cell 4 rfl 3 rfl
                have z220 := H210.out.cell 3 rfl 0 rfl
                have z221 := H210.out.cell 3 rfl 1 rfl
                have z222 := H210.out.cell 3 rfl 2 rfl
                have z223 := H210.out.cell 3 rfl 3 rfl
                obtain ⟨KN, hKN⟩ : ∃ K : Nat, k * wd = K := ⟨_, rfl⟩
                have hKM : (k : Int) * (wd : Int) = (KN : Int) := by rw [← hKN]; simp
                have kn1 : KN + wd ≤ NN := by
                  have e1 : (k + 1) * wd ≤ ht * wd := Nat.mul_le_mul_right _ (by omega)
                  rw [HNN.out, Nat.add_mul, Nat.one_mul, hKN] at e1
                  omega
                obtain ⟨pa0, pa1, pa2, pa3⟩ := pix_at (w := w) (h := h) (x := j + r0) (y := k + r1) p1 p2 p4 (by omega) (by omega) (by omega) (by omega)
                obtain ⟨PA, hPA⟩ : ∃ P, ((k : Int) + r1) * w = P := ⟨_, rfl⟩
                rw [hPA] at pa0 pa1 pa2 pa3
                obtain ⟨SN, hSN⟩ : ∃ S : Nat, PA + (j : Int) + r0 = (S : Int) := ⟨(PA + (j : Int) + r0).toNat, by omega⟩
                have sn1 : SN < n := by have := HNW.out; omega
                have HPX := hid (show zs.getD SN 0 = f k j from by rw [← HF.out]; unfold tPix; rw [Int.add_comm r1 (k : Int), hPA]; congr 1; omega)
                obtain ⟨pbk, po, hpa⟩ := row_at (H210.out.old HS.out).row (by omega)
                have cz := row_cell (by rw [← hpa]; exact (H210.out.old HS.out).row) (j := SN) sn1
                rw [HPX.out] at cz
                subst hpa
                obtain ⟨s1, s2⟩ := H210.out.get 0 rfl (j := KN + j) (by rw [fillL_len (by omega)]; omega)
                have HNX := hid (show (fillL f wd k j NN).set (KN + j) (f k j) = fillL f wd k (j + 1) NN from by rw [← hKN]; exact fillL_next (by omega))
                obtain ⟨pz, hpz⟩ : ∃ z, f k j = z := ⟨_, rfl⟩
                rw [hpz] at cz HNX
                clear hpz hKN
                have w1 : IntKind.i64.wrap (KN : Int) = KN := IntWalk.i64_in _ (by omega)
                have w2 : IntKind.i64.wrap ((KN : Int) + j) = (KN : Int) + j := IntWalk.i64_in _ (by omega)
                have w3 : IntKind.i64.wrap ((k : Int) + r1) = (k : Int) + r1 := IntWalk.i64_in _ (by omega)
                have w4 : IntKind.i64.wrap PA = PA := IntWalk.i64_in _ (by omega)
                have w5 : IntKind.i64.wrap (PA + (j : Int)) = PA + j := IntWalk.i64_in _ (by omega)
                have w6 : IntKind.i64.wrap (SN : Int) = SN := IntWalk.i64_in _ (by omega)
                have v1 : 0 ≤ (KN : Int) + (j : Int) := by omega
                have v2 : (KN : Int) + (j : Int) < NN := by omega
                have v3 : ((KN : Int) + (j : Int)).toNat = KN + j := by omega
                have v4 : (SN : Int) < n := by omega
                have v5 : (0 : Int) ≤ (SN : Int) := by omega
                simp only [List.take_succ_cons, List.take_zero, List.drop_succ_cons, List.drop_zero]
                iterate 25 still_step
                refine wpStill_nil ?_
                go_upto_region 9 with fail
                have H224 := hid (show St B W [.own (.slice (some ⟨g0, 0, none⟩) NN cp) ((fillL f wd k j NN).set (KN + j) pz), .cells D195 #[.int .i64 wd, .int .i64 ht, .int .i64 mx, .slice (some ⟨g0, 0, none⟩) NN cp] 26, .cells (B + 1 + 1) #[.int .i64 0, .int .i64 0, .int .i64 0, .slice none 0 0] 26, .cells (B + 1) #[.int .i64 r0, .int .i64 r1, .int .i64 r2, .int .i64 r3] 39, .cells B #[.int .i64 w, .int .i64 h, .int .i64 mx, .slice (some ⟨pbk, po, none⟩) n c] 26] [] (k211.setCell ⟨g0, (KN + j), none⟩ (.int .i64 pz)) from (H210.out.store 0 rfl (KN + j) pz))
                first | refine gen_code H224.out ?_ | refine gen_list H224.out ?_ | refine gen_calls H224.out ?_
                intro w225 hG
                clear H224
                have H224 := hid hG
                clear hG
                go_wp2_with fail
                go_roundw
                case rel => exact ⟨j + 1, by omega, by go_num, by rw [← HNX.out]; exact H224.out⟩
                case measure => first | (simp [intOf]; omega) | (simp [intOf]; done)
              · skip
                have hjn' : ¬ ((j : Int) < wd) := by omega
                have HJ := hid (show j = wd by omega)
                have z226 := H205.out.cell 1 rfl 0 rfl
                have z227 := H205.out.cell 1 rfl 1 rfl
                have z228 := H205.out.cell 1 rfl 2 rfl
                have z229 := H205.out.cell 1 rfl 3 rfl
                go_wp2_with fail
                clear z226 z227 z228 z229
                go_roundw
                case rel => exact ⟨k + 1, by omega, by go_num, by rw [← fillL_row]; have e := HJ.out; subst e; exact H205.out⟩
                case measure => first | (simp [intOf]; omega) | (simp [intOf]; done)
          · skip
            have hkn' : ¬ ((k : Int) < ht) := by omega
            have HKL := hid (show k = ht by omega)
            have z230 := H199.out.cell 1 rfl 0 rfl
            have z231 := H199.out.cell 1 rfl 1 rfl
            have z232 := H199.out.cell 1 rfl 2 rfl
            have z233 := H199.out.cell 1 rfl 3 rfl
            have z234 := H199.out.cell 2 rfl 0 rfl
            have z235 := H199.out.free 2 rfl 0
            have z236 := H199.out.cell 2 rfl 1 rfl
            have z237 := H199.out.free 2 rfl 1
            have z238 := H199.out.cell 2 rfl 2 rfl
            have z239 := H199.out.free 2 rfl 2
            have z240 := H199.out.cell 2 rfl 3 rfl
            have z241 := H199.out.free 2 rfl 3
            go_wp2_with fail
            clear z230 z231 z232 z233 z234 z235 z236 z237 z238 z239 z240 z241
            have H242 := hid (show St B W [.own (.slice (some ⟨g0, 0, none⟩) NN cp) (fillL f wd k 0 NN), .cells D195 #[.int .i64 wd, .int .i64 ht, .int .i64 mx, .slice (some ⟨g0, 0, none⟩) NN cp] 26, .cells (B + 1 + 1) #[.int .i64 wd, .int .i64 ht, .int .i64 mx, .slice (some ⟨g0, 0, none⟩) NN cp] 26, .cells (B + 1) #[.int .i64 r0, .int .i64 r1, .int .i64 r2, .int .i64 r3] 39, .cells B #[.int .i64 w, .int .i64 h, .int .i64 mx, .slice a n c] 26] [] ((((u198.setCell ⟨B + 1 + 1, 0, none⟩ (.int .i64 wd)).setCell ⟨B + 1 + 1, 1, none⟩ (.int .i64 ht)).setCell ⟨B + 1 + 1, 2, none⟩ (.int .i64 mx)).setCell ⟨B + 1 + 1, 3, none⟩ (.slice (some ⟨g0, 0, none⟩) NN cp)) from (H199.out.set4 2 rfl (.int .i64 wd) (.int .i64 ht) (.int .i64 mx) (.slice (some ⟨g0, 0, none⟩) NN cp)))
            have HCI := hid (show ∀ x, cIf w h mx zs r0 r1 r2 r3 x = x from fun x => by unfold cIf; rw [if_pos HOK.out])
            have HCL := hid (show cList w h mx zs r0 r1 r2 r3 = fillL f wd k 0 NN from by unfold cList cAll; rw [if_pos HOK.out, HF.out, HWD.out, HHT.out, ← HNN.out, ← HKL.out, fillL_all]; rfl)
            have q243 := H242.out.cell 2 rfl 0 rfl
            have q244 := H242.out.cell 2 rfl 1 rfl
            have q245 := H242.out.cell 2 rfl 2 rfl
            have q246 := H242.out.cell 2 rfl 3 rfl
            refine bodyPost_ret (v := .tuple #[.agg #[.int .i64 wd, .int .i64 ht, .int .i64 mx, .slice (some ⟨g0, 0, none⟩) NN cp], .bool true]) ?_ rfl ⟨_, by rw [HCI.out, HCI.out, HCI.out, HOK.out, HWD.out, HHT.out], by rw [HCL.out, hB]; exact H242.out.own 0 rfl, by first | exact H242.out.below | exact H242.out.below'⟩
            simp [results, Try.results61, go_sem, q243, q244, q245, q246]
end

section
open Go.RowKit
attribute [local go_sem ↓] Go.wp_at_zero Go.wp_at_succ
set_option linter.unusedVariables false
set_option linter.unusedSimpArgs false

def MaxPost (zs : List Int) (W : World) (e : Ending) (w' : World) : Prop := ∃ m : Int, e = .returned (.int .i64 m) ∧ m ∈ zs ∧ (∀ z ∈ zs, z ≤ m) ∧ Below W.heap.size W w'
set_option maxRecDepth 100000 in
set_option maxHeartbeats 1600000 in
theorem smax_any (a : Option Addr) (n c : Nat) (zs : List Int) (W : World) (hs : Slc W a n c zs) (hn : 1 ≤ n) :
    Calls Try.prog 79 #[.slice a n c] W (MaxPost zs W) := by
  obtain ⟨B, hB⟩ : ∃ B, W.heap.size = B := ⟨_, rfl⟩
  have HI0 := hid (St.init hB)
  have HS := hid hs
  have HL := hid hs.len
  obtain ⟨b, o, rfl⟩ := row_at hs.row (by omega)
  have nm : (n : Int) ≤ 9223372036854775807 := by have := hs.nc; have := hs.cap; omega
  have c0 := row_cell hs.row (j := 0) (by omega)
  rw [Nat.add_zero] at c0
  obtain ⟨z0, hz0⟩ : ∃ z, zs.getD 0 0 = z := ⟨_, rfl⟩
  rw [hz0] at c0
  have HZ0 := hid hz0
  have n1 : ¬ ((n : Int) < 1) := by omega
  have n2 : (0 : Int) < n := by omega
  clear hs hz0
  go_enter Try.func79, Try.ntmps79
  go_wp2_with fail
  go_loopw [4, 3] (fun i s wr => ∃ (j : Nat) (m : Int), 1 ≤ j ∧ j ≤ n ∧ i = .int .i64 j ∧ s = .int .i64 m ∧ m ∈ zs ∧ (∀ i, i < j → zs.getD i 0 ≤ m) ∧ St B W [] [] wr) (fun i _ _ => n - (intOf i).toNat)
  case atStart => exact ⟨1, z0, by omega, by omega, rfl, rfl, by rw [← HZ0.out]; exact getD_mem' (by rw [HL.out]; omega), fun i hi => by rw [show i = 0 by omega, HZ0.out]; omega, HI0.out⟩
  case round =>
    obtain ⟨j, m, hj0, hj, rfl, rfl, hm, ha, hst⟩ := hrel
    obtain ⟨u1, rfl⟩ : ∃ u1 : World, u1 = wr := ⟨_, rfl⟩
    have H2 := hid hst
    clear hst
    have HA := hid ha
    have HM := hid hm
    clear ha hm c0
    by_cases hjn : j < n
    · skip
      have hjn' : (j : Int) < n := by omega
      have cz := row_cell (H2.out.old HS.out).row hjn
      have hzm := getD_mem' (zs := zs) (j := j) (by rw [HL.out]; exact hjn)
      obtain ⟨z, hz⟩ : ∃ z, zs.getD j 0 = z := ⟨_, rfl⟩
      have HX := hid (show (if m < z then z else m) ∈ zs ∧ ∀ i, i < j + 1 → zs.getD i 0 ≤ (if m < z then z else m) from by
        rw [hz] at hzm
        refine ⟨?_, fun i hi => ?_⟩
        · split
          · exact hzm
          · exact HM.out
        · rcases Nat.lt_or_ge i j with h' | h'
          · have := HA.out i h'; split <;> omega
          · obtain rfl : i = j := by omega
            rw [hz]; split <;> omega)
      rw [hz] at cz
      clear hz hzm
      go_wp2_with fail
      go_roundw
      case rel => exact ⟨j + 1, _, by omega, by omega, by go_num, rfl, HX.out.1, HX.out.2, H2.out⟩
      case measure => first | (simp [intOf]; omega) | (simp [intOf]; done)
    · skip
      have hjn' : ¬ ((j : Int) < n) := by omega
      go_wp2_with fail
      go_ret
      exact ⟨m, rfl, HM.out, fun z hz => by obtain ⟨i, hi, rfl⟩ := mem_getD' hz; exact HA.out i (by rw [HL.out] at hi; omega), by first | exact H2.out.below | exact H2.out.below'⟩

set_option maxRecDepth 100000 in
set_option maxHeartbeats 1600000 in
theorem sclone_any (a : Option Addr) (n c : Nat) (zs : List Int) (W : World) (hs : Slc W a n c zs) (hn : 1 ≤ n) (hn2 : n ≤ 1000000) :
    Calls Try.prog 80 #[.slice a n c] W fun e w' => ∃ v, e = .returned v ∧ Own W.heap.size w' v zs ∧ Below W.heap.size W w' := by
  obtain ⟨B, hB⟩ : ∃ B, W.heap.size = B := ⟨_, rfl⟩
  obtain ⟨b, o, rfl⟩ := row_at hs.row (by omega)
  have HL := hid hs.len
  have HA := hid (((St.init hB).alloc #[] 3 hB).litOwn 0 [] rfl (by simp))
  have HS := hid (HA.out.old hs)
  have hsz : (W.alloc (.cells #[] 3)).heap.size = B + 1 := alloc_size _ hB
  clear hs
  have run_nil := fun (w : World) => Lib.run_eql_slice_nil (P := Try.prog) w 22 3 (some ⟨b, o, none⟩) n c 0 0 Try.underlying22
  go_enter Try.func80, Try.ntmps80
  go_wp2_with (at_builtin; refine append_row rfl _ _ rfl B _ [] b o n c zs rfl rfl (HA.out.own 0 rfl) HS.out.row (by simp; omega) HA.out.size ?_; intro v2 w2 ho hg hv; rw [List.nil_append] at ho; have H2 := hid (HA.out.append 0 rfl ho hg hv); clear hg hv ho)
  go_ret
  exact ⟨v2, rfl, by rw [hB]; exact H2.out.own 0 rfl, by first | exact H2.out.below | exact H2.out.below'⟩
end
end Go.Proofs.Ytoojiabdgaflgaa
