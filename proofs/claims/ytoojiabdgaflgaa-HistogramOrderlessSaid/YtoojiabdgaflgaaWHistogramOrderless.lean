/-
  The walk of HistogramOrderless: exchanging pixels changes no count, changing one pixel changes its two counts by one.
-/
import Derived.Test.YtoojiabdgaflgaaWHistogramCounts
import Derived.Test.YtoojiabdgaflgaaCopy
import Derived.Test.YtoojiabdgaflgaaHistCount
import Derived.StillTailTactics
import Derived.Deep.QuietTactic
import Derived.BigQuiet
namespace Go.Proofs.Ytoojiabdgaflgaa
open Go.RowKit
attribute [local go_sem ↓] Go.wp_at_zero Go.wp_at_succ
set_option linter.unusedVariables false
set_option linter.unusedSimpArgs false

theorem pValid_set {w h mx : Int} {zs : List Int} (hv : pValid w h mx zs = true) (i : Nat) {z : Int} (h0 : 0 ≤ z) (h1 : z ≤ mx) : pValid w h mx (zs.set i z) = true := by
  obtain ⟨hp, hl, ha⟩ := pValid_iff.1 hv
  refine pValid_iff.2 ⟨hp, by rw [List.length_set]; exact hl, ?_⟩
  have hin : ∀ i, 0 ≤ zs.getD i 0 ∧ zs.getD i 0 ≤ mx := fun i => by
    rcases Nat.lt_or_ge i zs.length with h' | h'
    · have : zs.getD i 0 = zs[i] := by rw [List.getD_eq_getElem?_getD, List.getElem?_eq_getElem h']; rfl
      rw [this]; exact ha _ (List.getElem_mem h')
    · rw [List.getD_eq_getElem?_getD, List.getElem?_eq_none h']
      have := (pOk_iff.1 hp).2.2.2.2.2.1
      show (0 : Int) ≤ 0 ∧ (0 : Int) ≤ mx
      omega
  exact allIn_iff.1 (allIn_of fun k _ => in_set hin h0 h1 k)
theorem pix_in {w h mx : Int} {zs : List Int} (hv : pValid w h mx zs = true) {i : Nat} (hi : i < zs.length) : 0 ≤ zs.getD i 0 ∧ zs.getD i 0 ≤ mx := by
  have : zs.getD i 0 = zs[i] := by rw [List.getD_eq_getElem?_getD, List.getElem?_eq_getElem hi]; rfl
  rw [this]; exact (pValid_iff.1 hv).2.2 _ (List.getElem_mem hi)
/-- The exchange of two pixels. -/
def swp (zs : List Int) (i j : Nat) : List Int := (zs.set i (zs.getD j 0)).set j (zs.getD i 0)
theorem swp_valid {w h mx : Int} {zs : List Int} (hv : pValid w h mx zs = true) {i j : Nat} (hi : i < zs.length) (hj : j < zs.length) : pValid w h mx (swp zs i j) = true :=
  pValid_set (pValid_set hv i (pix_in hv hj).1 (pix_in hv hj).2) j (pix_in hv hi).1 (pix_in hv hi).2
theorem swp_count {mx bins : Int} {zs : List Int} {i j : Nat} (hi : i < zs.length) (hj : j < zs.length) (m : Nat) : nBin mx bins (swp zs i j) m = nBin mx bins zs m := by
  have h1 := nBin_set (mx := mx) (bins := bins) (zs := zs) (zs.getD j 0) m hi
  have h2 := nBin_set (mx := mx) (bins := bins) (zs := zs.set i (zs.getD j 0)) (zs.getD i 0) m (i := j) (by simpa using hj)
  have e : (zs.set i (zs.getD j 0)).getD j 0 = zs.getD j 0 := by
    by_cases e : i = j
    · subst e
      rw [List.getD_eq_getElem?_getD, List.getElem?_set_self hi]; rfl
    · rw [List.getD_eq_getElem?_getD, List.getElem?_set_ne e, ← List.getD_eq_getElem?_getD]
  rw [e] at h2
  unfold swp
  omega
theorem swp_len (zs : List Int) (i j : Nat) : (swp zs i j).length = zs.length := by simp [swp]
theorem swp_list {w h mx bins : Int} {zs : List Int} (hv : pValid w h mx zs = true) (b1 : 1 ≤ bins) (b2 : bins ≤ 128) {i j : Nat} (hi : i < zs.length) (hj : j < zs.length) : hList w h mx (swp zs i j) bins 0 0 w h = hList w h mx zs bins 0 0 w h := by
  obtain ⟨_, l1, c1⟩ := whole_counts hv b1 b2
  obtain ⟨_, l2, c2⟩ := whole_counts (swp_valid hv hi hj) b1 b2
  refine eq_of_getD (by rw [l1, l2]) fun k hk => ?_
  rw [l2] at hk
  rw [c1 k hk, c2 k hk, swp_count hi hj]
theorem set_list {w h mx bins : Int} {zs : List Int} (hv : pValid w h mx zs = true) (b1 : 1 ≤ bins) (b2 : bins ≤ 128) {i : Nat} (hi : i < zs.length) {z : Int} (z0 : 0 ≤ z) (z1 : z ≤ mx) {m : Nat} (hm : m < bins.toNat) :
    (hList w h mx (zs.set i z) bins 0 0 w h).getD m 0 - (hList w h mx zs bins 0 0 w h).getD m 0 = (if hBin z mx bins = m then 1 else 0) - (if hBin (zs.getD i 0) mx bins = m then 1 else 0) := by
  obtain ⟨_, _, c1⟩ := whole_counts hv b1 b2
  obtain ⟨_, _, c2⟩ := whole_counts (pValid_set hv i z0 z1) b1 b2
  rw [c1 m hm, c2 m hm, nBin_set z m hi]
  have h1 := (hBin_bd (v := z) (mx := mx) b1).1
  have h2 := (hBin_bd (v := zs.getD i 0) (mx := mx) b1).1
  have e1 : (hBin z mx bins).toNat = m ↔ hBin z mx bins = m := by omega
  have e2 : (hBin (zs.getD i 0) mx bins).toNat = m ↔ hBin (zs.getD i 0) mx bins = m := by omega
  simp only [e1, e2]
  omega

set_option maxRecDepth 100000 in
set_option maxHeartbeats 6400000 in
theorem walk_HistogramOrderless (a : Option Addr) (n c : Nat) (zs : List Int) (v : Int) (W : World) (hr : RowIn .i64 W a n c zs) (_ : I64 v) :
    Calls Try.prog 3 #[.slice a n c, .int .i64 v] W fun e w' => e = .returned (.bool true) ∧ Below W.heap.size W w' := by
  obtain ⟨B, hB⟩ : ∃ B, W.heap.size = B := ⟨_, rfl⟩
  have HN := hid (near_of_row hr hB)
  have HR := hid hr
  clear hr
  go_enter Try.func3, Try.ntmps3
  go_wp2_with fail
  refine (newB_any B a n c zs _ HR.out.len HR.out.row HN.out (by omega)).mono ?_
  rintro e w0 ⟨rfl, ht, hb, hs⟩
  rw [hB] at ht ⊢
  have H0 := hid (show St B W [.tape B] [] w0 from (St.init hB).newTape ht hb hB)
  clear ht hb hs
  go_wp2_with fail
  refine (plane_any B B _ (H0.out.tapeAt 0 rfl)).mono ?_
  rintro e v1 ⟨pw, ph, pw1, pw2, ph1, ph2, pm, pv, ps, rfl, hv, hm, ho, ht, hg⟩
  have H1 := hid (H0.out.add (H0.out.next 0 rfl ht hg) ho)
  have HV := hid hv
  have hl0 := (pValid_iff.1 hv).2.1
  have hl1 := Int.mul_le_mul (a := 1) (c := pw) (b := 1) (d := ph) (by omega) (by omega) (by omega) (by omega)
  have hl2 := Int.mul_le_mul (a := pw) (c := 6) (b := ph) (d := 5) (by omega) (by omega) (by omega) (by omega)
  obtain ⟨N, hN⟩ : ∃ N, ps.length = N := ⟨_, rfl⟩
  have hN1 : 1 ≤ N := by omega
  have hN2 : N ≤ 30 := by omega
  obtain ⟨pa, pc, rfl, _⟩ := ho.slc
  obtain ⟨pm1, pm2⟩ : 1 ≤ pm ∧ pm ≤ 4294967296 := by have := (pOk_iff.1 (pValid_iff.1 hv).1); omega
  have HNN := hid hN
  rw [hN] at H1 ⊢
  clear hv ho ht hg hl0 hl1 hl2 hN
  have H2 := hid (show St B W [.own (.slice pa N pc) ps, .tape B] [] _ from H1.out)
  go_wp2_with fail
  refine (nextB_any B B _ _ (by omega) (H2.out.tapeAt 1 rfl)).mono ?_
  rintro e w3 ⟨x, rfl, xa, xb, htn, hgn, hsn⟩
  have H4 := hid (H2.out.next 1 rfl htn hgn)
  clear htn hgn hsn
  have xc : x < 9 := by omega
  clear xb
  obtain ⟨D1, hD1⟩ : ∃ D, w3.heap.size = D := ⟨_, rfl⟩
  go_wp2_with fail
  have H5 := hid (H4.out.alloc #[.int .i64 pw, .int .i64 ph, .int .i64 pm, .slice pa N pc] 26 hD1)
  clear hD1
  refine (qcopy_any _ _ _ _ _ _ ps _ (H5.out.slc 1 rfl) hN1 (by omega)).mono ?_
  rintro e v2 ⟨qv, rfl, ho, hb⟩
  have H6 := hid (H5.out.grow hb ho)
  obtain ⟨qg, qc, rfl⟩ := ho.pos (by have := HNN.out; omega)
  rw [HNN.out] at H6 ⊢
  clear ho hb
  obtain ⟨D2, hD2⟩ : ∃ D, v2.heap.size = D := ⟨_, rfl⟩
  go_upto_region 4 with fail
  have H7 := hid (H6.out.alloc #[.int .i64 pw, .int .i64 ph, .int .i64 pm, .slice (some ⟨qg, 0, none⟩) N qc] 26 hD2)
  clear hD2
  generalize World.alloc v2 _ = v3 at *
  have hNN1 : (1 : Int) ≤ N := by omega
  have H9 := hid (H7.out.drew)
  refine wp_region_held_drew (S := (fun w' => w'.cell? ⟨D2, 3, none⟩ = some (.slice (some ⟨qg, 0, none⟩) N qc))) (by kernel_rfl) (H9.out.cell 0 rfl 3 rfl) (fun hHeld => ?_)
  generalize v3.drew = v4 at *
  refine wpAnyH_take (i := 0) (oi := _) (v := ?_) rfl (by kernel_rfl) (by kernel_rfl) (by kernel_rfl) (fun _ _ _ h => h) (Or.inl ⟨by rfl, ?_⟩) (by assumption) ?_
  rotate_left
  focus (intro wS hSw; (try dsimp only at hSw); go_simp; (try with_reducible rfl))
  try simp only [Act.put, List.getElem_toArray, List.getElem_cons_zero, List.getElem_cons_succ, List.setIfInBounds_toArray, List.set_cons_zero, List.set_cons_succ]
  refine wpAnyH_take (i := 1) (oi := _) (v := ?_) rfl (by kernel_rfl) (by kernel_rfl) (by kernel_rfl) (fun _ _ _ h => h) (Or.inl ⟨by rfl, ?_⟩) (by assumption) ?_
  rotate_left
  focus (intro wS hSw; (try dsimp only at hSw); go_simp; (try with_reducible rfl))
  try simp only [Act.put, List.getElem_toArray, List.getElem_cons_zero, List.getElem_cons_succ, List.setIfInBounds_toArray, List.set_cons_zero, List.set_cons_succ]
  refine wpAnyH_take (i := 2) (oi := _) (v := ?_) rfl (by kernel_rfl) (by kernel_rfl) (by kernel_rfl) (fun _ _ _ h => h) (Or.inl ⟨by rfl, ?_⟩) (by assumption) ?_
  rotate_left
  focus (intro wS hSw; (try dsimp only at hSw); go_simp; (try with_reducible rfl))
  try simp only [Act.put, List.getElem_toArray, List.getElem_cons_zero, List.getElem_cons_succ, List.setIfInBounds_toArray, List.set_cons_zero, List.set_cons_succ]
  refine wpAnyH_take (i := 3) (oi := _) (v := ?_) rfl (by kernel_rfl) (by kernel_rfl) (by kernel_rfl) (fun _ _ _ h => h) (Or.inl ⟨by rfl, ?_⟩) (by assumption) ?_
  rotate_left
  focus (intro wS hSw; (try dsimp only at hSw); go_simp; (try with_reducible rfl))
  try simp only [Act.put, List.getElem_toArray, List.getElem_cons_zero, List.getElem_cons_succ, List.setIfInBounds_toArray, List.set_cons_zero, List.set_cons_succ]
  refine wpAnyH_take (i := 5) (oi := _) (v := ?_) rfl (by kernel_rfl) (by kernel_rfl) (by kernel_rfl) (fun _ _ _ h => h) (Or.inl ⟨by rfl, ?_⟩) (by assumption) ?_
  rotate_left
  focus (intro wS hSw; (try dsimp only at hSw); go_simp; (try with_reducible rfl))
  try simp only [Act.put, List.getElem_toArray, List.getElem_cons_zero, List.getElem_cons_succ, List.setIfInBounds_toArray, List.set_cons_zero, List.set_cons_succ]
  refine wpAnyH_take (i := 6) (oi := _) (v := ?_) rfl (by kernel_rfl) (by kernel_rfl) (by kernel_rfl) (fun _ _ _ h => h) (Or.inl ⟨by rfl, ?_⟩) (by assumption) ?_
  rotate_left
  focus (intro wS hSw; (try dsimp only at hSw); go_simp; (try with_reducible rfl))
  try simp only [Act.put, List.getElem_toArray, List.getElem_cons_zero, List.getElem_cons_succ, List.setIfInBounds_toArray, List.set_cons_zero, List.set_cons_succ]
  refine wpAnyH_take (i := 7) (oi := _) (v := ?_) rfl (by kernel_rfl) (by kernel_rfl) (by kernel_rfl) (fun _ _ _ h => h) (Or.inl ⟨by rfl, ?_⟩) (by assumption) ?_
  rotate_left
  focus (intro wS hSw; (try dsimp only at hSw); go_simp; (try with_reducible rfl))
  try simp only [Act.put, List.getElem_toArray, List.getElem_cons_zero, List.getElem_cons_succ, List.setIfInBounds_toArray, List.set_cons_zero, List.set_cons_succ]
  refine wpAnyH_take (i := 8) (oi := _) (v := ?_) rfl (by kernel_rfl) (by kernel_rfl) (by kernel_rfl) (fun _ _ _ h => h) (Or.inl ⟨by rfl, ?_⟩) (by assumption) ?_
  rotate_left
  focus (intro wS hSw; (try dsimp only at hSw); go_simp; (try with_reducible rfl))
  try simp only [Act.put, List.getElem_toArray, List.getElem_cons_zero, List.getElem_cons_succ, List.setIfInBounds_toArray, List.set_cons_zero, List.set_cons_succ]
  refine wpAnyH_ready (rs := [4]) (by kernel_rfl) (by simp) (AllReadyH.cons (o := _) rfl (fun K hK => ?_) AllReadyH.nil)
  go_simp
  go_at_call 20; refine (nextB_any B B _ _ (by omega) (H9.out.tapeAt 4 rfl)).mono ?_; rintro e k101 ⟨i, rfl, ia, ib, htn, hgn, hsn⟩; have K101 := hid (H9.out.next 4 rfl htn hgn); have ic : i < (N : Int) := (by omega); clear htn hgn hsn ib
  refine hK.out _ _ ?_ (fun hHeld2 => ?_)
  focus ((try dsimp only); (exact K101.out.cell 0 rfl 3 rfl))
  clear hK K
  try simp only [Act.put, List.getElem_toArray, List.getElem_cons_zero, List.getElem_cons_succ, List.setIfInBounds_toArray, List.set_cons_zero, List.set_cons_succ]
  clear hHeld
  have hHeld := hHeld2
  clear hHeld2
  refine wpAnyH_ready (rs := [9]) (by kernel_rfl) (by simp) (AllReadyH.cons (o := _) rfl (fun K hK => ?_) AllReadyH.nil)
  go_simp
  go_at_call 20; refine (nextB_any B B _ _ (by omega) (K101.out.tapeAt 4 rfl)).mono ?_; rintro e k102 ⟨j, rfl, ja, jb, htn, hgn, hsn⟩; have K102 := hid (K101.out.next 4 rfl htn hgn); have jc : j < (N : Int) := (by omega); clear htn hgn hsn jb
  refine hK.out _ _ ?_ (fun hHeld2 => ?_)
  focus ((try dsimp only); (exact K102.out.cell 0 rfl 3 rfl))
  clear hK K
  try simp only [Act.put, List.getElem_toArray, List.getElem_cons_zero, List.getElem_cons_succ, List.setIfInBounds_toArray, List.set_cons_zero, List.set_cons_succ]
  clear hHeld
  have hHeld := hHeld2
  clear hHeld2
  refine wpAnyH_take (i := 10) (oi := _) (v := ?_) rfl (by kernel_rfl) (by kernel_rfl) (by kernel_rfl) (fun _ _ _ h => h) (Or.inl ⟨by rfl, ?_⟩) (by assumption) ?_
  rotate_left
  focus (intro wS hSw; (try dsimp only at hSw); go_simp; (try with_reducible rfl))
  try simp only [Act.put, List.getElem_toArray, List.getElem_cons_zero, List.getElem_cons_succ, List.setIfInBounds_toArray, List.set_cons_zero, List.set_cons_succ]
  refine wpAnyH_take (i := 11) (oi := _) (v := ?_) rfl (by kernel_rfl) (by kernel_rfl) (by kernel_rfl) (fun _ _ _ h => h) (Or.inl ⟨by rfl, ?_⟩) (by assumption) ?_
  rotate_left
  focus (intro wS hSw; (try dsimp only at hSw); go_simp; (try with_reducible rfl))
  try simp only [Act.put, List.getElem_toArray, List.getElem_cons_zero, List.getElem_cons_succ, List.setIfInBounds_toArray, List.set_cons_zero, List.set_cons_succ]
  refine wpAnyH_done (by kernel_rfl) ?_ _
  clear hHeld
  obtain ⟨i, rfl⟩ := Int.eq_ofNat_of_zero_le ia
  obtain ⟨j, rfl⟩ := Int.eq_ofNat_of_zero_le ja
  have hi : i < N := by omega
  have hj : j < N := by omega
  go_upto_region 5 with fail
  go_cut [9] (fun s wx => s = .int .i64 i ∧ St B W [.cells D2 #[.int .i64 pw, .int .i64 ph, .int .i64 pm, .slice (some ⟨qg, 0, none⟩) N qc] 26, .own (.slice (some ⟨qg, 0, none⟩) N qc) (swp ps i j), .cells D1 #[.int .i64 pw, .int .i64 ph, .int .i64 pm, .slice pa N pc] 26, .own (.slice pa N pc) ps, .tape B] [] wx)
  case first =>
    have H10 := hid (K102.out.drew)
    obtain ⟨s1, s2⟩ := H10.out.get 1 rfl (j := i) (by rw [HNN.out]; exact hi)
    obtain ⟨t1, t2⟩ := H10.out.get 1 rfl (j := j) (by rw [HNN.out]; exact hj)
    have HZI := hid (pix_in HV.out (i := i) (by rw [HNN.out]; exact hi))
    have HZJ := hid (pix_in HV.out (i := j) (by rw [HNN.out]; exact hj))
    obtain ⟨zi, hzi⟩ : ∃ z, ps.getD i 0 = z := ⟨_, rfl⟩
    obtain ⟨zj, hzj⟩ : ∃ z, ps.getD j 0 = z := ⟨_, rfl⟩
    rw [hzi] at s1 HZI
    rw [hzj] at t1 HZJ
    have HI := hid hzi
    have HJ := hid hzj
    clear hzi hzj
    refine wp_region_held_drew (S := (fun w' => w'.cell? ⟨D2, 3, none⟩ = some (.slice (some ⟨qg, 0, none⟩) N qc))) (by kernel_rfl) (H10.out.cell 0 rfl 3 rfl) (fun hHeld => ?_)
    generalize World.drew k102 = v5 at *
    refine wpAnyH_take (i := 0) (oi := _) (v := ?_) rfl (by kernel_rfl) (by kernel_rfl) (by kernel_rfl) (fun _ _ _ h => h) (Or.inl ⟨by rfl, ?_⟩) (by assumption) ?_
    rotate_left
    focus (intro wS hSw; (try dsimp only at hSw); go_simp; (try with_reducible rfl))
    try simp only [Act.put, List.getElem_toArray, List.getElem_cons_zero, List.getElem_cons_succ, List.setIfInBounds_toArray, List.set_cons_zero, List.set_cons_succ]
    refine wpAnyH_take (i := 1) (oi := _) (v := ?_) rfl (by kernel_rfl) (by kernel_rfl) (by kernel_rfl) (fun _ _ _ h => h) (Or.inl ⟨by rfl, ?_⟩) (by assumption) ?_
    rotate_left
    focus (intro wS hSw; (try dsimp only at hSw); go_simp; (try with_reducible rfl))
    try simp only [Act.put, List.getElem_toArray, List.getElem_cons_zero, List.getElem_cons_succ, List.setIfInBounds_toArray, List.set_cons_zero, List.set_cons_succ]
    refine wpAnyH_take (i := 2) (oi := _) (v := ?_) rfl (by kernel_rfl) (by kernel_rfl) (by kernel_rfl) (fun _ _ _ h => h) (Or.inl ⟨by rfl, ?_⟩) (by assumption) ?_
    rotate_left
    focus (intro wS hSw; (try dsimp only at hSw); go_simp; (try with_reducible rfl))
    try simp only [Act.put, List.getElem_toArray, List.getElem_cons_zero, List.getElem_cons_succ, List.setIfInBounds_toArray, List.set_cons_zero, List.set_cons_succ]
    refine wpAnyH_take (i := 3) (oi := _) (v := ?_) rfl (by kernel_rfl) (by kernel_rfl) (by kernel_rfl) (fun _ _ _ h => h) (Or.inl ⟨by rfl, ?_⟩) (by assumption) ?_
    rotate_left
    focus (intro wS hSw; (try dsimp only at hSw); go_simp; (try with_reducible rfl))
    try simp only [Act.put, List.getElem_toArray, List.getElem_cons_zero, List.getElem_cons_succ, List.setIfInBounds_toArray, List.set_cons_zero, List.set_cons_succ]
    refine wpAnyH_take (i := 4) (oi := _) (v := ?_) rfl (by kernel_rfl) (by kernel_rfl) (by kernel_rfl) (fun _ _ _ h => h) (Or.inl ⟨by rfl, ?_⟩) (by assumption) ?_
    rotate_left
    focus (intro wS hSw; (try dsimp only at hSw); go_simp; (try with_reducible rfl))
    try simp only [Act.put, List.getElem_toArray, List.getElem_cons_zero, List.getElem_cons_succ, List.setIfInBounds_toArray, List.set_cons_zero, List.set_cons_succ]
    refine wpAnyH_take (i := 5) (oi := _) (v := ?_) rfl (by kernel_rfl) (by kernel_rfl) (by kernel_rfl) (fun _ _ _ h => h) (Or.inl ⟨by rfl, ?_⟩) (by assumption) ?_
    rotate_left
    focus (intro wS hSw; (try dsimp only at hSw); go_simp; (try with_reducible rfl))
    try simp only [Act.put, List.getElem_toArray, List.getElem_cons_zero, List.getElem_cons_succ, List.setIfInBounds_toArray, List.set_cons_zero, List.set_cons_succ]
    refine wpAnyH_take (i := 6) (oi := _) (v := ?_) rfl (by kernel_rfl) (by kernel_rfl) (by kernel_rfl) (fun _ _ _ h => h) (Or.inl ⟨by rfl, ?_⟩) (by assumption) ?_
    rotate_left
    focus (intro wS hSw; (try dsimp only at hSw); go_simp; (try with_reducible rfl))
    try simp only [Act.put, List.getElem_toArray, List.getElem_cons_zero, List.getElem_cons_succ, List.setIfInBounds_toArray, List.set_cons_zero, List.set_cons_succ]
    refine wpAnyH_take (i := 7) (oi := _) (v := ?_) rfl (by kernel_rfl) (by kernel_rfl) (by kernel_rfl) (fun _ _ _ h => h) (Or.inl ⟨by rfl, ?_⟩) (by assumption) ?_
    rotate_left
    focus (intro wS hSw; (try dsimp only at hSw); go_simp; (try with_reducible rfl))
    try simp only [Act.put, List.getElem_toArray, List.getElem_cons_zero, List.getElem_cons_succ, List.setIfInBounds_toArray, List.set_cons_zero, List.set_cons_succ]
    refine wpAnyH_take (i := 8) (oi := _) (v := ?_) rfl (by kernel_rfl) (by kernel_rfl) (by kernel_rfl) (fun _ _ _ h => h) (Or.inl ⟨by rfl, ?_⟩) (by assumption) ?_
    rotate_left
    focus (intro wS hSw; (try dsimp only at hSw); go_simp; (try with_reducible rfl))
    try simp only [Act.put, List.getElem_toArray, List.getElem_cons_zero, List.getElem_cons_succ, List.setIfInBounds_toArray, List.set_cons_zero, List.set_cons_succ]
    refine wpAnyH_take (i := 9) (oi := _) (v := ?_) rfl (by kernel_rfl) (by kernel_rfl) (by kernel_rfl) (fun _ _ _ h => h) (Or.inl ⟨by rfl, ?_⟩) (by assumption) ?_
    rotate_left
    focus (intro wS hSw; (try dsimp only at hSw); go_simp; (try with_reducible rfl))
    try simp only [Act.put, List.getElem_toArray, List.getElem_cons_zero, List.getElem_cons_succ, List.setIfInBounds_toArray, List.set_cons_zero, List.set_cons_succ]
    refine wpAnyH_take (i := 11) (oi := _) (v := ?_) rfl (by kernel_rfl) (by kernel_rfl) (by kernel_rfl) (fun _ _ _ h => h) (Or.inl ⟨by rfl, ?_⟩) (by assumption) ?_
    rotate_left
    focus (intro wS hSw; (try dsimp only at hSw); go_simp; (try with_reducible rfl))
    try simp only [Act.put, List.getElem_toArray, List.getElem_cons_zero, List.getElem_cons_succ, List.setIfInBounds_toArray, List.set_cons_zero, List.set_cons_succ]
    refine wpAnyH_take (i := 12) (oi := _) (v := ?_) rfl (by kernel_rfl) (by kernel_rfl) (by kernel_rfl) (fun _ _ _ h => h) (Or.inl ⟨by rfl, ?_⟩) (by assumption) ?_
    rotate_left
    focus (intro wS hSw; (try dsimp only at hSw); go_simp; (try with_reducible rfl))
    try simp only [Act.put, List.getElem_toArray, List.getElem_cons_zero, List.getElem_cons_succ, List.setIfInBounds_toArray, List.set_cons_zero, List.set_cons_succ]
    refine wpAnyH_take (i := 13) (oi := _) (v := ?_) rfl (by kernel_rfl) (by kernel_rfl) (by kernel_rfl) (fun _ _ _ h => h) (Or.inl ⟨by rfl, ?_⟩) (by assumption) ?_
    rotate_left
    focus (intro wS hSw; (try dsimp only at hSw); go_simp; (try with_reducible rfl))
    try simp only [Act.put, List.getElem_toArray, List.getElem_cons_zero, List.getElem_cons_succ, List.setIfInBounds_toArray, List.set_cons_zero, List.set_cons_succ]
    refine wpAnyH_take (i := 14) (oi := _) (v := ?_) rfl (by kernel_rfl) (by kernel_rfl) (by kernel_rfl) (fun _ _ _ h => h) (Or.inl ⟨by rfl, ?_⟩) (by assumption) ?_
    rotate_left
    focus (intro wS hSw; (try dsimp only at hSw); go_simp; (try with_reducible rfl))
    try simp only [Act.put, List.getElem_toArray, List.getElem_cons_zero, List.getElem_cons_succ, List.setIfInBounds_toArray, List.set_cons_zero, List.set_cons_succ]
    refine wpAnyH_ready (rs := [10, 15]) (by kernel_rfl) (by simp) (AllReadyH.cons (o := _) rfl (fun K hK => ?_) (AllReadyH.cons (o := _) rfl (fun K hK => ?_) AllReadyH.nil))
    · go_simp
      refine hK.out _ _ ?_ (fun hHeld2 => ?_)
      focus ((try dsimp only); (exact hHeld))
      clear hK K
      try simp only [Act.put, List.getElem_toArray, List.getElem_cons_zero, List.getElem_cons_succ, List.setIfInBounds_toArray, List.set_cons_zero, List.set_cons_succ]
      clear hHeld2
      refine wpAnyH_ready (rs := [15]) (by kernel_rfl) (by simp) (AllReadyH.cons (o := _) rfl (fun K hK => ?_) AllReadyH.nil)
      go_simp
      refine hK.out _ _ ?_ (fun hHeld2 => ?_)
      focus ((try dsimp only); (exact hHeld))
      clear hK K
      try simp only [Act.put, List.getElem_toArray, List.getElem_cons_zero, List.getElem_cons_succ, List.setIfInBounds_toArray, List.set_cons_zero, List.set_cons_succ]
      clear hHeld2
      refine wpAnyH_take (i := 16) (oi := _) (v := ?_) rfl (by kernel_rfl) (by kernel_rfl) (by kernel_rfl) (fun _ _ _ h => h) (Or.inl ⟨by rfl, ?_⟩) (by assumption) ?_
      rotate_left
      focus (intro wS hSw; (try dsimp only at hSw); go_simp; (try with_reducible rfl))
      try simp only [Act.put, List.getElem_toArray, List.getElem_cons_zero, List.getElem_cons_succ, List.setIfInBounds_toArray, List.set_cons_zero, List.set_cons_succ]
      refine wpAnyH_ready (rs := [17]) (by kernel_rfl) (by simp) (AllReadyH.cons (o := _) rfl (fun K hK => ?_) AllReadyH.nil)
      obtain ⟨s1, s2⟩ := H10.out.get 1 rfl (j := i) (by first | (rw [HNN.out]; exact hi) | (rw [List.length_set, HNN.out]; exact hi))
      have K201 := hid (H10.out.store 1 rfl i zj)
      go_simp
      refine hK.out _ _ ?_ (fun hHeld2 => ?_)
      focus ((try dsimp only); (exact K201.out.cell 0 rfl 3 rfl))
      clear hK K
      try simp only [Act.put, List.getElem_toArray, List.getElem_cons_zero, List.getElem_cons_succ, List.setIfInBounds_toArray, List.set_cons_zero, List.set_cons_succ]
      clear s1 s2
      clear hHeld
      have hHeld := hHeld2
      clear hHeld2
      generalize World.setCell v5 _ _ = k201 at *
      refine wpAnyH_take (i := 18) (oi := _) (v := ?_) rfl (by kernel_rfl) (by kernel_rfl) (by kernel_rfl) (fun _ _ _ h => h) (Or.inl ⟨by rfl, ?_⟩) (by assumption) ?_
      rotate_left
      focus (intro wS hSw; (try dsimp only at hSw); go_simp; (try with_reducible rfl))
      try simp only [Act.put, List.getElem_toArray, List.getElem_cons_zero, List.getElem_cons_succ, List.setIfInBounds_toArray, List.set_cons_zero, List.set_cons_succ]
      refine wpAnyH_ready (rs := [19]) (by kernel_rfl) (by simp) (AllReadyH.cons (o := _) rfl (fun K hK => ?_) AllReadyH.nil)
      obtain ⟨s1, s2⟩ := K201.out.get 1 rfl (j := j) (by first | (rw [HNN.out]; exact hj) | (rw [List.length_set, HNN.out]; exact hj))
      have K202 := hid (K201.out.store 1 rfl j zi)
      go_simp
      refine hK.out _ _ ?_ (fun hHeld2 => ?_)
      focus ((try dsimp only); (exact K202.out.cell 0 rfl 3 rfl))
      clear hK K
      try simp only [Act.put, List.getElem_toArray, List.getElem_cons_zero, List.getElem_cons_succ, List.setIfInBounds_toArray, List.set_cons_zero, List.set_cons_succ]
      clear s1 s2
      clear hHeld
      have hHeld := hHeld2
      clear hHeld2
      generalize World.setCell k201 _ _ = k202 at *
      refine wpAnyH_done (by kernel_rfl) ?_ _
      clear hHeld
      have HQ := hid (show St B W [.cells D2 #[.int .i64 pw, .int .i64 ph, .int .i64 pm, .slice (some ⟨qg, 0, none⟩) N qc] 26, .own (.slice (some ⟨qg, 0, none⟩) N qc) (swp ps i j), .cells D1 #[.int .i64 pw, .int .i64 ph, .int .i64 pm, .slice pa N pc] 26, .own (.slice pa N pc) ps, .tape B] [] _ from by unfold swp; rw [HI.out, HJ.out]; exact K202.out)
      clear K202
      go_wp2_with fail
      go_meet
      exact ⟨rfl, HQ.out⟩
    · go_simp
      refine hK.out _ _ ?_ (fun hHeld2 => ?_)
      focus ((try dsimp only); (exact hHeld))
      clear hK K
      try simp only [Act.put, List.getElem_toArray, List.getElem_cons_zero, List.getElem_cons_succ, List.setIfInBounds_toArray, List.set_cons_zero, List.set_cons_succ]
      clear hHeld2
      refine wpAnyH_ready (rs := [10]) (by kernel_rfl) (by simp) (AllReadyH.cons (o := _) rfl (fun K hK => ?_) AllReadyH.nil)
      go_simp
      refine hK.out _ _ ?_ (fun hHeld2 => ?_)
      focus ((try dsimp only); (exact hHeld))
      clear hK K
      try simp only [Act.put, List.getElem_toArray, List.getElem_cons_zero, List.getElem_cons_succ, List.setIfInBounds_toArray, List.set_cons_zero, List.set_cons_succ]
      clear hHeld2
      refine wpAnyH_take (i := 16) (oi := _) (v := ?_) rfl (by kernel_rfl) (by kernel_rfl) (by kernel_rfl) (fun _ _ _ h => h) (Or.inl ⟨by rfl, ?_⟩) (by assumption) ?_
      rotate_left
      focus (intro wS hSw; (try dsimp only at hSw); go_simp; (try with_reducible rfl))
      try simp only [Act.put, List.getElem_toArray, List.getElem_cons_zero, List.getElem_cons_succ, List.setIfInBounds_toArray, List.set_cons_zero, List.set_cons_succ]
      refine wpAnyH_ready (rs := [17]) (by kernel_rfl) (by simp) (AllReadyH.cons (o := _) rfl (fun K hK => ?_) AllReadyH.nil)
      obtain ⟨s1, s2⟩ := H10.out.get 1 rfl (j := i) (by first | (rw [HNN.out]; exact hi) | (rw [List.length_set, HNN.out]; exact hi))
      have K201 := hid (H10.out.store 1 rfl i zj)
      go_simp
      refine hK.out _ _ ?_ (fun hHeld2 => ?_)
      focus ((try dsimp only); (exact K201.out.cell 0 rfl 3 rfl))
      clear hK K
      try simp only [Act.put, List.getElem_toArray, List.getElem_cons_zero, List.getElem_cons_succ, List.setIfInBounds_toArray, List.set_cons_zero, List.set_cons_succ]
      clear s1 s2
      clear hHeld
      have hHeld := hHeld2
      clear hHeld2
      generalize World.setCell v5 _ _ = k201 at *
      refine wpAnyH_take (i := 18) (oi := _) (v := ?_) rfl (by kernel_rfl) (by kernel_rfl) (by kernel_rfl) (fun _ _ _ h => h) (Or.inl ⟨by rfl, ?_⟩) (by assumption) ?_
      rotate_left
      focus (intro wS hSw; (try dsimp only at hSw); go_simp; (try with_reducible rfl))
      try simp only [Act.put, List.getElem_toArray, List.getElem_cons_zero, List.getElem_cons_succ, List.setIfInBounds_toArray, List.set_cons_zero, List.set_cons_succ]
      refine wpAnyH_ready (rs := [19]) (by kernel_rfl) (by simp) (AllReadyH.cons (o := _) rfl (fun K hK => ?_) AllReadyH.nil)
      obtain ⟨s1, s2⟩ := K201.out.get 1 rfl (j := j) (by first | (rw [HNN.out]; exact hj) | (rw [List.length_set, HNN.out]; exact hj))
      have K202 := hid (K201.out.store 1 rfl j zi)
      go_simp
      refine hK.out _ _ ?_ (fun hHeld2 => ?_)
      focus ((try dsimp only); (exact K202.out.cell 0 rfl 3 rfl))
      clear hK K
      try simp only [Act.put, List.getElem_toArray, List.getElem_cons_zero, List.getElem_cons_succ, List.setIfInBounds_toArray, List.set_cons_zero, List.set_cons_succ]
      clear s1 s2
      clear hHeld
      have hHeld := hHeld2
      clear hHeld2
      generalize World.setCell k201 _ _ = k202 at *
      refine wpAnyH_done (by kernel_rfl) ?_ _
      clear hHeld
      have HQ := hid (show St B W [.cells D2 #[.int .i64 pw, .int .i64 ph, .int .i64 pm, .slice (some ⟨qg, 0, none⟩) N qc] 26, .own (.slice (some ⟨qg, 0, none⟩) N qc) (swp ps i j), .cells D1 #[.int .i64 pw, .int .i64 ph, .int .i64 pm, .slice pa N pc] 26, .own (.slice pa N pc) ps, .tape B] [] _ from by unfold swp; rw [HI.out, HJ.out]; exact K202.out)
      clear K202
      go_wp2_with fail
      go_meet
      exact ⟨rfl, HQ.out⟩
  case rest =>
    obtain ⟨rfl, hst⟩ := hcut
    have HS := hid hst
    clear hst
    have HV2 := hid (swp_valid HV.out (i := i) (j := j) (by rw [HNN.out]; exact hi) (by rw [HNN.out]; exact hj))
    have HL2 := hid (show (swp ps i j).length = N by rw [swp_len]; exact HNN.out)
    obtain ⟨nb, hnb⟩ : ∃ nb : Nat, 1 + x = nb := ⟨(1 + x).toNat, by omega⟩
    have HNB := hid hnb
    have nb1 : 1 ≤ nb := by omega
    clear hnb
    have HSW := hid (swp_list HV.out (bins := 1 + x) (by omega) (by omega) (i := i) (j := j) (by rw [HNN.out]; exact hi) (by rw [HNN.out]; exact hj))
    have HW1 := hid (whole_counts HV.out (bins := 1 + x) (by omega) (by omega))
    have HOLD := hid (pix_in HV2.out (i := i) (by rw [HL2.out]; exact hi))
    obtain ⟨qs, hqs⟩ : ∃ qs, swp ps i j = qs := ⟨_, rfl⟩
    rw [hqs] at HS HV2 HL2 HSW HOLD
    clear hqs
    have z0_0 := HS.out.cell 0 rfl 0 rfl
    have z0_1 := HS.out.cell 0 rfl 1 rfl
    have z0_2 := HS.out.cell 0 rfl 2 rfl
    have z0_3 := HS.out.cell 0 rfl 3 rfl
    have z2_0 := HS.out.cell 2 rfl 0 rfl
    have z2_1 := HS.out.cell 2 rfl 1 rfl
    have z2_2 := HS.out.cell 2 rfl 2 rfl
    have z2_3 := HS.out.cell 2 rfl 3 rfl
    go_wp2_with fail
    refine (whole_any pw ph pm _ _ _ ps (1 + x) _ (HS.out.slc 3 rfl)).mono ?_
    rintro e v7 ⟨va, rfl, ho, hb⟩
    rw [show wCode pw ph pm ps (1 + x) = 0 from HW1.out.1]
    simp only [show ∀ y, wIf pw ph pm ps (1 + x) y = y from fun y => by unfold wIf; rw [if_pos (show wCode pw ph pm ps (1 + x) = 0 from HW1.out.1)]]
    have H10 := hid (HS.out.grow hb ho)
    clear z0_0 z0_1 z0_2 z0_3 z2_0 z2_1 z2_2 z2_3
    obtain ⟨li, hli⟩ : ∃ li, hList pw ph pm ps (1 + x) 0 0 pw ph = li := ⟨_, rfl⟩
    rw [hli] at H10 ho HSW HW1
    have hlen : li.length = nb := by have := HW1.out.2.1; have := HNB.out; omega
    obtain ⟨ga, ca, rfl⟩ := ho.pos (by omega)
    rw [hlen] at H10 ⊢
    have HLI := hid hli
    have HLEN := hid hlen
    clear ho hb hli hlen
    obtain ⟨D3, hD3⟩ : ∃ D, v7.heap.size = D := ⟨_, rfl⟩
    have H11 := hid (H10.out.alloc #[.int .i64 (1 + x), .int .i64 1, .int .i64 (pw * ph), .slice (some ⟨ga, 0, none⟩) nb ca] 26 hD3)
    have z2_0 := H11.out.cell 2 rfl 0 rfl
    have z2_1 := H11.out.cell 2 rfl 1 rfl
    have z2_2 := H11.out.cell 2 rfl 2 rfl
    have z2_3 := H11.out.cell 2 rfl 3 rfl
    have z4_0 := H11.out.cell 4 rfl 0 rfl
    have z4_1 := H11.out.cell 4 rfl 1 rfl
    have z4_2 := H11.out.cell 4 rfl 2 rfl
    have z4_3 := H11.out.cell 4 rfl 3 rfl
    go_wp2_with fail
    clear z2_0 z2_1 z2_2 z2_3 z4_0 z4_1 z4_2 z4_3
    clear hD3
    refine (whole_any pw ph pm _ _ _ qs (1 + x) _ (H11.out.slc 3 rfl)).mono ?_
    rintro e v8 ⟨vb, rfl, ho, hb⟩
    rw [show wCode pw ph pm qs (1 + x) = 0 from (whole_counts HV2.out (by omega) (by omega)).1]
    simp only [show ∀ y, wIf pw ph pm qs (1 + x) y = y from fun y => by unfold wIf; rw [if_pos (show wCode pw ph pm qs (1 + x) = 0 from (whole_counts HV2.out (by omega) (by omega)).1)]]
    rw [HSW.out] at ho
    have H12 := hid (H11.out.grow hb ho)
    obtain ⟨gb, cb, rfl⟩ := ho.pos (by have := HLEN.out; omega)
    rw [HLEN.out] at H12 ⊢
    clear ho hb
    obtain ⟨D4, hD4⟩ : ∃ D, v8.heap.size = D := ⟨_, rfl⟩
    go_upto_region 8 with fail
    have H13 := hid (H12.out.alloc #[.int .i64 (1 + x), .int .i64 1, .int .i64 (pw * ph), .slice (some ⟨gb, 0, none⟩) nb cb] 26 hD4)
    clear hD4
    generalize World.alloc v8 _ = v9 at *
    have z4_0 := H13.out.cell 4 rfl 0 rfl
    have z4_1 := H13.out.cell 4 rfl 1 rfl
    have z4_2 := H13.out.cell 4 rfl 2 rfl
    have z4_3 := H13.out.cell 4 rfl 3 rfl
    obtain ⟨s1, s2⟩ := H13.out.get 5 rfl (j := i) (by rw [HL2.out]; exact hi)
    obtain ⟨old, hold⟩ : ∃ z, qs.getD i 0 = z := ⟨_, rfl⟩
    rw [hold] at s1 HOLD
    have HO := hid hold
    clear hold
    go_wp2_with fail
    clear z4_0 z4_1 z4_2 z4_3
    refine wp_region_still_tail 8 (by kernel_rfl) (by kernel_rfl) ?_
    change wpStill _ _ (v9.drewN 1) (fun a' => wpList _ _ _ _ a' (v9.drewN 1)) _ _
    clear s1 s2
    have H15 := hid (H13.out.drewN 1)
    generalize v9.drewN 1 = v10 at *
    have z4_0 := H15.out.cell 4 rfl 0 rfl
    have z4_1 := H15.out.cell 4 rfl 1 rfl
    have z4_2 := H15.out.cell 4 rfl 2 rfl
    have z4_3 := H15.out.cell 4 rfl 3 rfl
    obtain ⟨s1, s2⟩ := H15.out.get 5 rfl (j := i) (by rw [HL2.out]; exact hi)
    rw [HO.out] at s1
    have q1 : IntKind.i64.wrap (pm + 1) = pm + 1 := IntWalk.i64_in _ (by omega)
    obtain ⟨zz1, zz2⟩ : 0 ≤ v % (pm + 1) ∧ v % (pm + 1) < pm + 1 := ⟨Int.emod_nonneg _ (by omega), Int.emod_lt_of_pos _ (by omega)⟩
    simp only [List.take_succ_cons, List.take_zero, List.drop_succ_cons, List.drop_zero]
    iterate 7 still_step
    still_call ((mod_any _ _ _ (by omega) (by omega)).mono fun _ _ h => ⟨h.1, h.2.symm⟩)
    refine wpStill_nil ?_
    generalize v % (pm + 1) = z at *
    have zz3 : z ≤ pm := by omega
    go_upto_region 10 with fail
    have H17 := hid (H15.out.store 5 rfl i z)
    clear s1 s2
    clear z4_0 z4_1 z4_2 z4_3
    generalize World.setCell v10 _ _ = v11 at *
    have HV3 := hid (pValid_set HV2.out i zz1 zz3)
    have HW3 := hid (whole_counts HV3.out (bins := 1 + x) (by omega) (by omega))
    have HW2 := hid (whole_counts HV2.out (bins := 1 + x) (by omega) (by omega))
    have HD := hid (fun m hm => set_list HV2.out (bins := 1 + x) (by omega) (by omega) (i := i) (by rw [HL2.out]; exact hi) zz1 zz3 (m := m) hm)
    rw [HO.out, HSW.out] at HD
    rw [HSW.out] at HW2
    have z4_0 := H17.out.cell 4 rfl 0 rfl
    have z4_1 := H17.out.cell 4 rfl 1 rfl
    have z4_2 := H17.out.cell 4 rfl 2 rfl
    have z4_3 := H17.out.cell 4 rfl 3 rfl
    go_wp2_with fail
    clear z4_0 z4_1 z4_2 z4_3
    refine (whole_any pw ph pm _ _ _ (qs.set i z) (1 + x) _ (H17.out.slc 5 rfl)).mono ?_
    rintro e v12 ⟨vc, rfl, ho, hb⟩
    rw [show wCode pw ph pm (qs.set i z) (1 + x) = 0 from HW3.out.1]
    simp only [show ∀ y, wIf pw ph pm (qs.set i z) (1 + x) y = y from fun y => by unfold wIf; rw [if_pos (show wCode pw ph pm (qs.set i z) (1 + x) = 0 from HW3.out.1)]]
    have H19 := hid (H17.out.grow hb ho)
    obtain ⟨lc, hlc⟩ : ∃ l, hList pw ph pm (qs.set i z) (1 + x) 0 0 pw ph = l := ⟨_, rfl⟩
    rw [hlc] at H19 ho HW3 HD
    have hlen : lc.length = nb := by have := HW3.out.2.1; have := HNB.out; omega
    obtain ⟨gc, cc, rfl⟩ := ho.pos (by omega)
    rw [hlen] at H19 ⊢
    have HLC := hid hlen
    clear ho hb hlc hlen
    obtain ⟨D5, hD5⟩ : ∃ D, v12.heap.size = D := ⟨_, rfl⟩
    have H20 := hid (H19.out.alloc #[.int .i64 (1 + x), .int .i64 1, .int .i64 (pw * ph), .slice (some ⟨gc, 0, none⟩) nb cc] 26 hD5)
    have e1 : ((nb : Int) != 1 + x) = false := by have := HNB.out; simp; omega
    have e2 : ((nb : Int) == 1 + x) = true := by have := HNB.out; simp; omega
    have z2_0 := H20.out.cell 2 rfl 0 rfl
    have z2_1 := H20.out.cell 2 rfl 1 rfl
    have z2_2 := H20.out.cell 2 rfl 2 rfl
    have z2_3 := H20.out.cell 2 rfl 3 rfl
    have z4_0 := H20.out.cell 4 rfl 0 rfl
    have z4_1 := H20.out.cell 4 rfl 1 rfl
    have z4_2 := H20.out.cell 4 rfl 2 rfl
    have z4_3 := H20.out.cell 4 rfl 3 rfl
    go_wp2_with fail
    clear z2_0 z2_1 z2_2 z2_3 z4_0 z4_1 z4_2 z4_3
    clear hD5
    refine (qequal_any (1 + x) 1 (pw * ph) _ _ _ li (1 + x) 1 (pw * ph) _ _ _ li _ (H20.out.slc 5 rfl) (H20.out.slc 3 rfl)).mono ?_
    rintro e v13 ⟨rfl, hb⟩
    rw [show pEq (1 + x) 1 (pw * ph) li (1 + x) 1 (pw * ph) li = true from by simp [pEq]]
    have H21 := hid (H20.out.call hb)
    clear hb
    go_wp2_with fail
    clear e1 e2 H0 H1 H2
    go_loopw [18] (fun i' wr => ∃ m : Nat, m ≤ nb ∧ i' = .int .i64 m ∧ St B W [.cells D5 #[.int .i64 (1 + x), .int .i64 1, .int .i64 (pw * ph), .slice (some ⟨gc, 0, none⟩) nb cc] 26, .own (.slice (some ⟨gc, 0, none⟩) nb cc) lc, .cells D4 #[.int .i64 (1 + x), .int .i64 1, .int .i64 (pw * ph), .slice (some ⟨gb, 0, none⟩) nb cb] 26, .own (.slice (some ⟨gb, 0, none⟩) nb cb) li, .cells D3 #[.int .i64 (1 + x), .int .i64 1, .int .i64 (pw * ph), .slice (some ⟨ga, 0, none⟩) nb ca] 26, .own (.slice (some ⟨ga, 0, none⟩) nb ca) li, .cells D2 #[.int .i64 pw, .int .i64 ph, .int .i64 pm, .slice (some ⟨qg, 0, none⟩) N qc] 26, .own (.slice (some ⟨qg, 0, none⟩) N qc) (qs.set i z), .cells D1 #[.int .i64 pw, .int .i64 ph, .int .i64 pm, .slice pa N pc] 26, .own (.slice pa N pc) ps, .tape B] [] wr) (fun i' _ => nb - (intOf i').toNat)
    case atStart => exact ⟨0, by omega, rfl, H21.out⟩
    case round =>
      obtain ⟨m, hm, rfl, hst⟩ := hrel
      obtain ⟨u1, rfl⟩ : ∃ u1 : World, u1 = wr := ⟨_, rfl⟩
      have HC := hid hst
      clear hst
      by_cases hmn : m < nb
      · have hm1 : (m : Int) < 1 + x := by have := HNB.out; omega
        have hm2 : (m : Int) < nb := by omega
        have z0_0 := HC.out.cell 0 rfl 0 rfl
        have z0_1 := HC.out.cell 0 rfl 1 rfl
        have z0_2 := HC.out.cell 0 rfl 2 rfl
        have z0_3 := HC.out.cell 0 rfl 3 rfl
        have z2_0 := HC.out.cell 2 rfl 0 rfl
        have z2_1 := HC.out.cell 2 rfl 1 rfl
        have z2_2 := HC.out.cell 2 rfl 2 rfl
        have z2_3 := HC.out.cell 2 rfl 3 rfl
        have z6_0 := HC.out.cell 6 rfl 0 rfl
        have z6_1 := HC.out.cell 6 rfl 1 rfl
        have z6_2 := HC.out.cell 6 rfl 2 rfl
        have z6_3 := HC.out.cell 6 rfl 3 rfl
        obtain ⟨s1, _⟩ := HC.out.get 7 rfl (j := i) (by rw [List.length_set, HL2.out]; exact hi)
        rw [show (qs.set i z).getD i 0 = z from by rw [List.getD_eq_getElem?_getD, List.getElem?_set_self (by rw [HL2.out]; exact hi)]; rfl] at s1
        obtain ⟨t1, _⟩ := HC.out.get 1 rfl (j := m) (by rw [HLC.out]; exact hmn)
        obtain ⟨y1, _⟩ := HC.out.get 3 rfl (j := m) (by rw [HLEN.out]; exact hmn)
        have hd := HD.out m (by have := HNB.out; omega)
        have hc1 : 0 ≤ lc.getD m 0 ∧ lc.getD m 0 ≤ 30 := by rw [HW3.out.2.2 m (by have := HNB.out; omega)]; have := List.countP_le_length (p := fun y => decide ((hBin y pm (1 + x)).toNat = m)) (l := qs.set i z); rw [List.length_set, HL2.out] at this; unfold nBin; omega
        have hc2 : 0 ≤ li.getD m 0 ∧ li.getD m 0 ≤ 30 := by rw [HW2.out.2.2 m (by have := HNB.out; omega)]; have := List.countP_le_length (p := fun y => decide ((hBin y pm (1 + x)).toNat = m)) (l := qs); rw [HL2.out] at this; unfold nBin; omega
        generalize lc.getD m 0 = cm at *
        generalize li.getD m 0 = bv at *
        obtain ⟨c1a, c1b⟩ := hc1
        obtain ⟨c2a, c2b⟩ := hc2
        have q2 : IntKind.i64.wrap (cm - bv) = cm - bv := IntWalk.i64_in _ (by omega)
        by_cases h1 : hBin old pm (1 + x) = m
        · have b1 : (hBin old pm (1 + x) == (m : Int)) = true := by simpa using h1
          by_cases h2 : hBin z pm (1 + x) = m
          · have b2 : (hBin z pm (1 + x) == (m : Int)) = true := by simpa using h2
            rw [if_pos h2, if_pos h1] at hd
            have hd' : cm - bv = 0 := by omega
            have b3 : (cm - bv != 0) = false := by simpa using hd'
            have b4 : (cm - bv == 0) = true := by simpa using hd'
            clear h1 h2 hd hd'
            go_wp2_with (first | (go_at_call 25; refine (bin_any _ _ _ _).mono ?_; rintro e w' ⟨rfl, rfl⟩))
            go_quiet ((go_at_call 25; exact Calls.quiet_of_same (bin_any _ _ _ _)))
            go_wp2_with fail
            go_quiet (fail)
            go_wp2_with fail
            go_roundw
            case rel => exact ⟨m + 1, by omega, by go_num, by first | exact (HC.out.drewN _) | exact ((HC.out.drewN _).drewN _)⟩
            case measure => simp [intOf]; omega
          · have b2 : (hBin z pm (1 + x) == (m : Int)) = false := by simpa using h2
            rw [if_neg h2, if_pos h1] at hd
            have hd' : cm - bv = -1 := by omega
            have b3 : (cm - bv != -1) = false := by simpa using hd'
            have b4 : (cm - bv == -1) = true := by simpa using hd'
            clear h1 h2 hd hd'
            go_wp2_with (first | (go_at_call 25; refine (bin_any _ _ _ _).mono ?_; rintro e w' ⟨rfl, rfl⟩))
            go_quiet ((go_at_call 25; exact Calls.quiet_of_same (bin_any _ _ _ _)))
            go_wp2_with fail
            go_quiet (fail)
            go_wp2_with fail
            go_roundw
            case rel => exact ⟨m + 1, by omega, by go_num, by first | exact (HC.out.drewN _) | exact ((HC.out.drewN _).drewN _)⟩
            case measure => simp [intOf]; omega
        · have b1 : (hBin old pm (1 + x) == (m : Int)) = false := by simpa using h1
          by_cases h2 : hBin z pm (1 + x) = m
          · have b2 : (hBin z pm (1 + x) == (m : Int)) = true := by simpa using h2
            rw [if_pos h2, if_neg h1] at hd
            have hd' : cm - bv = 1 := by omega
            have b3 : (cm - bv != 1) = false := by simpa using hd'
            have b4 : (cm - bv == 1) = true := by simpa using hd'
            clear h1 h2 hd hd'
            go_wp2_with (first | (go_at_call 25; refine (bin_any _ _ _ _).mono ?_; rintro e w' ⟨rfl, rfl⟩))
            go_quiet ((go_at_call 25; exact Calls.quiet_of_same (bin_any _ _ _ _)))
            go_wp2_with fail
            go_quiet (fail)
            go_wp2_with fail
            go_roundw
            case rel => exact ⟨m + 1, by omega, by go_num, by first | exact (HC.out.drewN _) | exact ((HC.out.drewN _).drewN _)⟩
            case measure => simp [intOf]; omega
          · have b2 : (hBin z pm (1 + x) == (m : Int)) = false := by simpa using h2
            rw [if_neg h2, if_neg h1] at hd
            have hd' : cm - bv = 0 := by omega
            have b3 : (cm - bv != 0) = false := by simpa using hd'
            have b4 : (cm - bv == 0) = true := by simpa using hd'
            clear h1 h2 hd hd'
            go_wp2_with (first | (go_at_call 25; refine (bin_any _ _ _ _).mono ?_; rintro e w' ⟨rfl, rfl⟩))
            go_quiet ((go_at_call 25; exact Calls.quiet_of_same (bin_any _ _ _ _)))
            go_wp2_with fail
            go_quiet (fail)
            go_wp2_with fail
            go_roundw
            case rel => exact ⟨m + 1, by omega, by go_num, by first | exact (HC.out.drewN _) | exact ((HC.out.drewN _).drewN _)⟩
            case measure => simp [intOf]; omega
      · have hm2 : ¬ ((m : Int) < 1 + x) := by have := HNB.out; omega
        go_wp2_with (first | (go_at_call 26; refine (sane12 _).mono ?_; rintro e w' ⟨rfl, hbs⟩))
        go_ret
        exact ⟨rfl, (HC.out.call hbs).below⟩
end Go.Proofs.Ytoojiabdgaflgaa
