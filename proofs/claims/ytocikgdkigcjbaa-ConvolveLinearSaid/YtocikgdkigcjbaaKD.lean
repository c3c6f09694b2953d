/-
  Contract of the tape's SpoilPlane: some plane in new memory; the tape alone has changed. Contract: the copy of a plane.
-/
import Derived.Test.YtocikgdkigcjbaaKC
import Derived.Test.YtocikgdkigcjbaaKA
namespace Go.Proofs.Ytocikgdkigcjbaa
section
open Go.RowKit
attribute [local go_sem ↓] Go.wp_at_zero Go.wp_at_succ
set_option linter.unusedVariables false
set_option linter.unusedSimpArgs false

def SpoilPost (B0 k : Nat) (W : World) (e : Ending) (w' : World) : Prop :=
  ∃ w h mx v zs, e = .returned (.agg #[.int .i64 w, .int .i64 h, .int .i64 mx, v]) ∧ Own W.heap.size w' v zs ∧ TapeB B0 w' k ∧ W.grownBy w' (some k)

set_option maxRecDepth 100000 in
set_option maxHeartbeats 6400000 in
theorem spoil_any (B0 k : Nat) (w h mx : Int) (a : Option Addr) (n c : Nat) (zs : List Int) (W : World) (hs : Slc W a n c zs) (hf : Far a n k) (hv : pValid w h mx zs = true) (ht : TapeB B0 W k) :
    Calls Try.prog 19 #[.pointer (some ⟨k, 0, none⟩), .agg #[.int .i64 w, .int .i64 h, .int .i64 mx, .slice a n c]] W (SpoilPost B0 k W) := by
  obtain ⟨B, hB⟩ : ∃ B, W.heap.size = B := ⟨_, rfl⟩
  obtain ⟨p1, p2, p3, p4, p5, p6, p7⟩ := pOk_iff.1 (pValid_iff.1 hv).1
  have hp := Int.mul_le_mul (a := 1) (c := w) (b := 1) (d := h) (by omega) (by omega) (by omega) (by omega)
  have hlen := hs.len
  have hl2 := (pValid_iff.1 hv).2.1
  have hn1 : 1 ≤ n := by omega
  have hn2 : n ≤ 4096 := by omega
  obtain ⟨b, o, rfl⟩ := row_at hs.row (by omega)
  have HL := hid hlen
  have HS := hid hs
  have HF := hid hf
  clear hp hl2 hs hf hv hlen
  have H0 := hid (((Tk.init ht hB).alloc #[.int .i64 w, .int .i64 h, .int .i64 mx, .slice (some ⟨b, o, none⟩) n c] 35 hB).alloc #[.int .i64 0, .int .i64 0, .int .i64 0, .slice none 0 0] 35 (alloc_size _ hB))
  have H1 := hid ((H0.out.alloc #[] 3 (alloc_size _ (alloc_size _ hB))).litOwn 0 [] rfl (by decide))
  clear H0 ht
  have HS1 := hid (H1.out.old HS.out HF.out)
  clear HS
  go_enter Try.func19, Try.ntmps19
  go_wp2_with (first | (at_builtin; refine append_row rfl _ _ rfl B _ [] b o n c zs rfl rfl (H1.out.own 0 rfl) HS1.out.row (by simp; omega) (by simp; omega) ?_; intro v2 w2 ho hg hv; have H2 := hid (H1.out.append 0 rfl ho hg hv); clear hg hv; rw [List.nil_append] at H2 ho; obtain ⟨g, c2, rfl⟩ := ho.pos (by have := HL.out; omega); rw [HL.out] at H2 ⊢; clear ho; have z3 := H2.out.cell 2 rfl 3 rfl; have z4 := H2.out.free 2 rfl 3))
  have H3 := hid (H2.out.set 2 rfl 3 (.slice (some ⟨g, 0, none⟩) n c2))
  clear H2 z3 z4 H1 HS1
  have H3 := hid (show Tk B0 k B W [.own (.slice (some ⟨g, 0, none⟩) n c2) zs, .cells (B + 1) #[.int .i64 0, .int .i64 0, .int .i64 0, .slice none 0 0] 35, .cells B #[.int .i64 w, .int .i64 h, .int .i64 mx, .slice (some ⟨g, 0, none⟩) n c2] 35] _ from H3.out)
  generalize World.setCell w2 _ _ = w3 at *
  refine (nextB_any B0 k _ _ (by omega) H3.out.tape).mono ?_
  rintro e w4 ⟨x, rfl, g1, g2, htn, hgn, hsn⟩
  have H4 := hid (H3.out.next htn hgn)
  clear H3 htn hgn hsn
  have x0 := H4.out.cell 2 rfl 0 rfl
  have x1 := H4.out.cell 2 rfl 1 rfl
  have x2 := H4.out.cell 2 rfl 2 rfl
  have x3 := H4.out.cell 2 rfl 3 rfl
  have f0 := H4.out.free 2 rfl 0
  have f1 := H4.out.free 2 rfl 1
  have f2 := H4.out.free 2 rfl 2
  have f3 := H4.out.free 2 rfl 3
  obtain ⟨D, hD⟩ : ∃ D, w4.heap.size = D := ⟨_, rfl⟩
  by_cases hx : x = 0
  · subst hx
    have H5 := hid (H4.out.alloc #[.int .i64 (0), .int .i64 (w + 1), .int .i64 (-1), .int .i64 (129)] 3 hD)
    go_wp2_with fail
    refine (pickB_any B0 k _ 4 4 [0, w + 1, -1, 129] _ (by omega) (by omega) H5.out.tape (H5.out.lit 0 [0, w + 1, -1, 129] rfl (by simp)).row (H5.out.far 0 rfl _)).mono ?_
    rintro e w6 ⟨r, rfl, hr, htn, hgn, hsn⟩
    have H6 := hid (H5.out.next htn hgn)
    clear hr htn hgn hsn
    clear x0 x1 x2 x3 f0 f1 f2 f3
    have c0 := H6.out.cell 3 rfl 0 rfl
    have d0 := H6.out.free 3 rfl 0
    have H7 := hid (H6.out.set 3 rfl 0 (.int .i64 r))
    have r0 := H7.out.cell 3 rfl 0 rfl
    have r1 := H7.out.cell 3 rfl 1 rfl
    have r2 := H7.out.cell 3 rfl 2 rfl
    have r3 := H7.out.cell 3 rfl 3 rfl
    have y0 := H7.out.cell 2 rfl 0 rfl
    have y1 := H7.out.cell 2 rfl 1 rfl
    have y2 := H7.out.cell 2 rfl 2 rfl
    have y3 := H7.out.cell 2 rfl 3 rfl
    have e0 := H7.out.free 2 rfl 0
    have e1 := H7.out.free 2 rfl 1
    have e2 := H7.out.free 2 rfl 2
    have e3 := H7.out.free 2 rfl 3
    go_wp2_with fail
    have HZ := hid (H7.out.set4 2 rfl (.int .i64 r) (.int .i64 h) (.int .i64 mx) (.slice (some ⟨g, 0, none⟩) n c2))
    have k0 := HZ.out.cell 2 rfl 0 rfl
    have k1 := HZ.out.cell 2 rfl 1 rfl
    have k2 := HZ.out.cell 2 rfl 2 rfl
    have k3 := HZ.out.cell 2 rfl 3 rfl
    refine bodyPost_ret (v := .agg #[.int .i64 r, .int .i64 h, .int .i64 mx, .slice (some ⟨g, 0, none⟩) n c2]) ?_ rfl ⟨_, _, _, _, _, rfl, by rw [hB]; exact HZ.out.own 1 rfl, HZ.out.tape, HZ.out.grown⟩
    unfold set4 at k0 k1 k2 k3
    simp [results, Try.results19, go_sem, k0, k1, k2, k3]
  by_cases hx : x = 1
  · subst hx
    have H5 := hid (H4.out.alloc #[.int .i64 (0), .int .i64 (h + 1), .int .i64 (4611686018427387904)] 3 hD)
    go_wp2_with fail
    refine (pickB_any B0 k _ 3 3 [0, h + 1, 4611686018427387904] _ (by omega) (by omega) H5.out.tape (H5.out.lit 0 [0, h + 1, 4611686018427387904] rfl (by simp)).row (H5.out.far 0 rfl _)).mono ?_
    rintro e w6 ⟨r, rfl, hr, htn, hgn, hsn⟩
    have H6 := hid (H5.out.next htn hgn)
    clear hr htn hgn hsn
    clear x0 x1 x2 x3 f0 f1 f2 f3
    have c0 := H6.out.cell 3 rfl 1 rfl
    have d0 := H6.out.free 3 rfl 1
    have H7 := hid (H6.out.set 3 rfl 1 (.int .i64 r))
    have r0 := H7.out.cell 3 rfl 0 rfl
    have r1 := H7.out.cell 3 rfl 1 rfl
    have r2 := H7.out.cell 3 rfl 2 rfl
    have r3 := H7.out.cell 3 rfl 3 rfl
    have y0 := H7.out.cell 2 rfl 0 rfl
    have y1 := H7.out.cell 2 rfl 1 rfl
    have y2 := H7.out.cell 2 rfl 2 rfl
    have y3 := H7.out.cell 2 rfl 3 rfl
    have e0 := H7.out.free 2 rfl 0
    have e1 := H7.out.free 2 rfl 1
    have e2 := H7.out.free 2 rfl 2
    have e3 := H7.out.free 2 rfl 3
    go_wp2_with fail
    have HZ := hid (H7.out.set4 2 rfl (.int .i64 w) (.int .i64 r) (.int .i64 mx) (.slice (some ⟨g, 0, none⟩) n c2))
    have k0 := HZ.out.cell 2 rfl 0 rfl
    have k1 := HZ.out.cell 2 rfl 1 rfl
    have k2 := HZ.out.cell 2 rfl 2 rfl
    have k3 := HZ.out.cell 2 rfl 3 rfl
    refine bodyPost_ret (v := .agg #[.int .i64 w, .int .i64 r, .int .i64 mx, .slice (some ⟨g, 0, none⟩) n c2]) ?_ rfl ⟨_, _, _, _, _, rfl, by rw [hB]; exact HZ.out.own 1 rfl, HZ.out.tape, HZ.out.grown⟩
    unfold set4 at k0 k1 k2 k3
    simp [results, Try.results19, go_sem, k0, k1, k2, k3]
  by_cases hx : x = 2
  · subst hx
    have H5 := hid (H4.out.alloc #[.int .i64 (0), .int .i64 (4294967297), .int .i64 (-1), .int .i64 (3)] 3 hD)
    go_wp2_with fail
    refine (pickB_any B0 k _ 4 4 [0, 4294967297, -1, 3] _ (by omega) (by omega) H5.out.tape (H5.out.lit 0 [0, 4294967297, -1, 3] rfl (by simp)).row (H5.out.far 0 rfl _)).mono ?_
    rintro e w6 ⟨r, rfl, hr, htn, hgn, hsn⟩
    have H6 := hid (H5.out.next htn hgn)
    clear hr htn hgn hsn
    clear x0 x1 x2 x3 f0 f1 f2 f3
    have c0 := H6.out.cell 3 rfl 2 rfl
    have d0 := H6.out.free 3 rfl 2
    have H7 := hid (H6.out.set 3 rfl 2 (.int .i64 r))
    have r0 := H7.out.cell 3 rfl 0 rfl
    have r1 := H7.out.cell 3 rfl 1 rfl
    have r2 := H7.out.cell 3 rfl 2 rfl
    have r3 := H7.out.cell 3 rfl 3 rfl
    have y0 := H7.out.cell 2 rfl 0 rfl
    have y1 := H7.out.cell 2 rfl 1 rfl
    have y2 := H7.out.cell 2 rfl 2 rfl
    have y3 := H7.out.cell 2 rfl 3 rfl
    have e0 := H7.out.free 2 rfl 0
    have e1 := H7.out.free 2 rfl 1
    have e2 := H7.out.free 2 rfl 2
    have e3 := H7.out.free 2 rfl 3
    go_wp2_with fail
    have HZ := hid (H7.out.set4 2 rfl (.int .i64 w) (.int .i64 h) (.int .i64 r) (.slice (some ⟨g, 0, none⟩) n c2))
    have k0 := HZ.out.cell 2 rfl 0 rfl
    have k1 := HZ.out.cell 2 rfl 1 rfl
    have k2 := HZ.out.cell 2 rfl 2 rfl
    have k3 := HZ.out.cell 2 rfl 3 rfl
    refine bodyPost_ret (v := .agg #[.int .i64 w, .int .i64 h, .int .i64 r, .slice (some ⟨g, 0, none⟩) n c2]) ?_ rfl ⟨_, _, _, _, _, rfl, by rw [hB]; exact HZ.out.own 1 rfl, HZ.out.tape, HZ.out.grown⟩
    unfold set4 at k0 k1 k2 k3
    simp [results, Try.results19, go_sem, k0, k1, k2, k3]
  by_cases hx : x = 3
  · subst hx
    have H5 := hid (H4.out.alloc #[.int .i64 0] 3 hD)
    have HLE := hid (show (zs ++ [0]).length = n + 1 by simp [HL.out])
    go_wp2_with (first | (at_builtin; refine append_int rfl _ _ rfl B _ zs 0 D 1 rfl rfl (H5.out.own 1 rfl) (H5.out.cell 0 rfl 0 rfl) (by have := HL.out; omega) H5.out.size ?_; intro v6 w6 ho hg hv; have H6 := hid (H5.out.append 1 rfl ho hg hv); clear hg hv; obtain ⟨g6, c6, rfl⟩ := ho.pos (by simp); rw [HLE.out] at H6 ⊢; clear ho x0 x1 x2 x3 f0 f1 f2 f3; have r0 := H6.out.cell 3 rfl 0 rfl; have r1 := H6.out.cell 3 rfl 1 rfl; have r2 := H6.out.cell 3 rfl 2 rfl; have r3 := H6.out.cell 3 rfl 3 rfl; have y0 := H6.out.cell 2 rfl 0 rfl; have y1 := H6.out.cell 2 rfl 1 rfl; have y2 := H6.out.cell 2 rfl 2 rfl; have y3 := H6.out.cell 2 rfl 3 rfl; have e0 := H6.out.free 2 rfl 0; have e1 := H6.out.free 2 rfl 1; have e2 := H6.out.free 2 rfl 2; have e3 := H6.out.free 2 rfl 3; have z4 := H6.out.free 3 rfl 3))
    have HZ := hid ((H6.out.set 3 rfl 3 (.slice (some ⟨g6, 0, none⟩) (n + 1) c6)).set4 2 rfl (.int .i64 w) (.int .i64 h) (.int .i64 mx) (.slice (some ⟨g6, 0, none⟩) (n + 1) c6))
    have k0 := HZ.out.cell 2 rfl 0 rfl
    have k1 := HZ.out.cell 2 rfl 1 rfl
    have k2 := HZ.out.cell 2 rfl 2 rfl
    have k3 := HZ.out.cell 2 rfl 3 rfl
    refine bodyPost_ret (v := .agg #[.int .i64 w, .int .i64 h, .int .i64 mx, .slice (some ⟨g6, 0, none⟩) (n + 1) c6]) ?_ rfl ⟨_, _, _, _, _, rfl, by rw [hB]; exact HZ.out.own 1 rfl, HZ.out.tape, HZ.out.grown⟩
    unfold set4 at k0 k1 k2 k3
    simp [results, Try.results19, go_sem, k0, k1, k2, k3]
  by_cases hx : x = 4
  · subst hx
    have hn3 : (0 : Int) < n := by omega
    go_wp2_with fail
    have K1 := hid (H4.out.drew)
    refine wp_region_held_drew (S := (fun w' => w'.cell? ⟨B, 2, none⟩ = some (.int .i64 mx) ∧ w'.cell? ⟨B, 3, none⟩ = some (.slice (some ⟨g, 0, none⟩) n c2))) (by kernel_rfl) ⟨K1.out.cell 2 rfl 2 rfl, K1.out.cell 2 rfl 3 rfl⟩ (fun hHeld => ?_)
    clear x0 x1 x2 x3 f0 f1 f2 f3 hD
    generalize w4.drew = w5 at *
    have q1 : IntKind.i64.wrap (mx + 1) = mx + 1 := IntWalk.i64_in _ (by omega)
    refine wpAnyH_take (i := 0) (oi := _) (v := ?_) rfl (by kernel_rfl) (by kernel_rfl) (by kernel_rfl) (fun _ _ _ h => h) (Or.inl ⟨by rfl, ?_⟩) (by assumption) ?_
    rotate_left
    focus (intro wS hSw; (try dsimp only at hSw); go_simp; (try with_reducible rfl))
    try simp only [Act.put, List.getElem_toArray, List.getElem_cons_zero, List.getElem_cons_succ, List.setIfInBounds_toArray, List.set_cons_zero, List.set_cons_succ]
    refine wpAnyH_take (i := 1) (oi := _) (v := ?_) rfl (by kernel_rfl) (by kernel_rfl) (by kernel_rfl) (fun _ _ _ h => h) (Or.inl ⟨by rfl, ?_⟩) (by assumption) ?_
    rotate_left
    focus (intro wS hSw; (try dsimp only at hSw); go_simp; (try with_reducible rfl))
    try simp only [Act.put, List.getElem_toArray, List.getElem_cons_zero, List.getElem_cons_succ, List.setIfInBounds_toArray, List.set_cons_zero, List.set_cons_succ]
    refine wpAnyH_take (i := 2) (oi := _) (v := ?_) rfl (by kernel_rfl) (by kernel_rfl) (by kernel_rfl) (fun _ _ _ h => h) (Or.inl ⟨by rfl, ?_⟩) (by assumption) ?_
    rotate_left
    focus (intro wS hSw; (try dsimp only at hSw); go_simp; (try with_reducible rfl))
    try simp only [Act.put, List.getElem_toArray, List.getElem_cons_zero, List.getElem_cons_succ, List.setIfInBounds_toArray, List.set_cons_zero, List.set_cons_succ]
    refine wpAnyH_take (i := 3) (oi := _) (v := ?_) rfl (by kernel_rfl) (by kernel_rfl) (by kernel_rfl) (fun _ _ _ h => h) (Or.inl ⟨by rfl, ?_⟩) (by assumption) ?_
    rotate_left
    focus (intro wS hSw; (try dsimp only at hSw); go_simp; (try with_reducible rfl))
    try simp only [Act.put, List.getElem_toArray, List.getElem_cons_zero, List.getElem_cons_succ, List.setIfInBounds_toArray, List.set_cons_zero, List.set_cons_succ]
    refine wpAnyH_take (i := 4) (oi := _) (v := ?_) rfl (by kernel_rfl) (by kernel_rfl) (by kernel_rfl) (fun _ _ _ h => h) (Or.inl ⟨by rfl, ?_⟩) (by assumption) ?_
    rotate_left
    focus (intro wS hSw; (try dsimp only at hSw); go_simp; (try with_reducible rfl))
    try simp only [Act.put, List.getElem_toArray, List.getElem_cons_zero, List.getElem_cons_succ, List.setIfInBounds_toArray, List.set_cons_zero, List.set_cons_succ]
    refine wpAnyH_take (i := 5) (oi := _) (v := ?_) rfl (by kernel_rfl) (by kernel_rfl) (by kernel_rfl) (fun _ _ _ h => h) (Or.inl ⟨by rfl, ?_⟩) (by assumption) ?_
    rotate_left
    focus (intro wS hSw; (try dsimp only at hSw); go_simp; (try with_reducible rfl))
    try simp only [Act.put, List.getElem_toArray, List.getElem_cons_zero, List.getElem_cons_succ, List.setIfInBounds_toArray, List.set_cons_zero, List.set_cons_succ]
    refine wpAnyH_take (i := 7) (oi := _) (v := ?_) rfl (by kernel_rfl) (by kernel_rfl) (by kernel_rfl) (fun _ _ _ h => h) (Or.inl ⟨by rfl, ?_⟩) (by assumption) ?_
    rotate_left
    focus (intro wS hSw; (try dsimp only at hSw); go_simp; (try with_reducible rfl))
    try simp only [Act.put, List.getElem_toArray, List.getElem_cons_zero, List.getElem_cons_succ, List.setIfInBounds_toArray, List.set_cons_zero, List.set_cons_succ]
    refine wpAnyH_take (i := 8) (oi := _) (v := ?_) rfl (by kernel_rfl) (by kernel_rfl) (by kernel_rfl) (fun _ _ _ h => h) (Or.inl ⟨by rfl, ?_⟩) (by assumption) ?_
    rotate_left
    focus (intro wS hSw; (try dsimp only at hSw); go_simp; (try with_reducible rfl))
    try simp only [Act.put, List.getElem_toArray, List.getElem_cons_zero, List.getElem_cons_succ, List.setIfInBounds_toArray, List.set_cons_zero, List.set_cons_succ]
    refine wpAnyH_take (i := 9) (oi := _) (v := ?_) rfl (by kernel_rfl) (by kernel_rfl) (by kernel_rfl) (fun _ _ _ h => h) (Or.inl ⟨by rfl, ?_⟩) (by assumption) ?_
    rotate_left
    focus (intro wS hSw; (try dsimp only at hSw); go_simp; (try with_reducible rfl))
    try simp only [Act.put, List.getElem_toArray, List.getElem_cons_zero, List.getElem_cons_succ, List.setIfInBounds_toArray, List.set_cons_zero, List.set_cons_succ]
    refine wpAnyH_take (i := 10) (oi := _) (v := ?_) rfl (by kernel_rfl) (by kernel_rfl) (by kernel_rfl) (fun _ _ _ h => h) (Or.inl ⟨by rfl, ?_⟩) (by assumption) ?_
    rotate_left
    focus (intro wS hSw; (try dsimp only at hSw); go_simp; (try with_reducible rfl))
    try simp only [Act.put, List.getElem_toArray, List.getElem_cons_zero, List.getElem_cons_succ, List.setIfInBounds_toArray, List.set_cons_zero, List.set_cons_succ]
    refine wpAnyH_take (i := 11) (oi := _) (v := ?_) rfl (by kernel_rfl) (by kernel_rfl) (by kernel_rfl) (fun _ _ _ h => h) (Or.inl ⟨by rfl, ?_⟩) (by assumption) ?_
    rotate_left
    focus (intro wS hSw; (try dsimp only at hSw); go_simp; (try with_reducible rfl))
    try simp only [Act.put, List.getElem_toArray, List.getElem_cons_zero, List.getElem_cons_succ, List.setIfInBounds_toArray, List.set_cons_zero, List.set_cons_succ]
    refine wpAnyH_take (i := 12) (oi := _) (v := ?_) rfl (by kernel_rfl) (by kernel_rfl) (by kernel_rfl) (fun _ _ _ h => h) (Or.inl ⟨by rfl, ?_⟩) (by assumption) ?_
    rotate_left
    focus (intro wS hSw; (try dsimp only at hSw); go_simp; (try with_reducible rfl))
    try simp only [Act.put, List.getElem_toArray, List.getElem_cons_zero, List.getElem_cons_succ, List.setIfInBounds_toArray, List.set_cons_zero, List.set_cons_succ]
    refine wpAnyH_ready (rs := [6, 13]) (by kernel_rfl) (by simp) (AllReadyH.cons (o := _) rfl (fun K hK => ?_) (AllReadyH.cons (o := _) rfl (fun K hK => ?_) AllReadyH.nil))
    · go_simp
      go_at_call 9; refine (nextB_any B0 k _ _ (by omega) K1.out.tape).mono ?_; rintro e v2 ⟨j, rfl, ja, jb, htn, hgn, hsn⟩; have K2 := hid (K1.out.next htn hgn); have jc : j < (n : Int) := (by omega); clear htn hgn hsn jb
      refine hK.out _ _ ?_ (fun hHeld2 => ?_)
      focus ((try dsimp only); (exact ⟨K2.out.cell 2 rfl 2 rfl, K2.out.cell 2 rfl 3 rfl⟩))
      clear hK K
      try simp only [Act.put, List.getElem_toArray, List.getElem_cons_zero, List.getElem_cons_succ, List.setIfInBounds_toArray, List.set_cons_zero, List.set_cons_succ]
      clear hHeld
      have hHeld := hHeld2
      clear hHeld2
      refine wpAnyH_ready (rs := [13]) (by kernel_rfl) (by simp) (AllReadyH.cons (o := _) rfl (fun K hK => ?_) AllReadyH.nil)
      obtain ⟨L3, hL3⟩ : ∃ L, v2.heap.size = L := ⟨_, rfl⟩
      have K3 := hid (K2.out.alloc #[.int .i64 (-1), .int .i64 (mx + 1), .int .i64 mx] 3 hL3)
      go_simp
      refine hK.out _ _ ?_ (fun hHeld2 => ?_)
      focus ((try dsimp only); (exact ⟨K3.out.cell 3 rfl 2 rfl, K3.out.cell 3 rfl 3 rfl⟩))
      clear hK K
      try simp only [Act.put, List.getElem_toArray, List.getElem_cons_zero, List.getElem_cons_succ, List.setIfInBounds_toArray, List.set_cons_zero, List.set_cons_succ]
      clear hL3
      clear hHeld
      have hHeld := hHeld2
      clear hHeld2
      generalize World.alloc v2 _ = v3 at *
      refine wpAnyH_ready (rs := [14]) (by kernel_rfl) (by simp) (AllReadyH.cons (o := _) rfl (fun K hK => ?_) AllReadyH.nil)
      go_simp
      go_at_call 11; refine (pickB_any B0 k _ 3 3 [-1, mx + 1, mx] _ (by omega) (by omega) K3.out.tape (K3.out.lit 0 [-1, mx + 1, mx] rfl (by simp)).row (K3.out.far 0 rfl _)).mono ?_; rintro e v4 ⟨r, rfl, hr, htn, hgn, hsn⟩; have K4 := hid (K3.out.next htn hgn); clear hr htn hgn hsn
      refine hK.out _ _ ?_ (fun hHeld2 => ?_)
      focus ((try dsimp only); (exact ⟨K4.out.cell 3 rfl 2 rfl, K4.out.cell 3 rfl 3 rfl⟩))
      clear hK K
      try simp only [Act.put, List.getElem_toArray, List.getElem_cons_zero, List.getElem_cons_succ, List.setIfInBounds_toArray, List.set_cons_zero, List.set_cons_succ]
      clear hHeld
      have hHeld := hHeld2
      clear hHeld2
      refine wpAnyH_take (i := 15) (oi := _) (v := ?_) rfl (by kernel_rfl) (by kernel_rfl) (by kernel_rfl) (fun _ _ _ h => h) (Or.inl ⟨by rfl, ?_⟩) (by assumption) ?_
      rotate_left
      focus (intro wS hSw; (try dsimp only at hSw); go_simp; (try with_reducible rfl))
      try simp only [Act.put, List.getElem_toArray, List.getElem_cons_zero, List.getElem_cons_succ, List.setIfInBounds_toArray, List.set_cons_zero, List.set_cons_succ]
      refine wpAnyH_ready (rs := [16]) (by kernel_rfl) (by simp) (AllReadyH.cons (o := _) rfl (fun K hK => ?_) AllReadyH.nil)
      obtain ⟨s1, s2⟩ := K4.out.get 1 rfl (j := j.toNat) (by rw [HL.out]; omega)
      have K5 := hid (K4.out.store 1 rfl j.toNat r)
      go_simp
      refine hK.out _ _ ?_ (fun hHeld2 => ?_)
      focus ((try dsimp only); (exact ⟨K5.out.cell 3 rfl 2 rfl, K5.out.cell 3 rfl 3 rfl⟩))
      clear hK K
      try simp only [Act.put, List.getElem_toArray, List.getElem_cons_zero, List.getElem_cons_succ, List.setIfInBounds_toArray, List.set_cons_zero, List.set_cons_succ]
      clear s1 s2
      clear hHeld
      have hHeld := hHeld2
      clear hHeld2
      generalize World.setCell v4 _ _ = v5 at *
      refine wpAnyH_done (by kernel_rfl) ?_ _
      clear hHeld
      have r0 := K5.out.cell 3 rfl 0 rfl
      have r1 := K5.out.cell 3 rfl 1 rfl
      have r2 := K5.out.cell 3 rfl 2 rfl
      have r3 := K5.out.cell 3 rfl 3 rfl
      have y0 := K5.out.cell 2 rfl 0 rfl
      have y1 := K5.out.cell 2 rfl 1 rfl
      have y2 := K5.out.cell 2 rfl 2 rfl
      have y3 := K5.out.cell 2 rfl 3 rfl
      have e0 := K5.out.free 2 rfl 0
      have e1 := K5.out.free 2 rfl 1
      have e2 := K5.out.free 2 rfl 2
      have e3 := K5.out.free 2 rfl 3
      go_wp2_with fail
      have HZ := hid (K5.out.set4 2 rfl (.int .i64 w) (.int .i64 h) (.int .i64 mx) (.slice (some ⟨g, 0, none⟩) n c2))
      have k0 := HZ.out.cell 2 rfl 0 rfl
      have k1 := HZ.out.cell 2 rfl 1 rfl
      have k2 := HZ.out.cell 2 rfl 2 rfl
      have k3 := HZ.out.cell 2 rfl 3 rfl
      refine bodyPost_ret (v := .agg #[.int .i64 w, .int .i64 h, .int .i64 mx, .slice (some ⟨g, 0, none⟩) n c2]) ?_ rfl ⟨_, _, _, _, _, rfl, by rw [hB]; exact HZ.out.own 1 rfl, HZ.out.tape, HZ.out.grown⟩
      unfold set4 at k0 k1 k2 k3
      simp [results, Try.results19, go_sem, k0, k1, k2, k3]
    · obtain ⟨L2, hL2⟩ : ∃ L, w5.heap.size = L := ⟨_, rfl⟩
      have K2 := hid (K1.out.alloc #[.int .i64 (-1), .int .i64 (mx + 1), .int .i64 mx] 3 hL2)
      go_simp
      refine hK.out _ _ ?_ (fun hHeld2 => ?_)
      focus ((try dsimp only); (exact ⟨K2.out.cell 3 rfl 2 rfl, K2.out.cell 3 rfl 3 rfl⟩))
      clear hK K
      try simp only [Act.put, List.getElem_toArray, List.getElem_cons_zero, List.getElem_cons_succ, List.setIfInBounds_toArray, List.set_cons_zero, List.set_cons_succ]
      clear hL2
      clear hHeld
      have hHeld := hHeld2
      clear hHeld2
      generalize World.alloc w5 _ = v2 at *
      refine wpAnyH_ready (rs := [6]) (by kernel_rfl) (by simp) (AllReadyH.cons (o := _) rfl (fun K hK => ?_) AllReadyH.nil)
      go_simp
      go_at_call 9; refine (nextB_any B0 k _ _ (by omega) K2.out.tape).mono ?_; rintro e v3 ⟨j, rfl, ja, jb, htn, hgn, hsn⟩; have K3 := hid (K2.out.next htn hgn); have jc : j < (n : Int) := (by omega); clear htn hgn hsn jb
      refine hK.out _ _ ?_ (fun hHeld2 => ?_)
      focus ((try dsimp only); (exact ⟨K3.out.cell 3 rfl 2 rfl, K3.out.cell 3 rfl 3 rfl⟩))
      clear hK K
      try simp only [Act.put, List.getElem_toArray, List.getElem_cons_zero, List.getElem_cons_succ, List.setIfInBounds_toArray, List.set_cons_zero, List.set_cons_succ]
      clear hHeld
      have hHeld := hHeld2
      clear hHeld2
      refine wpAnyH_ready (rs := [14]) (by kernel_rfl) (by simp) (AllReadyH.cons (o := _) rfl (fun K hK => ?_) AllReadyH.nil)
      go_simp
      go_at_call 11; refine (pickB_any B0 k _ 3 3 [-1, mx + 1, mx] _ (by omega) (by omega) K3.out.tape (K3.out.lit 0 [-1, mx + 1, mx] rfl (by simp)).row (K3.out.far 0 rfl _)).mono ?_; rintro e v4 ⟨r, rfl, hr, htn, hgn, hsn⟩; have K4 := hid (K3.out.next htn hgn); clear hr htn hgn hsn
      refine hK.out _ _ ?_ (fun hHeld2 => ?_)
      focus ((try dsimp only); (exact ⟨K4.out.cell 3 rfl 2 rfl, K4.out.cell 3 rfl 3 rfl⟩))
      clear hK K
      try simp only [Act.put, List.getElem_toArray, List.getElem_cons_zero, List.getElem_cons_succ, List.setIfInBounds_toArray, List.set_cons_zero, List.set_cons_succ]
      clear hHeld
      have hHeld := hHeld2
      clear hHeld2
      refine wpAnyH_take (i := 15) (oi := _) (v := ?_) rfl (by kernel_rfl) (by kernel_rfl) (by kernel_rfl) (fun _ _ _ h => h) (Or.inl ⟨by rfl, ?_⟩) (by assumption) ?_
      rotate_left
      focus (intro wS hSw; (try dsimp only at hSw); go_simp; (try with_reducible rfl))
      try simp only [Act.put, List.getElem_toArray, List.getElem_cons_zero, List.getElem_cons_succ, List.setIfInBounds_toArray, List.set_cons_zero, List.set_cons_succ]
      refine wpAnyH_ready (rs := [16]) (by kernel_rfl) (by simp) (AllReadyH.cons (o := _) rfl (fun K hK => ?_) AllReadyH.nil)
      obtain ⟨s1, s2⟩ := K4.out.get 1 rfl (j := j.toNat) (by rw [HL.out]; omega)
      have K5 := hid (K4.out.store 1 rfl j.toNat r)
      go_simp
      refine hK.out _ _ ?_ (fun hHeld2 => ?_)
      focus ((try dsimp only); (exact ⟨K5.out.cell 3 rfl 2 rfl, K5.out.cell 3 rfl 3 rfl⟩))
      clear hK K
      try simp only [Act.put, List.getElem_toArray, List.getElem_cons_zero, List.getElem_cons_succ, List.setIfInBounds_toArray, List.set_cons_zero, List.set_cons_succ]
      clear s1 s2
      clear hHeld
      have hHeld := hHeld2
      clear hHeld2
      generalize World.setCell v4 _ _ = v5 at *
      refine wpAnyH_done (by kernel_rfl) ?_ _
      clear hHeld
      have r0 := K5.out.cell 3 rfl 0 rfl
      have r1 := K5.out.cell 3 rfl 1 rfl
      have r2 := K5.out.cell 3 rfl 2 rfl
      have r3 := K5.out.cell 3 rfl 3 rfl
      have y0 := K5.out.cell 2 rfl 0 rfl
      have y1 := K5.out.cell 2 rfl 1 rfl
      have y2 := K5.out.cell 2 rfl 2 rfl
      have y3 := K5.out.cell 2 rfl 3 rfl
      have e0 := K5.out.free 2 rfl 0
      have e1 := K5.out.free 2 rfl 1
      have e2 := K5.out.free 2 rfl 2
      have e3 := K5.out.free 2 rfl 3
      go_wp2_with fail
      have HZ := hid (K5.out.set4 2 rfl (.int .i64 w) (.int .i64 h) (.int .i64 mx) (.slice (some ⟨g, 0, none⟩) n c2))
      have k0 := HZ.out.cell 2 rfl 0 rfl
      have k1 := HZ.out.cell 2 rfl 1 rfl
      have k2 := HZ.out.cell 2 rfl 2 rfl
      have k3 := HZ.out.cell 2 rfl 3 rfl
      refine bodyPost_ret (v := .agg #[.int .i64 w, .int .i64 h, .int .i64 mx, .slice (some ⟨g, 0, none⟩) n c2]) ?_ rfl ⟨_, _, _, _, _, rfl, by rw [hB]; exact HZ.out.own 1 rfl, HZ.out.tape, HZ.out.grown⟩
      unfold set4 at k0 k1 k2 k3
      simp [results, Try.results19, go_sem, k0, k1, k2, k3]
  obtain rfl : x = 5 := by omega
  have y0 := H4.out.cell 1 rfl 0 rfl
  have y1 := H4.out.cell 1 rfl 1 rfl
  have y2 := H4.out.cell 1 rfl 2 rfl
  have y3 := H4.out.cell 1 rfl 3 rfl
  have e0 := H4.out.free 1 rfl 0
  have e1 := H4.out.free 1 rfl 1
  have e2 := H4.out.free 1 rfl 2
  have e3 := H4.out.free 1 rfl 3
  go_wp2_with fail
  have HZ := hid ((H4.out.set 2 rfl 3 (.slice none 0 0)).set4 1 rfl (.int .i64 w) (.int .i64 h) (.int .i64 mx) (.slice none 0 0))
  have k0 := HZ.out.cell 1 rfl 0 rfl
  have k1 := HZ.out.cell 1 rfl 1 rfl
  have k2 := HZ.out.cell 1 rfl 2 rfl
  have k3 := HZ.out.cell 1 rfl 3 rfl
  refine bodyPost_ret (v := .agg #[.int .i64 w, .int .i64 h, .int .i64 mx, .slice none 0 0]) ?_ rfl ⟨_, _, _, _, _, rfl, Own.nil _ _, HZ.out.tape, HZ.out.grown⟩
  unfold set4 at k0 k1 k2 k3
  simp [results, Try.results19, go_sem, k0, k1, k2, k3]
end

section
open Go.RowKit
set_option linter.unusedVariables false
set_option linter.unusedSimpArgs false

def CopyPost (w h mx : Int) (zs : List Int) (W : World) (e : Ending) (w' : World) : Prop :=
  ∃ v, e = .returned (.agg #[.int .i64 w, .int .i64 h, .int .i64 mx, v]) ∧ Own W.heap.size w' v zs ∧ Below W.heap.size W w'
set_option maxRecDepth 100000 in
set_option maxHeartbeats 1600000 in
theorem qcopy_any (w h mx : Int) (a : Option Addr) (n c : Nat) (zs : List Int) (W : World) (hs : Slc W a n c zs) (hn1 : 1 ≤ n) (hn2 : n ≤ 1000000) :
    Calls Try.prog 25 #[.agg #[.int .i64 w, .int .i64 h, .int .i64 mx, .slice a n c]] W (CopyPost w h mx zs W) := by
  obtain ⟨B, hB⟩ : ∃ B, W.heap.size = B := ⟨_, rfl⟩
  obtain ⟨b, o, rfl⟩ := row_at hs.row (by omega)
  have HL := hid hs.len
  have H1 := hid (((St.init hB).alloc #[.int .i64 w, .int .i64 h, .int .i64 mx, .slice (some ⟨b, o, none⟩) n c] 35 hB).alloc #[.int .i64 0, .int .i64 0, .int .i64 0, .slice none 0 0] 35 (alloc_size _ hB))
  have HS1 := hid (H1.out.old hs)
  clear hs
  go_enter Try.func25, Try.ntmps25
  go_wp2_with (first | (at_builtin; refine append_row rfl _ _ rfl B _ [] b o n c zs rfl rfl (Own.nil _ _) HS1.out.row (by simp; omega) H1.out.size ?_; intro v2 w2 ho hg hv; rw [List.nil_append] at ho; have H2 := hid (H1.out.grow (below_of_grown_none hg) (Own.up ho hv)); clear hg hv; obtain ⟨g, c2, rfl⟩ := ho.pos (by have := HL.out; omega); rw [HL.out] at H2 ⊢; clear ho; have r0 := H2.out.cell 2 rfl 0 rfl; have r1 := H2.out.cell 2 rfl 1 rfl; have r2 := H2.out.cell 2 rfl 2 rfl; have r3 := H2.out.cell 2 rfl 3 rfl; have y0 := H2.out.cell 1 rfl 0 rfl; have y1 := H2.out.cell 1 rfl 1 rfl; have y2 := H2.out.cell 1 rfl 2 rfl; have y3 := H2.out.cell 1 rfl 3 rfl; have e0 := H2.out.free 1 rfl 0; have e1 := H2.out.free 1 rfl 1; have e2 := H2.out.free 1 rfl 2; have e3 := H2.out.free 1 rfl 3; have f3 := H2.out.free 2 rfl 3))
  have HZ := hid ((H2.out.set 2 rfl 3 (.slice (some ⟨g, 0, none⟩) n c2)).set4 1 rfl (.int .i64 w) (.int .i64 h) (.int .i64 mx) (.slice (some ⟨g, 0, none⟩) n c2))
  have k0 := HZ.out.cell 1 rfl 0 rfl
  have k1 := HZ.out.cell 1 rfl 1 rfl
  have k2 := HZ.out.cell 1 rfl 2 rfl
  have k3 := HZ.out.cell 1 rfl 3 rfl
  refine bodyPost_ret (v := .agg #[.int .i64 w, .int .i64 h, .int .i64 mx, .slice (some ⟨g, 0, none⟩) n c2]) ?_ rfl ⟨_, rfl, by rw [hB]; exact HZ.out.own 0 rfl, HZ.out.below⟩
  unfold set4 at k0 k1 k2 k3
  simp [results, Try.results25, go_sem, k0, k1, k2, k3]
end
end Go.Proofs.Ytocikgdkigcjbaa
