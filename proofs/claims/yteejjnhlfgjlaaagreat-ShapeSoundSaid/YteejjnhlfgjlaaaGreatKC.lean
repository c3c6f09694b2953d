/-
 Contracts of the tape's Within: a rectangle within a size; the tape alone has changed. Contract of the tape's Sized: a valid plane of a size; the tape alone has changed. Contracts: equal planes, in the reference; the tape's Plane and Edge. Contract of the tape's SpoilPlane: some plane in new memory; the tape alone has changed. Contract: the copy of a plane.
-/
import Derived.Test.YteejjnhlfgjlaaaGreatKA
import Derived.Deep.RegionWith
import Derived.Deep.DrawnRows
import Derived.Deep.RegionHeld3
import Derived.Deep.DeepCutAuto
import Derived.Test.YteejjnhlfgjlaaaGreatKB
namespace Go.Proofs.YteejjnhlfgjlaaaGreat
section
open Go.RowKit
attribute [local go_sem ↓] Go.wp_at_zero Go.wp_at_succ
set_option linter.unusedVariables false
set_option linter.unusedSimpArgs false
end

section
open Go.RowKit
attribute [local go_sem ↓] Go.wp_at_zero Go.wp_at_succ
set_option linter.unusedVariables false
set_option linter.unusedSimpArgs false

def PlanePost (B0 k : Nat) (W : World) (w h : Int) (e : Ending) (w' : World) : Prop :=
 ∃ mx v zs, e = .returned (.agg #[.int .i64 w, .int .i64 h, .int .i64 mx, v]) ∧ pValid w h mx zs = true ∧ mx ≤ 65535 ∧ Own W.heap.size w' v zs ∧ TapeB B0 w' k ∧ W.grownBy w' (some k)

theorem pick_in {r z1 z2 mx : Int} (h : r ∈ [z1, z2, mx, 0]) (hm : 0 ≤ mx) (a : 0 ≤ z1) (b : z1 ≤ mx) (c : 0 ≤ z2) (d : z2 ≤ mx) : 0 ≤ r ∧ r ≤ mx := by
 simp only [List.mem_cons, List.not_mem_nil, or_false] at h
 omega
theorem in_set {zs : List Int} {mx r : Int} {j : Nat} (h : ∀ i, 0 ≤ zs.getD i 0 ∧ zs.getD i 0 ≤ mx) (r0 : 0 ≤ r) (r1 : r ≤ mx) : ∀ i, 0 ≤ (zs.set j r).getD i 0 ∧ (zs.set j r).getD i 0 ≤ mx := fun i => by
 have := h i; rw [List.getD_eq_getElem?_getD, List.getElem?_set]
 split
 ·
  split
  ·
   exact ⟨r0, r1⟩
  show (0 : Int) ≤ 0 ∧ (0 : Int) ≤ mx; omega
 rwa [← List.getD_eq_getElem?_getD]
theorem sized_valid {w h mx : Int} {zs : List Int} (hw : 1 ≤ w) (hw' : w ≤ 12) (hh : 1 ≤ h) (hh' : h ≤ 12) (m0 : 1 ≤ mx) (m1 : mx ≤ 65535) (hl : (zs.length : Int) = w * h) (hin : ∀ i, 0 ≤ zs.getD i 0 ∧ zs.getD i 0 ≤ mx) : pValid w h mx zs = true := by
 have p1 : w * h ≤ 12 * 12 := Int.mul_le_mul hw' hh' (by omega) (by omega); exact pValid_iff.2 ⟨pOk_iff.2 (by omega), hl, allIn_iff.1 (allIn_of fun i _ => hin i)⟩

set_option maxRecDepth 100000 in
set_option maxHeartbeats 6400000 in
theorem sized_any (B0 k : Nat) (w h : Int) (W : World) (hw : 1 ≤ w) (hw' : w ≤ 12) (hh : 1 ≤ h) (hh' : h ≤ 12) (ht : TapeB B0 W k) :
  Calls Tryz.prog 6 #[.pointer (some ⟨k, 0, none⟩), .int .i64 w, .int .i64 h] W (PlanePost B0 k W w h) := by
 obtain ⟨B, hB⟩ : ∃ B, W.heap.size = B := ⟨_, rfl⟩; have H0 := kq ((Tk.init ht hB).alloc #[.int .i64 0, .int .i64 0, .int .i64 0, .slice none 0 0] 26 hB); clear ht; have p0 : 0 ≤ w * h := Int.mul_nonneg (by omega) (by omega); have p1 : w * h ≤ 12 * 12 := Int.mul_le_mul hw' hh' (by omega) (by omega); obtain ⟨n, hn⟩ : ∃ n : Nat, w * h = n := ⟨(w * h).toNat, by omega⟩; have hn2 : n ≤ 144 := by omega
 clear p0 p1
 go_enter Tryz.func6, Tryz.ntmps6
 go_upto_region 1 with fail
 go_cut [7] (fun s wx => ∃ (R D : Nat) (mx : Int), s = .pointer (some ⟨R, 0, none⟩) ∧ mx ∈ [255, 255, 65535, 1, 7] ∧ Tk B0 k B W [.cells R #[.int .i64 w, .int .i64 h, .int .i64 mx, .slice (some ⟨D, 0, none⟩) n n] 26, .own (.slice (some ⟨D, 0, none⟩) n n) (List.replicate n 0), .cells B #[.int .i64 0, .int .i64 0, .int .i64 0, .slice none 0 0] 26] wx)
 case first =>
  have H1 := kq (H0.o.drewN 1); have q1 : IntKind.i64.wrap (n : Int) = n := IntWalk.i64_in _ (by omega); refine wp_region_held_drew (S := (fun w' => True)) (by kernel_rfl) trivial (fun hHeld => ?_); obtain ⟨w0, hw0⟩ : ∃ w0, w0 = (W.alloc (.cells #[.int .i64 0, .int .i64 0, .int .i64 0, .slice none 0 0] 26)).drew := ⟨_, rfl⟩; rw [← hw0]; have H1 := kq (show Tk B0 k B W [.cells B #[.int .i64 0, .int .i64 0, .int .i64 0, .slice none 0 0] 26] w0 by rw [hw0]; exact H0.o.drew); clear hw0 H0; refine tk 0 ?_; refine tk 1 ?_; refine tk 2 ?_; refine tk 5 ?_; refine tk 6 ?_; refine tk 7 ?_; refine wpAnyH_ready (rs := [3, 8, 10]) (by kernel_rfl) (by simp) (AllReadyH.cons (o := _) rfl (fun K hK => ?_) (AllReadyH.cons (o := _) rfl (fun K hK => ?_) (AllReadyH.cons (o := _) rfl (fun K hK => ?_) AllReadyH.nil)))
  ·
   obtain ⟨L2, hL2⟩ : ∃ L, w0.heap.size = L := ⟨_, rfl⟩; go_simp
   refine hK.out _ _ ?_ (fun hHeld2 => ?_)
   focus ((try dsimp only); (try trivial))
   clear hK K; try simp only [pz]
   have H2 := kq (H1.o.alloc #[.int .i64 255, .int .i64 255, .int .i64 65535, .int .i64 1, .int .i64 7] 3 hL2); clear hL2 hHeld2; generalize World.alloc w0 _ = w2 at *; refine wpAnyH_ready (rs := [4, 8, 10]) (by kernel_rfl) (by simp) (AllReadyH.cons (o := _) rfl (fun K hK => ?_) (AllReadyH.cons (o := _) rfl (fun K hK => ?_) (AllReadyH.cons (o := _) rfl (fun K hK => ?_) AllReadyH.nil)))
   ·
    go_simp
    go_at_call 16; refine (pickB_any B0 k _ 5 5 [255, 255, 65535, 1, 7] _ (by omega) (by omega) H2.o.tape (H2.o.lit 0 [255, 255, 65535, 1, 7] rfl (by decide)).row (H2.o.far 0 rfl _)).mono ?_; rintro e w3 ⟨mx, rfl, hmx, htn, hgn, hsn⟩; have H3 := kq (H2.o.next htn hgn); have HMX := kq hmx; clear hmx htn hgn hsn
    refine hK.out _ _ ?_ (fun hHeld2 => ?_)
    focus ((try dsimp only); (try trivial))
    clear hK K; try simp only [pz]
    clear hHeld2; refine wpAnyH_ready (rs := [8, 10]) (by kernel_rfl) (by simp) (AllReadyH.cons (o := _) rfl (fun K hK => ?_) (AllReadyH.cons (o := _) rfl (fun K hK => ?_) AllReadyH.nil))
    ·
     obtain ⟨D, hD4⟩ : ∃ L, w3.heap.size = L := ⟨_, rfl⟩; have hBD : B ≤ D := by have := H3.o.size; omega
     rw [if_pos (by rfl)]; refine oper_make_int _ _ rfl D _ _ n rfl rfl (by first | rfl | exact hn) (by first | rfl | exact hn) (by omega) (by omega) ?_; intro w4 ho hb; rw [hD4] at ho ⊢; have H4 := kq (H3.o.made hD4 ho hb); clear ho hb hD4; refine hK.out _ _ ?_ (fun hHeld2 => ?_)
     focus ((try dsimp only); (try trivial))
     clear hK K; try simp only [pz]
     clear hHeld2; refine tk 9 ?_; refine rdy 10 fun K hK => ?_
     obtain ⟨R, hR5⟩ : ∃ L, w4.heap.size = L := ⟨_, rfl⟩; go_simp
     refine hK.out _ _ ?_ (fun hHeld2 => ?_)
     focus ((try dsimp only); (try trivial))
     clear hK K; try simp only [pz]
     have H5 := kq (H4.o.alloc #[.int .i64 0, .int .i64 0, .int .i64 0, .slice none 0 0] 26 hR5); clear hR5 hHeld2; generalize World.alloc w4 _ = w5 at *; refine rdy 11 fun K hK => ?_
     have c0 := H5.o.cell 0 rfl 0 rfl; have c1 := H5.o.cell 0 rfl 1 rfl; have c2 := H5.o.cell 0 rfl 2 rfl; have c3 := H5.o.cell 0 rfl 3 rfl; have f0 := H5.o.free 0 rfl 0; have f1 := H5.o.free 0 rfl 1; have f2 := H5.o.free 0 rfl 2; have f3 := H5.o.free 0 rfl 3; go_simp
     refine hK.out _ _ ?_ (fun hHeld2 => ?_)
     focus ((try dsimp only); (try trivial))
     clear hK K; try simp only [pz]
     have H6 := kq (H5.o.set4 0 rfl (.int .i64 w) (.int .i64 h) (.int .i64 mx) (.slice (some ⟨D, 0, none⟩) n n)); clear c0 c1 c2 c3 f0 f1 f2 f3 hHeld2; refine wpAnyH_done (by kernel_rfl) ?_ _; go_wp2_with fail
     go_meet
     exact ⟨R, D, mx, rfl, HMX.o, H6.o.pick [0, 1, 3] rfl⟩
    obtain ⟨R, hR4⟩ : ∃ L, w3.heap.size = L := ⟨_, rfl⟩; go_simp
    refine hK.out _ _ ?_ (fun hHeld2 => ?_)
    focus ((try dsimp only); (try trivial))
    clear hK K; try simp only [pz]
    have H4 := kq (H3.o.alloc #[.int .i64 0, .int .i64 0, .int .i64 0, .slice none 0 0] 26 hR4); clear hR4 hHeld2; generalize World.alloc w3 _ = w4 at *; refine rdy 8 fun K hK => ?_
    obtain ⟨D, hD5⟩ : ∃ L, w4.heap.size = L := ⟨_, rfl⟩; have hBD : B ≤ D := by have := H4.o.size; omega
    rw [if_pos (by rfl)]; refine oper_make_int _ _ rfl D _ _ n rfl rfl (by first | rfl | exact hn) (by first | rfl | exact hn) (by omega) (by omega) ?_; intro w5 ho hb; rw [hD5] at ho ⊢; have H5 := kq (H4.o.made hD5 ho hb); clear ho hb hD5; refine hK.out _ _ ?_ (fun hHeld2 => ?_)
    focus ((try dsimp only); (try trivial))
    clear hK K; try simp only [pz]
    clear hHeld2; refine tk 9 ?_; refine rdy 11 fun K hK => ?_
    have c0 := H5.o.cell 1 rfl 0 rfl; have c1 := H5.o.cell 1 rfl 1 rfl; have c2 := H5.o.cell 1 rfl 2 rfl; have c3 := H5.o.cell 1 rfl 3 rfl; have f0 := H5.o.free 1 rfl 0; have f1 := H5.o.free 1 rfl 1; have f2 := H5.o.free 1 rfl 2; have f3 := H5.o.free 1 rfl 3; go_simp
    refine hK.out _ _ ?_ (fun hHeld2 => ?_)
    focus ((try dsimp only); (try trivial))
    clear hK K; try simp only [pz]
    have H6 := kq (H5.o.set4 1 rfl (.int .i64 w) (.int .i64 h) (.int .i64 mx) (.slice (some ⟨D, 0, none⟩) n n)); clear c0 c1 c2 c3 f0 f1 f2 f3 hHeld2; refine wpAnyH_done (by kernel_rfl) ?_ _; go_wp2_with fail
    go_meet
    exact ⟨R, D, mx, rfl, HMX.o, H6.o.pick [1, 0, 3] rfl⟩
   ·
    obtain ⟨D, hD3⟩ : ∃ L, w2.heap.size = L := ⟨_, rfl⟩; have hBD : B ≤ D := by have := H2.o.size; omega
    rw [if_pos (by rfl)]; refine oper_make_int _ _ rfl D _ _ n rfl rfl (by first | rfl | exact hn) (by first | rfl | exact hn) (by omega) (by omega) ?_; intro w3 ho hb; rw [hD3] at ho ⊢; have H3 := kq (H2.o.made hD3 ho hb); clear ho hb hD3; refine hK.out _ _ ?_ (fun hHeld2 => ?_)
    focus ((try dsimp only); (try trivial))
    clear hK K; try simp only [pz]
    clear hHeld2; refine wpAnyH_ready (rs := [4, 10]) (by kernel_rfl) (by simp) (AllReadyH.cons (o := _) rfl (fun K hK => ?_) (AllReadyH.cons (o := _) rfl (fun K hK => ?_) AllReadyH.nil))
    ·
     go_simp
     go_at_call 16; refine (pickB_any B0 k _ 5 5 [255, 255, 65535, 1, 7] _ (by omega) (by omega) H3.o.tape (H3.o.lit 1 [255, 255, 65535, 1, 7] rfl (by decide)).row (H3.o.far 1 rfl _)).mono ?_; rintro e w4 ⟨mx, rfl, hmx, htn, hgn, hsn⟩; have H4 := kq (H3.o.next htn hgn); have HMX := kq hmx; clear hmx htn hgn hsn
     refine hK.out _ _ ?_ (fun hHeld2 => ?_)
     focus ((try dsimp only); (try trivial))
     clear hK K; try simp only [pz]
     clear hHeld2; refine tk 9 ?_; refine rdy 10 fun K hK => ?_
     obtain ⟨R, hR5⟩ : ∃ L, w4.heap.size = L := ⟨_, rfl⟩; go_simp
     refine hK.out _ _ ?_ (fun hHeld2 => ?_)
     focus ((try dsimp only); (try trivial))
     clear hK K; try simp only [pz]
     have H5 := kq (H4.o.alloc #[.int .i64 0, .int .i64 0, .int .i64 0, .slice none 0 0] 26 hR5); clear hR5 hHeld2; generalize World.alloc w4 _ = w5 at *; refine rdy 11 fun K hK => ?_
     have c0 := H5.o.cell 0 rfl 0 rfl; have c1 := H5.o.cell 0 rfl 1 rfl; have c2 := H5.o.cell 0 rfl 2 rfl; have c3 := H5.o.cell 0 rfl 3 rfl; have f0 := H5.o.free 0 rfl 0; have f1 := H5.o.free 0 rfl 1; have f2 := H5.o.free 0 rfl 2; have f3 := H5.o.free 0 rfl 3; go_simp
     refine hK.out _ _ ?_ (fun hHeld2 => ?_)
     focus ((try dsimp only); (try trivial))
     clear hK K; try simp only [pz]
     have H6 := kq (H5.o.set4 0 rfl (.int .i64 w) (.int .i64 h) (.int .i64 mx) (.slice (some ⟨D, 0, none⟩) n n)); clear c0 c1 c2 c3 f0 f1 f2 f3 hHeld2; refine wpAnyH_done (by kernel_rfl) ?_ _; go_wp2_with fail
     go_meet
     exact ⟨R, D, mx, rfl, HMX.o, H6.o.pick [0, 1, 3] rfl⟩
    obtain ⟨R, hR4⟩ : ∃ L, w3.heap.size = L := ⟨_, rfl⟩; go_simp
    refine hK.out _ _ ?_ (fun hHeld2 => ?_)
    focus ((try dsimp only); (try trivial))
    clear hK K; try simp only [pz]
    have H4 := kq (H3.o.alloc #[.int .i64 0, .int .i64 0, .int .i64 0, .slice none 0 0] 26 hR4); clear hR4 hHeld2; generalize World.alloc w3 _ = w4 at *; refine rdy 4 fun K hK => ?_
    go_simp
    go_at_call 16; refine (pickB_any B0 k _ 5 5 [255, 255, 65535, 1, 7] _ (by omega) (by omega) H4.o.tape (H4.o.lit 2 [255, 255, 65535, 1, 7] rfl (by decide)).row (H4.o.far 2 rfl _)).mono ?_; rintro e w5 ⟨mx, rfl, hmx, htn, hgn, hsn⟩; have H5 := kq (H4.o.next htn hgn); have HMX := kq hmx; clear hmx htn hgn hsn
    refine hK.out _ _ ?_ (fun hHeld2 => ?_)
    focus ((try dsimp only); (try trivial))
    clear hK K; try simp only [pz]
    clear hHeld2; refine tk 9 ?_; refine rdy 11 fun K hK => ?_
    have c0 := H5.o.cell 0 rfl 0 rfl; have c1 := H5.o.cell 0 rfl 1 rfl; have c2 := H5.o.cell 0 rfl 2 rfl; have c3 := H5.o.cell 0 rfl 3 rfl; have f0 := H5.o.free 0 rfl 0; have f1 := H5.o.free 0 rfl 1; have f2 := H5.o.free 0 rfl 2; have f3 := H5.o.free 0 rfl 3; go_simp
    refine hK.out _ _ ?_ (fun hHeld2 => ?_)
    focus ((try dsimp only); (try trivial))
    clear hK K; try simp only [pz]
    have H6 := kq (H5.o.set4 0 rfl (.int .i64 w) (.int .i64 h) (.int .i64 mx) (.slice (some ⟨D, 0, none⟩) n n)); clear c0 c1 c2 c3 f0 f1 f2 f3 hHeld2; refine wpAnyH_done (by kernel_rfl) ?_ _; go_wp2_with fail
    go_meet
    exact ⟨R, D, mx, rfl, HMX.o, H6.o.pick [0, 1, 3] rfl⟩
   obtain ⟨R, hR3⟩ : ∃ L, w2.heap.size = L := ⟨_, rfl⟩; go_simp
   refine hK.out _ _ ?_ (fun hHeld2 => ?_)
   focus ((try dsimp only); (try trivial))
   clear hK K; try simp only [pz]
   have H3 := kq (H2.o.alloc #[.int .i64 0, .int .i64 0, .int .i64 0, .slice none 0 0] 26 hR3); clear hR3 hHeld2; generalize World.alloc w2 _ = w3 at *; refine wpAnyH_ready (rs := [4, 8]) (by kernel_rfl) (by simp) (AllReadyH.cons (o := _) rfl (fun K hK => ?_) (AllReadyH.cons (o := _) rfl (fun K hK => ?_) AllReadyH.nil))
   ·
    go_simp
    go_at_call 16; refine (pickB_any B0 k _ 5 5 [255, 255, 65535, 1, 7] _ (by omega) (by omega) H3.o.tape (H3.o.lit 1 [255, 255, 65535, 1, 7] rfl (by decide)).row (H3.o.far 1 rfl _)).mono ?_; rintro e w4 ⟨mx, rfl, hmx, htn, hgn, hsn⟩; have H4 := kq (H3.o.next htn hgn); have HMX := kq hmx; clear hmx htn hgn hsn
    refine hK.out _ _ ?_ (fun hHeld2 => ?_)
    focus ((try dsimp only); (try trivial))
    clear hK K; try simp only [pz]
    clear hHeld2; refine rdy 8 fun K hK => ?_
    obtain ⟨D, hD5⟩ : ∃ L, w4.heap.size = L := ⟨_, rfl⟩; have hBD : B ≤ D := by have := H4.o.size; omega
    rw [if_pos (by rfl)]; refine oper_make_int _ _ rfl D _ _ n rfl rfl (by first | rfl | exact hn) (by first | rfl | exact hn) (by omega) (by omega) ?_; intro w5 ho hb; rw [hD5] at ho ⊢; have H5 := kq (H4.o.made hD5 ho hb); clear ho hb hD5; refine hK.out _ _ ?_ (fun hHeld2 => ?_)
    focus ((try dsimp only); (try trivial))
    clear hK K; try simp only [pz]
    clear hHeld2; refine tk 9 ?_; refine rdy 11 fun K hK => ?_
    have c0 := H5.o.cell 1 rfl 0 rfl; have c1 := H5.o.cell 1 rfl 1 rfl; have c2 := H5.o.cell 1 rfl 2 rfl; have c3 := H5.o.cell 1 rfl 3 rfl; have f0 := H5.o.free 1 rfl 0; have f1 := H5.o.free 1 rfl 1; have f2 := H5.o.free 1 rfl 2; have f3 := H5.o.free 1 rfl 3; go_simp
    refine hK.out _ _ ?_ (fun hHeld2 => ?_)
    focus ((try dsimp only); (try trivial))
    clear hK K; try simp only [pz]
    have H6 := kq (H5.o.set4 1 rfl (.int .i64 w) (.int .i64 h) (.int .i64 mx) (.slice (some ⟨D, 0, none⟩) n n)); clear c0 c1 c2 c3 f0 f1 f2 f3 hHeld2; refine wpAnyH_done (by kernel_rfl) ?_ _; go_wp2_with fail
    go_meet
    exact ⟨R, D, mx, rfl, HMX.o, H6.o.pick [1, 0, 3] rfl⟩
   obtain ⟨D, hD4⟩ : ∃ L, w3.heap.size = L := ⟨_, rfl⟩; have hBD : B ≤ D := by have := H3.o.size; omega
   rw [if_pos (by rfl)]; refine oper_make_int _ _ rfl D _ _ n rfl rfl (by first | rfl | exact hn) (by first | rfl | exact hn) (by omega) (by omega) ?_; intro w4 ho hb; rw [hD4] at ho ⊢; have H4 := kq (H3.o.made hD4 ho hb); clear ho hb hD4; refine hK.out _ _ ?_ (fun hHeld2 => ?_)
   focus ((try dsimp only); (try trivial))
   clear hK K; try simp only [pz]
   clear hHeld2; refine rdy 4 fun K hK => ?_
   go_simp
   go_at_call 16; refine (pickB_any B0 k _ 5 5 [255, 255, 65535, 1, 7] _ (by omega) (by omega) H4.o.tape (H4.o.lit 2 [255, 255, 65535, 1, 7] rfl (by decide)).row (H4.o.far 2 rfl _)).mono ?_; rintro e w5 ⟨mx, rfl, hmx, htn, hgn, hsn⟩; have H5 := kq (H4.o.next htn hgn); have HMX := kq hmx; clear hmx htn hgn hsn
   refine hK.out _ _ ?_ (fun hHeld2 => ?_)
   focus ((try dsimp only); (try trivial))
   clear hK K; try simp only [pz]
   clear hHeld2; refine tk 9 ?_; refine rdy 11 fun K hK => ?_
   have c0 := H5.o.cell 1 rfl 0 rfl; have c1 := H5.o.cell 1 rfl 1 rfl; have c2 := H5.o.cell 1 rfl 2 rfl; have c3 := H5.o.cell 1 rfl 3 rfl; have f0 := H5.o.free 1 rfl 0; have f1 := H5.o.free 1 rfl 1; have f2 := H5.o.free 1 rfl 2; have f3 := H5.o.free 1 rfl 3; go_simp
   refine hK.out _ _ ?_ (fun hHeld2 => ?_)
   focus ((try dsimp only); (try trivial))
   clear hK K; try simp only [pz]
   have H6 := kq (H5.o.set4 1 rfl (.int .i64 w) (.int .i64 h) (.int .i64 mx) (.slice (some ⟨D, 0, none⟩) n n)); clear c0 c1 c2 c3 f0 f1 f2 f3 hHeld2; refine wpAnyH_done (by kernel_rfl) ?_ _; go_wp2_with fail
   go_meet
   exact ⟨R, D, mx, rfl, HMX.o, H6.o.pick [1, 0, 3] rfl⟩
  ·
   obtain ⟨D, hD2⟩ : ∃ L, w0.heap.size = L := ⟨_, rfl⟩; have hBD : B ≤ D := by have := H1.o.size; omega
   rw [if_pos (by rfl)]; refine oper_make_int _ _ rfl D _ _ n rfl rfl (by first | rfl | exact hn) (by first | rfl | exact hn) (by omega) (by omega) ?_; intro w2 ho hb; rw [hD2] at ho ⊢; have H2 := kq (H1.o.made hD2 ho hb); clear ho hb hD2; refine hK.out _ _ ?_ (fun hHeld2 => ?_)
   focus ((try dsimp only); (try trivial))
   clear hK K; try simp only [pz]
   clear hHeld2; refine wpAnyH_ready (rs := [3, 10]) (by kernel_rfl) (by simp) (AllReadyH.cons (o := _) rfl (fun K hK => ?_) (AllReadyH.cons (o := _) rfl (fun K hK => ?_) AllReadyH.nil))
   ·
    obtain ⟨L3, hL3⟩ : ∃ L, w2.heap.size = L := ⟨_, rfl⟩; go_simp
    refine hK.out _ _ ?_ (fun hHeld2 => ?_)
    focus ((try dsimp only); (try trivial))
    clear hK K; try simp only [pz]
    have H3 := kq (H2.o.alloc #[.int .i64 255, .int .i64 255, .int .i64 65535, .int .i64 1, .int .i64 7] 3 hL3); clear hL3 hHeld2; generalize World.alloc w2 _ = w3 at *; refine wpAnyH_ready (rs := [4, 10]) (by kernel_rfl) (by simp) (AllReadyH.cons (o := _) rfl (fun K hK => ?_) (AllReadyH.cons (o := _) rfl (fun K hK => ?_) AllReadyH.nil))
    ·
     go_simp
     go_at_call 16; refine (pickB_any B0 k _ 5 5 [255, 255, 65535, 1, 7] _ (by omega) (by omega) H3.o.tape (H3.o.lit 0 [255, 255, 65535, 1, 7] rfl (by decide)).row (H3.o.far 0 rfl _)).mono ?_; rintro e w4 ⟨mx, rfl, hmx, htn, hgn, hsn⟩; have H4 := kq (H3.o.next htn hgn); have HMX := kq hmx; clear hmx htn hgn hsn
     refine hK.out _ _ ?_ (fun hHeld2 => ?_)
     focus ((try dsimp only); (try trivial))
     clear hK K; try simp only [pz]
     clear hHeld2; refine tk 9 ?_; refine rdy 10 fun K hK => ?_
     obtain ⟨R, hR5⟩ : ∃ L, w4.heap.size = L := ⟨_, rfl⟩; go_simp
     refine hK.out _ _ ?_ (fun hHeld2 => ?_)
     focus ((try dsimp only); (try trivial))
     clear hK K; try simp only [pz]
     have H5 := kq (H4.o.alloc #[.int .i64 0, .int .i64 0, .int .i64 0, .slice none 0 0] 26 hR5); clear hR5 hHeld2; generalize World.alloc w4 _ = w5 at *; refine rdy 11 fun K hK => ?_
     have c0 := H5.o.cell 0 rfl 0 rfl; have c1 := H5.o.cell 0 rfl 1 rfl; have c2 := H5.o.cell 0 rfl 2 rfl; have c3 := H5.o.cell 0 rfl 3 rfl; have f0 := H5.o.free 0 rfl 0; have f1 := H5.o.free 0 rfl 1; have f2 := H5.o.free 0 rfl 2; have f3 := H5.o.free 0 rfl 3; go_simp
     refine hK.out _ _ ?_ (fun hHeld2 => ?_)
     focus ((try dsimp only); (try trivial))
     clear hK K; try simp only [pz]
     have H6 := kq (H5.o.set4 0 rfl (.int .i64 w) (.int .i64 h) (.int .i64 mx) (.slice (some ⟨D, 0, none⟩) n n)); clear c0 c1 c2 c3 f0 f1 f2 f3 hHeld2; refine wpAnyH_done (by kernel_rfl) ?_ _; go_wp2_with fail
     go_meet
     exact ⟨R, D, mx, rfl, HMX.o, H6.o.pick [0, 2, 3] rfl⟩
    obtain ⟨R, hR4⟩ : ∃ L, w3.heap.size = L := ⟨_, rfl⟩; go_simp
    refine hK.out _ _ ?_ (fun hHeld2 => ?_)
    focus ((try dsimp only); (try trivial))
    clear hK K; try simp only [pz]
    have H4 := kq (H3.o.alloc #[.int .i64 0, .int .i64 0, .int .i64 0, .slice none 0 0] 26 hR4); clear hR4 hHeld2; generalize World.alloc w3 _ = w4 at *; refine rdy 4 fun K hK => ?_
    go_simp
    go_at_call 16; refine (pickB_any B0 k _ 5 5 [255, 255, 65535, 1, 7] _ (by omega) (by omega) H4.o.tape (H4.o.lit 1 [255, 255, 65535, 1, 7] rfl (by decide)).row (H4.o.far 1 rfl _)).mono ?_; rintro e w5 ⟨mx, rfl, hmx, htn, hgn, hsn⟩; have H5 := kq (H4.o.next htn hgn); have HMX := kq hmx; clear hmx htn hgn hsn
    refine hK.out _ _ ?_ (fun hHeld2 => ?_)
    focus ((try dsimp only); (try trivial))
    clear hK K; try simp only [pz]
    clear hHeld2; refine tk 9 ?_; refine rdy 11 fun K hK => ?_
    have c0 := H5.o.cell 0 rfl 0 rfl; have c1 := H5.o.cell 0 rfl 1 rfl; have c2 := H5.o.cell 0 rfl 2 rfl; have c3 := H5.o.cell 0 rfl 3 rfl; have f0 := H5.o.free 0 rfl 0; have f1 := H5.o.free 0 rfl 1; have f2 := H5.o.free 0 rfl 2; have f3 := H5.o.free 0 rfl 3; go_simp
    refine hK.out _ _ ?_ (fun hHeld2 => ?_)
    focus ((try dsimp only); (try trivial))
    clear hK K; try simp only [pz]
    have H6 := kq (H5.o.set4 0 rfl (.int .i64 w) (.int .i64 h) (.int .i64 mx) (.slice (some ⟨D, 0, none⟩) n n)); clear c0 c1 c2 c3 f0 f1 f2 f3 hHeld2; refine wpAnyH_done (by kernel_rfl) ?_ _; go_wp2_with fail
    go_meet
    exact ⟨R, D, mx, rfl, HMX.o, H6.o.pick [0, 2, 3] rfl⟩
   obtain ⟨R, hR3⟩ : ∃ L, w2.heap.size = L := ⟨_, rfl⟩; go_simp
   refine hK.out _ _ ?_ (fun hHeld2 => ?_)
   focus ((try dsimp only); (try trivial))
   clear hK K; try simp only [pz]
   have H3 := kq (H2.o.alloc #[.int .i64 0, .int .i64 0, .int .i64 0, .slice none 0 0] 26 hR3); clear hR3 hHeld2; generalize World.alloc w2 _ = w3 at *; refine rdy 3 fun K hK => ?_
   obtain ⟨L4, hL4⟩ : ∃ L, w3.heap.size = L := ⟨_, rfl⟩; go_simp
   refine hK.out _ _ ?_ (fun hHeld2 => ?_)
   focus ((try dsimp only); (try trivial))
   clear hK K; try simp only [pz]
   have H4 := kq (H3.o.alloc #[.int .i64 255, .int .i64 255, .int .i64 65535, .int .i64 1, .int .i64 7] 3 hL4); clear hL4 hHeld2; generalize World.alloc w3 _ = w4 at *; refine rdy 4 fun K hK => ?_
   go_simp
   go_at_call 16; refine (pickB_any B0 k _ 5 5 [255, 255, 65535, 1, 7] _ (by omega) (by omega) H4.o.tape (H4.o.lit 0 [255, 255, 65535, 1, 7] rfl (by decide)).row (H4.o.far 0 rfl _)).mono ?_; rintro e w5 ⟨mx, rfl, hmx, htn, hgn, hsn⟩; have H5 := kq (H4.o.next htn hgn); have HMX := kq hmx; clear hmx htn hgn hsn
   refine hK.out _ _ ?_ (fun hHeld2 => ?_)
   focus ((try dsimp only); (try trivial))
   clear hK K; try simp only [pz]
   clear hHeld2; refine tk 9 ?_; refine rdy 11 fun K hK => ?_
   have c0 := H5.o.cell 1 rfl 0 rfl; have c1 := H5.o.cell 1 rfl 1 rfl; have c2 := H5.o.cell 1 rfl 2 rfl; have c3 := H5.o.cell 1 rfl 3 rfl; have f0 := H5.o.free 1 rfl 0; have f1 := H5.o.free 1 rfl 1; have f2 := H5.o.free 1 rfl 2; have f3 := H5.o.free 1 rfl 3; go_simp
   refine hK.out _ _ ?_ (fun hHeld2 => ?_)
   focus ((try dsimp only); (try trivial))
   clear hK K; try simp only [pz]
   have H6 := kq (H5.o.set4 1 rfl (.int .i64 w) (.int .i64 h) (.int .i64 mx) (.slice (some ⟨D, 0, none⟩) n n)); clear c0 c1 c2 c3 f0 f1 f2 f3 hHeld2; refine wpAnyH_done (by kernel_rfl) ?_ _; go_wp2_with fail
   go_meet
   exact ⟨R, D, mx, rfl, HMX.o, H6.o.pick [1, 2, 3] rfl⟩
  obtain ⟨R, hR2⟩ : ∃ L, w0.heap.size = L := ⟨_, rfl⟩; go_simp
  refine hK.out _ _ ?_ (fun hHeld2 => ?_)
  focus ((try dsimp only); (try trivial))
  clear hK K; try simp only [pz]
  have H2 := kq (H1.o.alloc #[.int .i64 0, .int .i64 0, .int .i64 0, .slice none 0 0] 26 hR2); clear hR2 hHeld2; generalize World.alloc w0 _ = w2 at *; refine wpAnyH_ready (rs := [3, 8]) (by kernel_rfl) (by simp) (AllReadyH.cons (o := _) rfl (fun K hK => ?_) (AllReadyH.cons (o := _) rfl (fun K hK => ?_) AllReadyH.nil))
  ·
   obtain ⟨L3, hL3⟩ : ∃ L, w2.heap.size = L := ⟨_, rfl⟩; go_simp
   refine hK.out _ _ ?_ (fun hHeld2 => ?_)
   focus ((try dsimp only); (try trivial))
   clear hK K; try simp only [pz]
   have H3 := kq (H2.o.alloc #[.int .i64 255, .int .i64 255, .int .i64 65535, .int .i64 1, .int .i64 7] 3 hL3); clear hL3 hHeld2; generalize World.alloc w2 _ = w3 at *; refine wpAnyH_ready (rs := [4, 8]) (by kernel_rfl) (by simp) (AllReadyH.cons (o := _) rfl (fun K hK => ?_) (AllReadyH.cons (o := _) rfl (fun K hK => ?_) AllReadyH.nil))
   ·
    go_simp
    go_at_call 16; refine (pickB_any B0 k _ 5 5 [255, 255, 65535, 1, 7] _ (by omega) (by omega) H3.o.tape (H3.o.lit 0 [255, 255, 65535, 1, 7] rfl (by decide)).row (H3.o.far 0 rfl _)).mono ?_; rintro e w4 ⟨mx, rfl, hmx, htn, hgn, hsn⟩; have H4 := kq (H3.o.next htn hgn); have HMX := kq hmx; clear hmx htn hgn hsn
    refine hK.out _ _ ?_ (fun hHeld2 => ?_)
    focus ((try dsimp only); (try trivial))
    clear hK K; try simp only [pz]
    clear hHeld2; refine rdy 8 fun K hK => ?_
    obtain ⟨D, hD5⟩ : ∃ L, w4.heap.size = L := ⟨_, rfl⟩; have hBD : B ≤ D := by have := H4.o.size; omega
    rw [if_pos (by rfl)]; refine oper_make_int _ _ rfl D _ _ n rfl rfl (by first | rfl | exact hn) (by first | rfl | exact hn) (by omega) (by omega) ?_; intro w5 ho hb; rw [hD5] at ho ⊢; have H5 := kq (H4.o.made hD5 ho hb); clear ho hb hD5; refine hK.out _ _ ?_ (fun hHeld2 => ?_)
    focus ((try dsimp only); (try trivial))
    clear hK K; try simp only [pz]
    clear hHeld2; refine tk 9 ?_; refine rdy 11 fun K hK => ?_
    have c0 := H5.o.cell 2 rfl 0 rfl; have c1 := H5.o.cell 2 rfl 1 rfl; have c2 := H5.o.cell 2 rfl 2 rfl; have c3 := H5.o.cell 2 rfl 3 rfl; have f0 := H5.o.free 2 rfl 0; have f1 := H5.o.free 2 rfl 1; have f2 := H5.o.free 2 rfl 2; have f3 := H5.o.free 2 rfl 3; go_simp
    refine hK.out _ _ ?_ (fun hHeld2 => ?_)
    focus ((try dsimp only); (try trivial))
    clear hK K; try simp only [pz]
    have H6 := kq (H5.o.set4 2 rfl (.int .i64 w) (.int .i64 h) (.int .i64 mx) (.slice (some ⟨D, 0, none⟩) n n)); clear c0 c1 c2 c3 f0 f1 f2 f3 hHeld2; refine wpAnyH_done (by kernel_rfl) ?_ _; go_wp2_with fail
    go_meet
    exact ⟨R, D, mx, rfl, HMX.o, H6.o.pick [2, 0, 3] rfl⟩
   obtain ⟨D, hD4⟩ : ∃ L, w3.heap.size = L := ⟨_, rfl⟩; have hBD : B ≤ D := by have := H3.o.size; omega
   rw [if_pos (by rfl)]; refine oper_make_int _ _ rfl D _ _ n rfl rfl (by first | rfl | exact hn) (by first | rfl | exact hn) (by omega) (by omega) ?_; intro w4 ho hb; rw [hD4] at ho ⊢; have H4 := kq (H3.o.made hD4 ho hb); clear ho hb hD4; refine hK.out _ _ ?_ (fun hHeld2 => ?_)
   focus ((try dsimp only); (try trivial))
   clear hK K; try simp only [pz]
   clear hHeld2; refine rdy 4 fun K hK => ?_
   go_simp
   go_at_call 16; refine (pickB_any B0 k _ 5 5 [255, 255, 65535, 1, 7] _ (by omega) (by omega) H4.o.tape (H4.o.lit 1 [255, 255, 65535, 1, 7] rfl (by decide)).row (H4.o.far 1 rfl _)).mono ?_; rintro e w5 ⟨mx, rfl, hmx, htn, hgn, hsn⟩; have H5 := kq (H4.o.next htn hgn); have HMX := kq hmx; clear hmx htn hgn hsn
   refine hK.out _ _ ?_ (fun hHeld2 => ?_)
   focus ((try dsimp only); (try trivial))
   clear hK K; try simp only [pz]
   clear hHeld2; refine tk 9 ?_; refine rdy 11 fun K hK => ?_
   have c0 := H5.o.cell 2 rfl 0 rfl; have c1 := H5.o.cell 2 rfl 1 rfl; have c2 := H5.o.cell 2 rfl 2 rfl; have c3 := H5.o.cell 2 rfl 3 rfl; have f0 := H5.o.free 2 rfl 0; have f1 := H5.o.free 2 rfl 1; have f2 := H5.o.free 2 rfl 2; have f3 := H5.o.free 2 rfl 3; go_simp
   refine hK.out _ _ ?_ (fun hHeld2 => ?_)
   focus ((try dsimp only); (try trivial))
   clear hK K; try simp only [pz]
   have H6 := kq (H5.o.set4 2 rfl (.int .i64 w) (.int .i64 h) (.int .i64 mx) (.slice (some ⟨D, 0, none⟩) n n)); clear c0 c1 c2 c3 f0 f1 f2 f3 hHeld2; refine wpAnyH_done (by kernel_rfl) ?_ _; go_wp2_with fail
   go_meet
   exact ⟨R, D, mx, rfl, HMX.o, H6.o.pick [2, 0, 3] rfl⟩
  obtain ⟨D, hD3⟩ : ∃ L, w2.heap.size = L := ⟨_, rfl⟩; have hBD : B ≤ D := by have := H2.o.size; omega
  rw [if_pos (by rfl)]; refine oper_make_int _ _ rfl D _ _ n rfl rfl (by first | rfl | exact hn) (by first | rfl | exact hn) (by omega) (by omega) ?_; intro w3 ho hb; rw [hD3] at ho ⊢; have H3 := kq (H2.o.made hD3 ho hb); clear ho hb hD3; refine hK.out _ _ ?_ (fun hHeld2 => ?_)
  focus ((try dsimp only); (try trivial))
  clear hK K; try simp only [pz]
  clear hHeld2; refine rdy 3 fun K hK => ?_
  obtain ⟨L4, hL4⟩ : ∃ L, w3.heap.size = L := ⟨_, rfl⟩; go_simp
  refine hK.out _ _ ?_ (fun hHeld2 => ?_)
  focus ((try dsimp only); (try trivial))
  clear hK K; try simp only [pz]
  have H4 := kq (H3.o.alloc #[.int .i64 255, .int .i64 255, .int .i64 65535, .int .i64 1, .int .i64 7] 3 hL4); clear hL4 hHeld2; generalize World.alloc w3 _ = w4 at *; refine rdy 4 fun K hK => ?_
  go_simp
  go_at_call 16; refine (pickB_any B0 k _ 5 5 [255, 255, 65535, 1, 7] _ (by omega) (by omega) H4.o.tape (H4.o.lit 0 [255, 255, 65535, 1, 7] rfl (by decide)).row (H4.o.far 0 rfl _)).mono ?_; rintro e w5 ⟨mx, rfl, hmx, htn, hgn, hsn⟩; have H5 := kq (H4.o.next htn hgn); have HMX := kq hmx; clear hmx htn hgn hsn
  refine hK.out _ _ ?_ (fun hHeld2 => ?_)
  focus ((try dsimp only); (try trivial))
  clear hK K; try simp only [pz]
  clear hHeld2; refine tk 9 ?_; refine rdy 11 fun K hK => ?_
  have c0 := H5.o.cell 2 rfl 0 rfl; have c1 := H5.o.cell 2 rfl 1 rfl; have c2 := H5.o.cell 2 rfl 2 rfl; have c3 := H5.o.cell 2 rfl 3 rfl; have f0 := H5.o.free 2 rfl 0; have f1 := H5.o.free 2 rfl 1; have f2 := H5.o.free 2 rfl 2; have f3 := H5.o.free 2 rfl 3; go_simp
  refine hK.out _ _ ?_ (fun hHeld2 => ?_)
  focus ((try dsimp only); (try trivial))
  clear hK K; try simp only [pz]
  have H6 := kq (H5.o.set4 2 rfl (.int .i64 w) (.int .i64 h) (.int .i64 mx) (.slice (some ⟨D, 0, none⟩) n n)); clear c0 c1 c2 c3 f0 f1 f2 f3 hHeld2; refine wpAnyH_done (by kernel_rfl) ?_ _; go_wp2_with fail
  go_meet
  exact ⟨R, D, mx, rfl, HMX.o, H6.o.pick [2, 1, 3] rfl⟩
 case rest =>
  obtain ⟨R, D, mx, rfl, hmx, hk⟩ := hcut; have HK := kq hk
  obtain ⟨mx0, mx1⟩ : 1 ≤ mx ∧ mx ≤ 65535 := by
   simp only [List.mem_cons, List.not_mem_nil, or_false] at hmx
   omega
  have HN := kq hn
  have hn1 : 1 ≤ n := by
   have : 1 * 1 ≤ w * h := Int.mul_le_mul hw hh (by omega) (by omega)
   omega
  clear H0 hmx hk hn; go_wp2_with fail
  go_loopw [8] (fun i wr => ∃ (j : Nat) (zs : List Int), j ≤ n ∧ i = .int .i64 j ∧ zs.length = n ∧ (∀ i, 0 ≤ zs.getD i 0 ∧ zs.getD i 0 ≤ mx) ∧ Tk B0 k B W [.cells R #[.int .i64 w, .int .i64 h, .int .i64 mx, .slice (some ⟨D, 0, none⟩) n n] 26, .own (.slice (some ⟨D, 0, none⟩) n n) zs, .cells B #[.int .i64 0, .int .i64 0, .int .i64 0, .slice none 0 0] 26] wr) (fun i _ => n - (intOf i).toNat)
  case atStart => exact ⟨0, _, by omega, rfl, by simp, fun i => by rw [List.getD_eq_getElem?_getD]; rcases Nat.lt_or_ge i n with h' | h' <;> simp [h'] <;> omega, HK.o⟩
  case round =>
   obtain ⟨j, zs, hj, rfl, hlen, hin, hk⟩ := hrel; obtain ⟨w2, rfl⟩ : ∃ w2 : World, w2 = wr := ⟨_, rfl⟩; have HLEN := kq hlen; have HIN := kq hin; have H2 := kq hk; clear hlen hin hk; have x2 := H2.o.cell 0 rfl 2 rfl; have x3 := H2.o.cell 0 rfl 3 rfl; by_cases hjn : j < n
   ·
    have hjn' : (j : Int) < n := by omega
    go_wp2_with fail
    have q1 : IntKind.i64.wrap (mx + 1) = mx + 1 := IntWalk.i64_in _ (by omega); have H3 := kq (H2.o.drew); refine wp_region_held_drew (S := (fun w' => w'.cell? ⟨R, 2, none⟩ = some (.int .i64 mx) ∧ w'.cell? ⟨R, 3, none⟩ = some (.slice (some ⟨D, 0, none⟩) n n))) (by kernel_rfl) ⟨H3.o.cell 0 rfl 2 rfl, H3.o.cell 0 rfl 3 rfl⟩ (fun hHeld => ?_); clear x2 x3; generalize w2.drew = w3 at *; refine tk 0 ?_; refine tk 1 ?_; refine tk 2 ?_; refine tk 3 ?_; refine tk 4 ?_; refine tk 5 ?_; refine tk 6 ?_; refine tk 7 ?_; refine tk 9 ?_; refine tk 10 ?_; refine tk 11 ?_; refine tk 12 ?_; refine tk 14 ?_; refine tk 15 ?_; refine rdy 8 fun K hK => ?_
    go_simp
    go_at_call 9; refine (nextB_any B0 k _ _ (by omega) H3.o.tape).mono ?_; rintro e v4 ⟨z1, rfl, z1a, z1b, htn, hgn, hsn⟩; have H4 := kq (H3.o.next htn hgn); have z1c : z1 ≤ mx := (by omega); clear htn hgn hsn z1b hHeld
    refine hK.out _ _ (by (try dsimp only); exact ⟨H4.o.cell 0 rfl 2 rfl, H4.o.cell 0 rfl 3 rfl⟩) ?_; clear hK K; intro hHeld; try simp only [pz]
    refine rdy 13 fun K hK => ?_
    go_simp
    go_at_call 9; refine (nextB_any B0 k _ _ (by omega) H4.o.tape).mono ?_; rintro e v5 ⟨z2, rfl, z2a, z2b, htn, hgn, hsn⟩; have H5 := kq (H4.o.next htn hgn); have z2c : z2 ≤ mx := (by omega); clear htn hgn hsn z2b hHeld
    refine hK.out _ _ (by (try dsimp only); exact ⟨H5.o.cell 0 rfl 2 rfl, H5.o.cell 0 rfl 3 rfl⟩) ?_; clear hK K; intro hHeld; try simp only [pz]
    refine rdy 16 fun K hK => ?_
    obtain ⟨L6, hL6⟩ : ∃ L, v5.heap.size = L := ⟨_, rfl⟩; have H6 := kq (H5.o.alloc #[.int .i64 z1, .int .i64 z2, .int .i64 mx, .int .i64 0] 3 hL6); go_simp
    refine hK.out _ _ ?_ (fun hHeld2 => ?_)
    focus ((try dsimp only); (exact ⟨H6.o.cell 1 rfl 2 rfl, H6.o.cell 1 rfl 3 rfl⟩))
    clear hK K; try simp only [pz]
    clear hL6 hHeld; have hHeld := hHeld2; clear hHeld2; generalize World.alloc v5 _ = v6 at *; refine rdy 17 fun K hK => ?_
    go_simp
    go_at_call 16; refine (pickB_any B0 k _ 4 4 [z1, z2, mx, 0] _ (by omega) (by omega) H6.o.tape (H6.o.lit 0 [z1, z2, mx, 0] rfl (by simp)).row (H6.o.far 0 rfl _)).mono ?_; rintro e v7 ⟨r, rfl, hr, htn, hgn, hsn⟩; have H7 := kq (H6.o.next htn hgn); have hr2 : 0 ≤ r ∧ r ≤ mx := pick_in hr (by omega) z1a z1c z2a z2c; clear hr htn hgn hsn hHeld; obtain ⟨r0, r1⟩ := hr2
    refine hK.out _ _ (by (try dsimp only); exact ⟨H7.o.cell 1 rfl 2 rfl, H7.o.cell 1 rfl 3 rfl⟩) ?_; clear hK K; intro hHeld; try simp only [pz]
    refine tk 18 ?_; refine rdy 19 fun K hK => ?_
    obtain ⟨s1, s2⟩ := H7.o.get 2 rfl (j := j) (by rw [HLEN.o]; exact hjn); have H8 := kq (H7.o.store 2 rfl j r); go_simp
    refine hK.out _ _ ?_ (fun hHeld2 => ?_)
    focus ((try dsimp only); (exact ⟨H8.o.cell 1 rfl 2 rfl, H8.o.cell 1 rfl 3 rfl⟩))
    clear hK K; try simp only [pz]
    clear hHeld hHeld2 s1 s2; generalize World.setCell v7 _ _ = v8 at *; refine wpAnyH_done (by kernel_rfl) ?_ _; go_wp2_with fail
    go_roundw
    case rel => exact ⟨j + 1, _, by omega, by go_num, by rw [List.length_set]; exact HLEN.o, in_set HIN.o r0 r1, H8.o.pick [1, 2, 3] rfl⟩
    case measure => simp [intOf]; omega
   obtain rfl : n = j := by omega
   have x0 := H2.o.cell 0 rfl 0 rfl; have x1 := H2.o.cell 0 rfl 1 rfl; have y0 := H2.o.cell 2 rfl 0 rfl; have y1 := H2.o.cell 2 rfl 1 rfl; have y2 := H2.o.cell 2 rfl 2 rfl; have y3 := H2.o.cell 2 rfl 3 rfl; have e0 := H2.o.free 2 rfl 0; have e1 := H2.o.free 2 rfl 1; have e2 := H2.o.free 2 rfl 2; have e3 := H2.o.free 2 rfl 3; have hjn' : ¬ ((n : Int) < n) := by omega
   go_wp2_with fail
   have H5 := kq (H2.o.set4 2 rfl (.int .i64 w) (.int .i64 h) (.int .i64 mx) (.slice (some ⟨D, 0, none⟩) n n)); have k0 := H5.o.cell 2 rfl 0 rfl; have k1 := H5.o.cell 2 rfl 1 rfl; have k2 := H5.o.cell 2 rfl 2 rfl; have k3 := H5.o.cell 2 rfl 3 rfl; have HV := kq (show pValid w h mx zs = true from sized_valid hw hw' hh hh' mx0 mx1 (by rw [HLEN.o, HN.o]) HIN.o); refine bodyPost_ret (v := .agg #[.int .i64 w, .int .i64 h, .int .i64 mx, .slice (some ⟨D, 0, none⟩) n n]) ?_ rfl ⟨_, _, _, rfl, HV.o, mx1, by rw [hB]; exact H5.o.own 1 rfl, H5.o.tape, H5.o.grown⟩
   unfold set4 at k0 k1 k2 k3
   simp [results, Tryz.results6, go_sem, k0, k1, k2, k3]
end

section
open Go.RowKit
attribute [local go_sem ↓] Go.wp_at_zero Go.wp_at_succ
set_option linter.unusedVariables false
set_option linter.unusedSimpArgs false

def TPlanePost (B0 k : Nat) (W : World) (e : Ending) (w' : World) : Prop := ∃ w h : Int, 1 ≤ w ∧ w ≤ 6 ∧ 1 ≤ h ∧ h ≤ 5 ∧ PlanePost B0 k W w h e w'
set_option maxRecDepth 100000 in
set_option maxHeartbeats 1600000 in
theorem plane_any (B0 k : Nat) (W : World) (ht : TapeB B0 W k) :
  Calls Tryz.prog 5 #[.pointer (some ⟨k, 0, none⟩)] W (TPlanePost B0 k W) := by
 obtain ⟨B, hB⟩ : ∃ B, W.heap.size = B := ⟨_, rfl⟩; have H0 := kq ((Tk.init ht hB).alloc #[.int .i64 0, .int .i64 0, .int .i64 0, .slice none 0 0] 26 hB); clear ht
 go_enter Tryz.func5, Tryz.ntmps5
 go_wp2_with fail
 refine (nextB_any B0 k _ _ (by omega) H0.o.tape).mono ?_; rintro e w1 ⟨x, rfl, g1, g2, ht1, hg1, hs1⟩; have H1 := kq (H0.o.next ht1 hg1); clear ht1 hg1 hs1; go_wp2_with fail
 refine (nextB_any B0 k _ _ (by omega) H1.o.tape).mono ?_; rintro e w2 ⟨y, rfl, g3, g4, ht2, hg2, hs2⟩; have H2 := kq (H1.o.next ht2 hg2); clear ht2 hg2 hs2; go_wp2_with fail
 refine (sized_any B0 k _ _ _ (by omega) (by omega) (by omega) (by omega) H2.o.tape).mono ?_; rintro e w3 ⟨mx, v, zs, rfl, hv, hm, ho, ht3, hg3⟩; have H3 := kq (H2.o.add ht3 hg3 ho); have HV := kq hv; clear hv ho ht3 hg3; have y0 := H3.o.cell 1 rfl 0 rfl; have y1 := H3.o.cell 1 rfl 1 rfl; have y2 := H3.o.cell 1 rfl 2 rfl; have y3 := H3.o.cell 1 rfl 3 rfl; have e0 := H3.o.free 1 rfl 0; have e1 := H3.o.free 1 rfl 1; have e2 := H3.o.free 1 rfl 2; have e3 := H3.o.free 1 rfl 3; obtain ⟨g, c, rfl⟩ := (H3.o.own 0 rfl).pos (by have h1 := (pValid_iff.1 HV.o).2.1; have : 1 * 1 ≤ (1 + x) * (1 + y) := Int.mul_le_mul (by omega) (by omega) (by omega) (by omega); omega); go_wp2_with fail
 have H5 := kq (H3.o.set4 1 rfl (.int .i64 (1 + x)) (.int .i64 (1 + y)) (.int .i64 mx) (.slice (some ⟨g, 0, none⟩) zs.length c)); have k0 := H5.o.cell 1 rfl 0 rfl; have k1 := H5.o.cell 1 rfl 1 rfl; have k2 := H5.o.cell 1 rfl 2 rfl; have k3 := H5.o.cell 1 rfl 3 rfl; refine bodyPost_ret (v := .agg #[.int .i64 (1 + x), .int .i64 (1 + y), .int .i64 mx, .slice (some ⟨g, 0, none⟩) zs.length c]) ?_ rfl ⟨_, _, by omega, by omega, by omega, by omega, _, _, _, rfl, HV.o, hm, by rw [hB]; exact H5.o.own 0 rfl, H5.o.tape, H5.o.grown⟩
 unfold set4 at k0 k1 k2 k3
 simp [results, Tryz.results5, go_sem, k0, k1, k2, k3]
end

section
open Go.RowKit
attribute [local go_sem ↓] Go.wp_at_zero Go.wp_at_succ
set_option linter.unusedVariables false
set_option linter.unusedSimpArgs false
end

section
open Go.RowKit
set_option linter.unusedVariables false
set_option linter.unusedSimpArgs false
end
end Go.Proofs.YteejjnhlfgjlaaaGreat
