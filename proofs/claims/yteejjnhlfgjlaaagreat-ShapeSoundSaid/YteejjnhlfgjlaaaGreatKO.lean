/-
 Slices of structs in the walks of the tape's methods; what a callee made while it moved the tape. Contract: the tape's Ops: programs that are valid and have small values; the tape alone has changed. Contract: the tape's Weights: small weights; the tape alone has changed. Contract: the tape's Table: a valid table of at most six taps; the tape alone has changed.
-/
import Derived.Test.YteejjnhlfgjlaaaGreatKH
import Derived.Test.YteejjnhlfgjlaaaGreatKI
import Derived.Test.YteejjnhlfgjlaaaGreatKE
import Derived.Test.YteejjnhlfgjlaaaGreatKA
import Derived.Test.YteejjnhlfgjlaaaGreatKJ
namespace Go.Proofs.YteejjnhlfgjlaaaGreat
section
open Go.RowKit
set_option linter.unusedVariables false

section
variable {B : Nat} {W w w' : World} {l : List Ch} {rs : List Ro}
theorem St.news (h : St B W l rs w) (i : Nat) {b : Nat} {t : TypeId} (vs : List Value) (hi : l[i]? = some (.cells b vs.toArray t)) : ∀ j u, vs[j]? = some u → w.cell? ⟨b, j, none⟩ = some u := fun j u hj => h.cell i hi j (by simpa using hj)
end
section
variable {B0 k B : Nat} {W w w' : World} {l l' : List Ch}
theorem Tk.litArr (h : Tk B0 k B W l w) (i : Nat) {b : Nat} {t : TypeId} (sz n : Nat) (vs : List Value) (hi : l[i]? = some (.cells b vs.toArray t)) (hl : vs.length = n * sz) (hn : n ≤ 1000000) :
  Tk B0 k B W (l.set i (.arr t sz (.slice (some ⟨b, 0, none⟩) n n) n vs)) w := h.map (fun _ hs => hs.litArr2 i sz n vs hi hl hn) h.tape
theorem Tk.news (h : Tk B0 k B W l w) (i : Nat) {b : Nat} {t : TypeId} (vs : List Value) (hi : l[i]? = some (.cells b vs.toArray t)) : ∀ j u, vs[j]? = some u → w.cell? ⟨b, j, none⟩ = some u := fun j u hj => h.cell i hi j (by simpa using hj)
theorem Tk.arrE (h : Tk B0 k B W l w) (i : Nat) {e : TypeId} {sz : Nat} {v : Value} {n : Nat} {vs : List Value} (hi : l[i]? = some (.arr e sz v n vs)) : w.ownsRow B e sz v n vs := h.o fun _ hs => hs.arrE i hi
theorem Tk.appendE (h : Tk B0 k B W l w) (i : Nat) {e : TypeId} {sz : Nat} {v v' : Value} {n n' : Nat} {vs vs' : List Value} (hi : l[i]? = some (.arr e sz v n vs)) (ho : w'.ownsRow B e sz v' n' vs') (hg : w.grownBy w' v.ownBlock) (hv : v'.ownBlock = v.ownBlock ∨ v'.ownBlock = some w.heap.size) : Tk B0 k B W (l.set i (.arr e sz v' n' vs')) w' := by
 have h1 := h.tape.1; have h2 := h.kB; have h3 := h.tape.lt; have hlow : ∀ j, j < B → w'.heap[j]? = w.heap[j]? := fun j hj => hg.block j (by have := h.size; omega) (fun e => h.o fun _ hs => by have := (hs.lt i hi e.symm).1; omega)
 exact h.map (fun _ hs => hs.appendE i hi ho hg hv) (h.tape.keep (hlow k (by omega)) (fun j hj => hlow j (by omega)))
theorem Tk.arrNilE (h : Tk B0 k B W l w) (e : TypeId) (sz : Nat) : Tk B0 k B W (.arr e sz (.slice none 0 0) 0 [] :: l) w := h.map (fun _ hs => hs.arrNilE e sz) h.tape
end
theorem info_op : (Tryz.prog.info? 61).map (fun i => (i.zero, i.size, i.bytes)) = some (some (.agg #[.int .i64 0, .int .i64 0]), 2, 16) := by kernel_rfl
def OpsPost (P : List (Int × Int) → Prop) (B0 k : Nat) (W : World) (e : Ending) (w' : World) : Prop :=
 ∃ v L, e = .returned v ∧ P L ∧ 1 ≤ L.length ∧ L.length ≤ 20 ∧ w'.ownsRow W.heap.size 61 2 v L.length (prV L) ∧ TapeB B0 w' k ∧ W.grownBy w' (some k)
def OpsIs (two : Bool) (L : List (Int × Int)) : Prop := ∃ n, n ≤ 3 ∧ OpsM two n L
end

section
open Go.RowKit
attribute [local go_sem ↓] Go.wp_at_zero Go.wp_at_succ
set_option linter.unusedVariables false
set_option linter.unusedSimpArgs false

set_option maxRecDepth 100000 in
set_option maxHeartbeats 6400000 in
theorem ops_any (B0 k : Nat) (two : Bool) (W : World) (ht : TapeB B0 W k) :
  Calls Tryz.prog 20 #[.pointer (some ⟨k, 0, none⟩), .bool two] W (OpsPost (OpsIs two) B0 k W) := by
 obtain ⟨B, hB⟩ : ∃ B, W.heap.size = B := ⟨_, rfl⟩; have HI0 := kq (Tk.init ht hB); clear ht
 go_enter Tryz.func20, Tryz.ntmps20
 go_upto_region 2 with fail
 have H1 := kq (show Tk B0 k B W [.cells B #[.int .i64 0, .int .i64 0] 61] (W.alloc (.cells #[.int .i64 0, .int .i64 0] 61)) from (HI0.o.alloc #[.int .i64 0, .int .i64 0] 61 hB)); first | refine gen_tcode H1.o ?_ | refine gen_tlist H1.o ?_ | refine gen_tcalls H1.o ?_
 intro w2 hG; clear H1; have H1 := kq hG; clear hG; have H3 := kq (H1.o.litArr 0 2 1 (prV [(0, 0)]) rfl (by decide) (by decide)); cases two; rotate_left
 ·
  obtain ⟨D4, hD4⟩ := nK w2.heap.size; go_wp2_with fail
  have H5 := kq (show Tk B0 k B W [.cells D4 #[.int .i64 3, .int .i64 4, .int .i64 5, .int .i64 6, .int .i64 7, .int .i64 8, .int .i64 9] 3, .arr (61) 2 (.slice (some ⟨B, 0, none⟩) 1 1) 1 (prV [(0, 0)])] (w2.alloc (.cells #[.int .i64 3, .int .i64 4, .int .i64 5, .int .i64 6, .int .i64 7, .int .i64 8, .int .i64 9] 3)) from (H3.o.alloc #[.int .i64 3, .int .i64 4, .int .i64 5, .int .i64 6, .int .i64 7, .int .i64 8, .int .i64 9] 3 hD4)); first | refine gen_tcode H5.o ?_ | refine gen_tlist H5.o ?_ | refine gen_tcalls H5.o ?_
  intro w6 hG; clear H5; have H5 := kq hG; clear hG; clear hD4; refine (pickB_any B0 k _ 7 7 [3, 4, 5, 6, 7, 8, 9] _ (by omega) (by omega) (H5.o.tape) (H5.o.lit 0 [3, 4, 5, 6, 7, 8, 9] rfl (by simp)).row (H5.o.far 0 rfl _)).mono ?_; rintro e w8 ⟨x7, rfl, hx7, htn, hgn, hsn⟩; have H9 := kq (H5.o.next htn hgn); clear htn hgn hsn; obtain ⟨x7a, x7b⟩ : 3 ≤ x7 ∧ x7 ≤ 9 := by simp only [List.mem_cons, List.not_mem_nil, or_false] at hx7; omega
  clear hx7; obtain ⟨D1, hD1⟩ := nK w8.heap.size; have H2 := kq (show Tk B0 k B W [.cells D1 #[.int .i64 1, .int .i64 0, .int .i64 x7, .int .i64 0] 61, .cells D4 #[.int .i64 3, .int .i64 4, .int .i64 5, .int .i64 6, .int .i64 7, .int .i64 8, .int .i64 9] 3, .arr (61) 2 (.slice (some ⟨B, 0, none⟩) 1 1) 1 (prV [(0, 0)])] (w8.alloc (.cells #[.int .i64 1, .int .i64 0, .int .i64 x7, .int .i64 0] 61)) from (H9.o.alloc #[.int .i64 1, .int .i64 0, .int .i64 x7, .int .i64 0] 61 hD1)); go_upto_region 4 with (at_builtin; refine append_vals rfl _ _ 32 61 2 16 (.agg #[.int .i64 0, .int .i64 0]) Tryz.underlying32 info_op rfl (by decide) (by decide) rfl B _ _ _ D1 2 2 [.int .i64 1, .int .i64 0, .int .i64 x7, .int .i64 0] rfl rfl rfl (H2.o.arrE 2 rfl) (H2.o.news 0 [.int .i64 1, .int .i64 0, .int .i64 x7, .int .i64 0] rfl) (by intro u hu; simp at hu; rcases hu with rfl | rfl | rfl | rfl <;> rfl) (by omega) H2.o.size ?_; intro v1 w1 ho hg hv; have H4 := kq (H2.o.appendE 2 rfl ho hg hv); clear ho hg hv)
  clear H2; obtain ⟨g16, c1, hva⟩ := arr_pos (H4.o.arrE 2 rfl) (by omega); subst hva; rw [show prV [(0, 0)] ++ [.int .i64 1, .int .i64 0, .int .i64 x7, .int .i64 0] = prV ([(0, 0)] ++ [(1, 0), (x7, 0)]) from by rw [prV_app]; rfl] at H4; have H2 := kq (show Tk B0 k B W [.cells D4 #[.int .i64 3, .int .i64 4, .int .i64 5, .int .i64 6, .int .i64 7, .int .i64 8, .int .i64 9] 3, .arr (61) 2 (.slice (some ⟨g16, 0, none⟩) (1 + 2) c1) (1 + 2) (prV ([(0, 0)] ++ [(1, 0), (x7, 0)]))] w1 from H4.o.pick [1, 2] rfl (by decide)); clear hD1; go_wp2_with fail
  refine (nextB_any B0 k _ _ (by omega) (H2.o.tape)).mono ?_; rintro e w1 ⟨x1, rfl, x1a, x1b, htn, hgn, hsn⟩; have H4 := kq (H2.o.next htn hgn); clear htn hgn hsn; go_wp2_with fail
  go_loopw [6, 5] (fun i v wr => ∃ (j m : Nat) (L : List (Int × Int)) (g ln sc : Nat), m + j ≤ 3 ∧ i = .int .i64 j ∧ v = .slice (some ⟨g, 0, none⟩) ln sc ∧ OpsM true m L ∧ Tk B0 k B W [.arr (61) 2 (.slice (some ⟨g, 0, none⟩) ln sc) ln (prV L)] wr) (fun i _ _ => (intOf i).toNat)
  case atStart => exact ⟨x1.toNat, 0, ([(0, 0)] ++ [(1, 0), (x7, 0)]), g16, (1 + 2), c1, by omega, by rw [show ((x1.toNat : Nat) : Int) = x1 from by omega], rfl, OpsM.two (by omega), H4.o.pick [1] rfl (by decide)⟩
  case round =>
   obtain ⟨j, m, L, g, ln, sc, hmj, rfl, rfl, hm, hst⟩ := hrel; obtain ⟨u1, rfl⟩ : ∃ u1 : World, u1 = wr := ⟨_, rfl⟩; have H2 := kq hst; clear hst; have HM := kq hm; have hlm := hm.len; clear hm; have hll := arr_len (H2.o.arrE 0 rfl); obtain ⟨ll1, ll2, ll3, ll4⟩ : 1 ≤ ln ∧ ln ≤ 9 ∧ ln ≤ L.length ∧ L.length ≤ ln := by omega
   clear hll hlm; by_cases hj0 : 0 < j
   ·
    have hj0' : (0 : Int) < j := by omega
    go_wp2_with fail
    refine (nextB_any B0 k _ _ (by omega) (H2.o.tape)).mono ?_; rintro e w1 ⟨x1, rfl, x1a, x1b, htn, hgn, hsn⟩; have H4 := kq (H2.o.next htn hgn); clear htn hgn hsn
    rcases eqZ x1 0 with ⟨c1a, c1b, c1c, c1d, c1h⟩ | ⟨c1a, c1b, c1h⟩
    ·
     go_wp2_with fail
     refine (nextB_any B0 k _ _ (by omega) (H4.o.tape)).mono ?_; rintro e w3 ⟨x2, rfl, x2a, x2b, htn, hgn, hsn⟩; have H6 := kq (H4.o.next htn hgn); clear htn hgn hsn; obtain ⟨D1, hD1⟩ := nK w3.heap.size; go_wp2_with fail
     have H7 := kq (show Tk B0 k B W [.cells D1 #[.int .i64 (x2 - 100), .int .i64 0, .int .i64 3, .int .i64 (-2)] 3, .arr (61) 2 (.slice (some ⟨g, 0, none⟩) ln sc) ln (prV L)] (w3.alloc (.cells #[.int .i64 (x2 - 100), .int .i64 0, .int .i64 3, .int .i64 (-2)] 3)) from (H6.o.alloc #[.int .i64 (x2 - 100), .int .i64 0, .int .i64 3, .int .i64 (-2)] 3 hD1)); first | refine gen_tcode H7.o ?_ | refine gen_tlist H7.o ?_ | refine gen_tcalls H7.o ?_
     intro w32 hG; clear H7; have H7 := kq hG; clear hG; clear hD1; refine (pickB_any B0 k _ 4 4 [x2 - 100, 0, 3, (-2)] _ (by omega) (by omega) (H7.o.tape) (H7.o.lit 0 [x2 - 100, 0, 3, (-2)] rfl (by simp)).row (H7.o.far 0 rfl _)).mono ?_; rintro e w3 ⟨x3, rfl, hx1, htn, hgn, hsn⟩; have H6 := kq (H7.o.next htn hgn); clear htn hgn hsn; obtain ⟨x3a, x3b⟩ : -100 ≤ x3 ∧ x3 ≤ 199 := by simp only [List.mem_cons, List.not_mem_nil, or_false] at hx1; omega
     clear hx1; obtain ⟨D2, hD1⟩ := nK w3.heap.size; go_wp2_with fail
     have H7 := kq (show Tk B0 k B W [.cells D2 #[.int .i64 3, .int .i64 4, .int .i64 5, .int .i64 6, .int .i64 7, .int .i64 8, .int .i64 9] 3, .cells D1 #[.int .i64 (x2 - 100), .int .i64 0, .int .i64 3, .int .i64 (-2)] 3, .arr (61) 2 (.slice (some ⟨g, 0, none⟩) ln sc) ln (prV L)] (w3.alloc (.cells #[.int .i64 3, .int .i64 4, .int .i64 5, .int .i64 6, .int .i64 7, .int .i64 8, .int .i64 9] 3)) from (H6.o.alloc #[.int .i64 3, .int .i64 4, .int .i64 5, .int .i64 6, .int .i64 7, .int .i64 8, .int .i64 9] 3 hD1)); first | refine gen_tcode H7.o ?_ | refine gen_tlist H7.o ?_ | refine gen_tcalls H7.o ?_
     intro w3 hG; clear H7; have H7 := kq hG; clear hG; clear hD1; refine (pickB_any B0 k _ 7 7 [3, 4, 5, 6, 7, 8, 9] _ (by omega) (by omega) (H7.o.tape) (H7.o.lit 0 [3, 4, 5, 6, 7, 8, 9] rfl (by simp)).row (H7.o.far 0 rfl _)).mono ?_; rintro e w3 ⟨x4, rfl, hx1, htn, hgn, hsn⟩; have H6 := kq (H7.o.next htn hgn); clear htn hgn hsn; obtain ⟨x4a, x4b⟩ : 3 ≤ x4 ∧ x4 ≤ 9 := by simp only [List.mem_cons, List.not_mem_nil, or_false] at hx1; omega
     clear hx1; obtain ⟨D3, hD1⟩ := nK w3.heap.size; have H7 := kq (show Tk B0 k B W [.cells D3 #[.int .i64 2, .int .i64 x3, .int .i64 x4, .int .i64 0] 61, .cells D2 #[.int .i64 3, .int .i64 4, .int .i64 5, .int .i64 6, .int .i64 7, .int .i64 8, .int .i64 9] 3, .cells D1 #[.int .i64 (x2 - 100), .int .i64 0, .int .i64 3, .int .i64 (-2)] 3, .arr (61) 2 (.slice (some ⟨g, 0, none⟩) ln sc) ln (prV L)] (w3.alloc (.cells #[.int .i64 2, .int .i64 x3, .int .i64 x4, .int .i64 0] 61)) from (H6.o.alloc #[.int .i64 2, .int .i64 x3, .int .i64 x4, .int .i64 0] 61 hD1)); go_upto_region 6 with (at_builtin; refine append_vals rfl _ _ 32 61 2 16 (.agg #[.int .i64 0, .int .i64 0]) Tryz.underlying32 info_op rfl (by decide) (by decide) rfl B _ _ _ D3 2 2 [.int .i64 2, .int .i64 x3, .int .i64 x4, .int .i64 0] rfl rfl rfl (H7.o.arrE 3 rfl) (H7.o.news 0 [.int .i64 2, .int .i64 x3, .int .i64 x4, .int .i64 0] rfl) (by intro u hu; simp at hu; rcases hu with rfl | rfl | rfl | rfl <;> rfl) (by omega) H7.o.size ?_; intro v1 w3 ho hg hv; have H6 := kq (H7.o.appendE 3 rfl ho hg hv); clear ho hg hv)
     clear H7; obtain ⟨g1, c1, hva⟩ := arr_pos (H6.o.arrE 3 rfl) (by omega); subst hva; rw [show prV L ++ [.int .i64 2, .int .i64 x3, .int .i64 x4, .int .i64 0] = prV (L ++ [(2, x3), (x4, 0)]) from by rw [prV_app]; rfl] at H6; have H7 := kq (show Tk B0 k B W [.cells D2 #[.int .i64 3, .int .i64 4, .int .i64 5, .int .i64 6, .int .i64 7, .int .i64 8, .int .i64 9] 3, .cells D1 #[.int .i64 (x2 - 100), .int .i64 0, .int .i64 3, .int .i64 (-2)] 3, .arr (61) 2 (.slice (some ⟨g1, 0, none⟩) (ln + 2) c1) (ln + 2) (prV (L ++ [(2, x3), (x4, 0)]))] w3 from H6.o.pick [1, 2, 3] rfl (by decide)); clear hD1; go_wp2_with fail
     go_roundw
     case rel => exact ⟨j - 1, m + 1, _, g1, (ln + 2), c1, by omega, by go_num, rfl, OpsM.bin HM.o (by omega) (by omega), H7.o.pick [2] rfl (by decide)⟩
     case measure => first | (simp [intOf]; omega) | (simp [intOf]; done)
    rcases eqZ x1 1 with ⟨c1a, c1b, c1c, c1d, c1h⟩ | ⟨c1a, c1b, c1h⟩
    ·
     go_wp2_with fail
     refine (nextB_any B0 k _ _ (by omega) (H4.o.tape)).mono ?_; rintro e w3 ⟨x1, rfl, x1a, x1b, htn, hgn, hsn⟩; have H6 := kq (H4.o.next htn hgn); clear htn hgn hsn; obtain ⟨D1, hD1⟩ := nK w3.heap.size; have H7 := kq (show Tk B0 k B W [.cells D1 #[.int .i64 10, .int .i64 x1] 61, .arr (61) 2 (.slice (some ⟨g, 0, none⟩) ln sc) ln (prV L)] (w3.alloc (.cells #[.int .i64 10, .int .i64 x1] 61)) from (H6.o.alloc #[.int .i64 10, .int .i64 x1] 61 hD1)); go_upto_region 6 with (at_builtin; refine append_vals rfl _ _ 32 61 2 16 (.agg #[.int .i64 0, .int .i64 0]) Tryz.underlying32 info_op rfl (by decide) (by decide) rfl B _ _ _ D1 1 1 [.int .i64 10, .int .i64 x1] rfl rfl rfl (H7.o.arrE 1 rfl) (H7.o.news 0 [.int .i64 10, .int .i64 x1] rfl) (by intro u hu; simp at hu; rcases hu with rfl | rfl <;> rfl) (by omega) H7.o.size ?_; intro v1 w3 ho hg hv; have H6 := kq (H7.o.appendE 1 rfl ho hg hv); clear ho hg hv)
     clear H7; obtain ⟨g1, c1, hva⟩ := arr_pos (H6.o.arrE 1 rfl) (by omega); subst hva; rw [show prV L ++ [.int .i64 10, .int .i64 x1] = prV (L ++ [(10, x1)]) from by rw [prV_app]; rfl] at H6; have H7 := kq (show Tk B0 k B W [.arr (61) 2 (.slice (some ⟨g1, 0, none⟩) (ln + 1) c1) (ln + 1) (prV (L ++ [(10, x1)]))] w3 from H6.o.pick [1] rfl (by decide)); clear hD1; go_wp2_with fail
     go_roundw
     case rel => exact ⟨j - 1, m + 1, _, g1, (ln + 1), c1, by omega, by go_num, rfl, OpsM.sh HM.o (by omega), H7.o.pick [0] rfl (by decide)⟩
     case measure => first | (simp [intOf]; omega) | (simp [intOf]; done)
    obtain ⟨D1, hD1⟩ := nK w1.heap.size; have H6 := kq (show Tk B0 k B W [.cells D1 #[.int .i64 11, .int .i64 0] 61, .arr (61) 2 (.slice (some ⟨g, 0, none⟩) ln sc) ln (prV L)] (w1.alloc (.cells #[.int .i64 11, .int .i64 0] 61)) from (H4.o.alloc #[.int .i64 11, .int .i64 0] 61 hD1)); go_upto_region 6 with (at_builtin; refine append_vals rfl _ _ 32 61 2 16 (.agg #[.int .i64 0, .int .i64 0]) Tryz.underlying32 info_op rfl (by decide) (by decide) rfl B _ _ _ D1 1 1 [.int .i64 11, .int .i64 0] rfl rfl rfl (H6.o.arrE 1 rfl) (H6.o.news 0 [.int .i64 11, .int .i64 0] rfl) (by intro u hu; simp at hu; rcases hu with rfl | rfl <;> rfl) (by omega) H6.o.size ?_; intro v1 w1 ho hg hv; have H64 := kq (H6.o.appendE 1 rfl ho hg hv); clear ho hg hv)
    clear H6; obtain ⟨g1, c1, hva⟩ := arr_pos (H64.o.arrE 1 rfl) (by omega); subst hva; rw [show prV L ++ [.int .i64 11, .int .i64 0] = prV (L ++ [(11, 0)]) from by rw [prV_app]; rfl] at H64; have H4 := kq (show Tk B0 k B W [.arr (61) 2 (.slice (some ⟨g1, 0, none⟩) (ln + 1) c1) (ln + 1) (prV (L ++ [(11, 0)]))] w1 from H64.o.pick [1] rfl (by decide)); clear hD1; go_wp2_with fail
    go_roundw
    case rel => exact ⟨j - 1, m + 1, _, g1, (ln + 1), c1, by omega, by go_num, rfl, OpsM.ab HM.o, H4.o.pick [0] rfl (by decide)⟩
    case measure => first | (simp [intOf]; omega) | (simp [intOf]; done)
   have hj0' : ¬ ((0 : Int) < j) := by omega
   go_wp2_with fail
   have hll := arr_len (H2.o.arrE 0 rfl)
   go_ret
   exact ⟨_, L, rfl, ⟨m, by omega, HM.o⟩, by omega, by omega, by rw [hB, hll]; exact H2.o.arrE 0 rfl, H2.o.tape, H2.o.grown⟩
 go_wp2_with fail
 refine (nextB_any B0 k _ _ (by omega) (H3.o.tape)).mono ?_; rintro e w1 ⟨x1, rfl, x1a, x1b, htn, hgn, hsn⟩; have H2 := kq (H3.o.next htn hgn); clear htn hgn hsn; go_wp2_with fail
 go_loopw [6, 5] (fun i v wr => ∃ (j m : Nat) (L : List (Int × Int)) (g ln sc : Nat), m + j ≤ 3 ∧ i = .int .i64 j ∧ v = .slice (some ⟨g, 0, none⟩) ln sc ∧ OpsM false m L ∧ Tk B0 k B W [.arr (61) 2 (.slice (some ⟨g, 0, none⟩) ln sc) ln (prV L)] wr) (fun i _ _ => (intOf i).toNat)
 case atStart => exact ⟨x1.toNat, 0, [(0, 0)], B, 1, 1, by omega, by rw [show ((x1.toNat : Nat) : Int) = x1 from by omega], rfl, OpsM.one, H2.o.pick [0] rfl (by decide)⟩
 case round =>
  obtain ⟨j, m, L, g, ln, sc, hmj, rfl, rfl, hm, hst⟩ := hrel; obtain ⟨u1, rfl⟩ : ∃ u1 : World, u1 = wr := ⟨_, rfl⟩; have H2 := kq hst; clear hst; have HM := kq hm; have hlm := hm.len; clear hm; have hll := arr_len (H2.o.arrE 0 rfl); obtain ⟨ll1, ll2, ll3, ll4⟩ : 1 ≤ ln ∧ ln ≤ 9 ∧ ln ≤ L.length ∧ L.length ≤ ln := by omega
  clear hll hlm; by_cases hj0 : 0 < j
  ·
   have hj0' : (0 : Int) < j := by omega
   go_wp2_with fail
   refine (nextB_any B0 k _ _ (by omega) (H2.o.tape)).mono ?_; rintro e w1 ⟨x1, rfl, x1a, x1b, htn, hgn, hsn⟩; have H4 := kq (H2.o.next htn hgn); clear htn hgn hsn
   rcases eqZ x1 0 with ⟨c1a, c1b, c1c, c1d, c1h⟩ | ⟨c1a, c1b, c1h⟩
   ·
    go_wp2_with fail
    refine (nextB_any B0 k _ _ (by omega) (H4.o.tape)).mono ?_; rintro e w3 ⟨x2, rfl, x2a, x2b, htn, hgn, hsn⟩; have H6 := kq (H4.o.next htn hgn); clear htn hgn hsn; obtain ⟨D1, hD1⟩ := nK w3.heap.size; go_wp2_with fail
    have H7 := kq (show Tk B0 k B W [.cells D1 #[.int .i64 (x2 - 100), .int .i64 0, .int .i64 3, .int .i64 (-2)] 3, .arr (61) 2 (.slice (some ⟨g, 0, none⟩) ln sc) ln (prV L)] (w3.alloc (.cells #[.int .i64 (x2 - 100), .int .i64 0, .int .i64 3, .int .i64 (-2)] 3)) from (H6.o.alloc #[.int .i64 (x2 - 100), .int .i64 0, .int .i64 3, .int .i64 (-2)] 3 hD1)); first | refine gen_tcode H7.o ?_ | refine gen_tlist H7.o ?_ | refine gen_tcalls H7.o ?_
    intro w3 hG; clear H7; have H7 := kq hG; clear hG; clear hD1; refine (pickB_any B0 k _ 4 4 [x2 - 100, 0, 3, (-2)] _ (by omega) (by omega) (H7.o.tape) (H7.o.lit 0 [x2 - 100, 0, 3, (-2)] rfl (by simp)).row (H7.o.far 0 rfl _)).mono ?_; rintro e w3 ⟨x3, rfl, hx1, htn, hgn, hsn⟩; have H6 := kq (H7.o.next htn hgn); clear htn hgn hsn; obtain ⟨x3a, x3b⟩ : -100 ≤ x3 ∧ x3 ≤ 199 := by simp only [List.mem_cons, List.not_mem_nil, or_false] at hx1; omega
    clear hx1; obtain ⟨D2, hD1⟩ := nK w3.heap.size; go_wp2_with fail
    have H7 := kq (show Tk B0 k B W [.cells D2 #[.int .i64 3, .int .i64 4, .int .i64 5, .int .i64 6, .int .i64 7, .int .i64 8, .int .i64 9] 3, .cells D1 #[.int .i64 (x2 - 100), .int .i64 0, .int .i64 3, .int .i64 (-2)] 3, .arr (61) 2 (.slice (some ⟨g, 0, none⟩) ln sc) ln (prV L)] (w3.alloc (.cells #[.int .i64 3, .int .i64 4, .int .i64 5, .int .i64 6, .int .i64 7, .int .i64 8, .int .i64 9] 3)) from (H6.o.alloc #[.int .i64 3, .int .i64 4, .int .i64 5, .int .i64 6, .int .i64 7, .int .i64 8, .int .i64 9] 3 hD1)); first | refine gen_tcode H7.o ?_ | refine gen_tlist H7.o ?_ | refine gen_tcalls H7.o ?_
    intro w3 hG; clear H7; have H7 := kq hG; clear hG; clear hD1; refine (pickB_any B0 k _ 7 7 [3, 4, 5, 6, 7, 8, 9] _ (by omega) (by omega) (H7.o.tape) (H7.o.lit 0 [3, 4, 5, 6, 7, 8, 9] rfl (by simp)).row (H7.o.far 0 rfl _)).mono ?_; rintro e w3 ⟨x4, rfl, hx1, htn, hgn, hsn⟩; have H6 := kq (H7.o.next htn hgn); clear htn hgn hsn; obtain ⟨x4a, x4b⟩ : 3 ≤ x4 ∧ x4 ≤ 9 := by simp only [List.mem_cons, List.not_mem_nil, or_false] at hx1; omega
    clear hx1; obtain ⟨D3, hD1⟩ := nK w3.heap.size; have H7 := kq (show Tk B0 k B W [.cells D3 #[.int .i64 2, .int .i64 x3, .int .i64 x4, .int .i64 0] 61, .cells D2 #[.int .i64 3, .int .i64 4, .int .i64 5, .int .i64 6, .int .i64 7, .int .i64 8, .int .i64 9] 3, .cells D1 #[.int .i64 (x2 - 100), .int .i64 0, .int .i64 3, .int .i64 (-2)] 3, .arr (61) 2 (.slice (some ⟨g, 0, none⟩) ln sc) ln (prV L)] (w3.alloc (.cells #[.int .i64 2, .int .i64 x3, .int .i64 x4, .int .i64 0] 61)) from (H6.o.alloc #[.int .i64 2, .int .i64 x3, .int .i64 x4, .int .i64 0] 61 hD1)); go_upto_region 6 with (at_builtin; refine append_vals rfl _ _ 32 61 2 16 (.agg #[.int .i64 0, .int .i64 0]) Tryz.underlying32 info_op rfl (by decide) (by decide) rfl B _ _ _ D3 2 2 [.int .i64 2, .int .i64 x3, .int .i64 x4, .int .i64 0] rfl rfl rfl (H7.o.arrE 3 rfl) (H7.o.news 0 [.int .i64 2, .int .i64 x3, .int .i64 x4, .int .i64 0] rfl) (by intro u hu; simp at hu; rcases hu with rfl | rfl | rfl | rfl <;> rfl) (by omega) H7.o.size ?_; intro v1 w3 ho hg hv; have H6 := kq (H7.o.appendE 3 rfl ho hg hv); clear ho hg hv)
    clear H7; obtain ⟨g1, c1, hva⟩ := arr_pos (H6.o.arrE 3 rfl) (by omega); subst hva; rw [show prV L ++ [.int .i64 2, .int .i64 x3, .int .i64 x4, .int .i64 0] = prV (L ++ [(2, x3), (x4, 0)]) from by rw [prV_app]; rfl] at H6; have H7 := kq (show Tk B0 k B W [.cells D2 #[.int .i64 3, .int .i64 4, .int .i64 5, .int .i64 6, .int .i64 7, .int .i64 8, .int .i64 9] 3, .cells D1 #[.int .i64 (x2 - 100), .int .i64 0, .int .i64 3, .int .i64 (-2)] 3, .arr (61) 2 (.slice (some ⟨g1, 0, none⟩) (ln + 2) c1) (ln + 2) (prV (L ++ [(2, x3), (x4, 0)]))] w3 from H6.o.pick [1, 2, 3] rfl (by decide)); clear hD1; go_wp2_with fail
    go_roundw
    case rel => exact ⟨j - 1, m + 1, _, g1, (ln + 2), c1, by omega, by go_num, rfl, OpsM.bin HM.o (by omega) (by omega), H7.o.pick [2] rfl (by decide)⟩
    case measure => first | (simp [intOf]; omega) | (simp [intOf]; done)
   rcases eqZ x1 1 with ⟨c1a, c1b, c1c, c1d, c1h⟩ | ⟨c1a, c1b, c1h⟩
   ·
    go_wp2_with fail
    refine (nextB_any B0 k _ _ (by omega) (H4.o.tape)).mono ?_; rintro e w3 ⟨x1, rfl, x1a, x1b, htn, hgn, hsn⟩; have H6 := kq (H4.o.next htn hgn); clear htn hgn hsn; obtain ⟨D1, hD1⟩ := nK w3.heap.size; have H7 := kq (show Tk B0 k B W [.cells D1 #[.int .i64 10, .int .i64 x1] 61, .arr (61) 2 (.slice (some ⟨g, 0, none⟩) ln sc) ln (prV L)] (w3.alloc (.cells #[.int .i64 10, .int .i64 x1] 61)) from (H6.o.alloc #[.int .i64 10, .int .i64 x1] 61 hD1)); go_upto_region 6 with (at_builtin; refine append_vals rfl _ _ 32 61 2 16 (.agg #[.int .i64 0, .int .i64 0]) Tryz.underlying32 info_op rfl (by decide) (by decide) rfl B _ _ _ D1 1 1 [.int .i64 10, .int .i64 x1] rfl rfl rfl (H7.o.arrE 1 rfl) (H7.o.news 0 [.int .i64 10, .int .i64 x1] rfl) (by intro u hu; simp at hu; rcases hu with rfl | rfl <;> rfl) (by omega) H7.o.size ?_; intro v1 w3 ho hg hv; have H6 := kq (H7.o.appendE 1 rfl ho hg hv); clear ho hg hv)
    clear H7; obtain ⟨g1, c1, hva⟩ := arr_pos (H6.o.arrE 1 rfl) (by omega); subst hva; rw [show prV L ++ [.int .i64 10, .int .i64 x1] = prV (L ++ [(10, x1)]) from by rw [prV_app]; rfl] at H6; have H7 := kq (show Tk B0 k B W [.arr (61) 2 (.slice (some ⟨g1, 0, none⟩) (ln + 1) c1) (ln + 1) (prV (L ++ [(10, x1)]))] w3 from H6.o.pick [1] rfl (by decide)); clear hD1; go_wp2_with fail
    go_roundw
    case rel => exact ⟨j - 1, m + 1, _, g1, (ln + 1), c1, by omega, by go_num, rfl, OpsM.sh HM.o (by omega), H7.o.pick [0] rfl (by decide)⟩
    case measure => first | (simp [intOf]; omega) | (simp [intOf]; done)
   obtain ⟨D1, hD1⟩ := nK w1.heap.size; have H6 := kq (show Tk B0 k B W [.cells D1 #[.int .i64 11, .int .i64 0] 61, .arr (61) 2 (.slice (some ⟨g, 0, none⟩) ln sc) ln (prV L)] (w1.alloc (.cells #[.int .i64 11, .int .i64 0] 61)) from (H4.o.alloc #[.int .i64 11, .int .i64 0] 61 hD1)); go_upto_region 6 with (at_builtin; refine append_vals rfl _ _ 32 61 2 16 (.agg #[.int .i64 0, .int .i64 0]) Tryz.underlying32 info_op rfl (by decide) (by decide) rfl B _ _ _ D1 1 1 [.int .i64 11, .int .i64 0] rfl rfl rfl (H6.o.arrE 1 rfl) (H6.o.news 0 [.int .i64 11, .int .i64 0] rfl) (by intro u hu; simp at hu; rcases hu with rfl | rfl <;> rfl) (by omega) H6.o.size ?_; intro v1 w1 ho hg hv; have H4 := kq (H6.o.appendE 1 rfl ho hg hv); clear ho hg hv)
   clear H6; obtain ⟨g1, c1, hva⟩ := arr_pos (H4.o.arrE 1 rfl) (by omega); subst hva; rw [show prV L ++ [.int .i64 11, .int .i64 0] = prV (L ++ [(11, 0)]) from by rw [prV_app]; rfl] at H4; have H6 := kq (show Tk B0 k B W [.arr (61) 2 (.slice (some ⟨g1, 0, none⟩) (ln + 1) c1) (ln + 1) (prV (L ++ [(11, 0)]))] w1 from H4.o.pick [1] rfl (by decide)); clear hD1; go_wp2_with fail
   go_roundw
   case rel => exact ⟨j - 1, m + 1, _, g1, (ln + 1), c1, by omega, by go_num, rfl, OpsM.ab HM.o, H6.o.pick [0] rfl (by decide)⟩
   case measure => first | (simp [intOf]; omega) | (simp [intOf]; done)
  have hj0' : ¬ ((0 : Int) < j) := by omega
  go_wp2_with fail
  have hll := arr_len (H2.o.arrE 0 rfl)
  go_ret
  exact ⟨_, L, rfl, ⟨m, by omega, HM.o⟩, by omega, by omega, by rw [hB, hll]; exact H2.o.arrE 0 rfl, H2.o.tape, H2.o.grown⟩
end

section
open Go.RowKit
attribute [local go_sem ↓] Go.wp_at_zero Go.wp_at_succ
set_option linter.unusedVariables false
set_option linter.unusedSimpArgs false

theorem in_app {lw : List Int} {z m M : Int} (h : ∀ i, m ≤ lw.getD i 0 ∧ lw.getD i 0 ≤ M) (hz : m ≤ z ∧ z ≤ M) (h0 : m ≤ 0 ∧ 0 ≤ M) : ∀ i, m ≤ (lw ++ [z]).getD i 0 ∧ (lw ++ [z]).getD i 0 ≤ M := fun i => by
 rw [List.getD_eq_getElem?_getD, List.getElem?_append]
 split
 ·
  rw [← List.getD_eq_getElem?_getD]; exact h i
 cases hk : i - lw.length with
 | zero => exact hz
 | succ n => exact h0
def WeightsPost (B0 k : Nat) (W : World) (n : Int) (e : Ending) (w' : World) : Prop :=
 ∃ (v : Value) (ws : List Int), e = .returned v ∧ ws.length = n.toNat ∧ (∀ i, -20 ≤ ws.getD i 0 ∧ ws.getD i 0 ≤ 20) ∧ Own W.heap.size w' v ws ∧ TapeB B0 w' k ∧ W.grownBy w' (some k)

set_option maxRecDepth 100000 in
set_option maxHeartbeats 3200000 in
theorem weights_any (B0 k : Nat) (n : Int) (W : World) (hn : n ≤ 1000000) (ht : TapeB B0 W k) :
  Calls Tryz.prog 18 #[.pointer (some ⟨k, 0, none⟩), .int .i64 n] W (WeightsPost B0 k W n) := by
 obtain ⟨B, hB⟩ : ∃ B, W.heap.size = B := ⟨_, rfl⟩; have HI0 := kq (Tk.init ht hB); clear ht
 go_enter Tryz.func18, Tryz.ntmps18
 go_wp2_with fail
 have H1 := kq (show Tk B0 k B W [.own (.slice none 0 0) ([])] W from HI0.o.grow (Below.refl _ _) (Own.nil _ _))
 go_loopw [6, 5] (fun i v wr => ∃ (j : Nat) (la : Option Addr) (lc : Nat) (lw : List Int), j ≤ n.toNat ∧ lw.length = j ∧ (∀ i, -20 ≤ lw.getD i 0 ∧ lw.getD i 0 ≤ 20) ∧ i = .int .i64 j ∧ v = .slice la lw.length lc ∧ Tk B0 k B W [.own (.slice la lw.length lc) lw] wr) (fun i _ _ => n.toNat - (intOf i).toNat)
 case atStart => exact ⟨0, _, _, [], by omega, rfl, fun i => ⟨show (-20 : Int) ≤ 0 by omega, show (0 : Int) ≤ 20 by omega⟩, rfl, rfl, H1.o⟩
 case round =>
  obtain ⟨j, la, lc, lw, hj, hlw, hin, rfl, rfl, hst⟩ := hrel; obtain ⟨u2, rfl⟩ : ∃ u2 : World, u2 = wr := ⟨_, rfl⟩; have H3 := kq hst; clear hst; have HLW := kq hlw; have HIN := kq hin; have hlw2 : lw.length ≤ 1000000 := by omega
  clear hlw hin; by_cases hjn : j < n.toNat
  ·
   have hjn' : (j : Int) < n := by omega
   go_wp2_with fail
   refine (nextB_any B0 k _ _ (by omega) (H3.o.tape)).mono ?_; rintro e w5 ⟨x4, rfl, x4a, x4b, htn, hgn, hsn⟩; have H6 := kq (H3.o.next htn hgn); clear htn hgn hsn; obtain ⟨D7, hD7⟩ := nK w5.heap.size; go_wp2_with fail
   have H8 := kq (show Tk B0 k B W [.cells D7 #[.int .i64 1, .int .i64 2, .int .i64 (-1), .int .i64 0, .int .i64 (x4 - 20), .int .i64 5] 3, .own (.slice la lw.length lc) lw] (w5.alloc (.cells #[.int .i64 1, .int .i64 2, .int .i64 (-1), .int .i64 0, .int .i64 (x4 - 20), .int .i64 5] 3)) from (H6.o.alloc #[.int .i64 1, .int .i64 2, .int .i64 (-1), .int .i64 0, .int .i64 (x4 - 20), .int .i64 5] 3 hD7)); first | refine gen_tcode H8.o ?_ | refine gen_tlist H8.o ?_ | refine gen_tcalls H8.o ?_
   intro w9 hG; clear H8; have H8 := kq hG; clear hG; clear hD7; refine (pickB_any B0 k _ 6 6 [1, 2, (-1), 0, x4 - 20, 5] _ (by omega) (by omega) (H8.o.tape) (H8.o.lit 0 [1, 2, (-1), 0, x4 - 20, 5] rfl (by simp)).row (H8.o.far 0 rfl _)).mono ?_; rintro e w1 ⟨x1, rfl, hx1, htn, hgn, hsn⟩; have H2 := kq (H8.o.next htn hgn); clear htn hgn hsn; have HZP := kq (show -20 ≤ x1 ∧ x1 ≤ 20 from by simp only [List.mem_cons, List.not_mem_nil, or_false] at hx1; omega); clear hx1; obtain ⟨D1, hD1⟩ := nK w1.heap.size; have H4 := kq (show Tk B0 k B W [.cells D1 #[.int .i64 x1] 3, .cells D7 #[.int .i64 1, .int .i64 2, .int .i64 (-1), .int .i64 0, .int .i64 (x4 - 20), .int .i64 5] 3, .own (.slice la lw.length lc) lw] (w1.alloc (.cells #[.int .i64 x1] 3)) from (H2.o.alloc #[.int .i64 x1] 3 hD1)); go_upto_region 4 with (at_builtin; refine append_int rfl _ _ rfl B _ lw x1 D1 1 rfl rfl (H4.o.own 2 rfl) (H4.o.cell 0 rfl 0 rfl) (by omega) H4.o.size ?_; intro v1 w1 ho hg hv; have H2 := kq (H4.o.append 2 rfl ho hg hv); clear ho hg hv)
   clear H4; obtain ⟨v1a, v1c, hva, _⟩ := (H2.o.own 2 rfl).slc; subst hva; have H16 := kq (show Tk B0 k B W [.cells D7 #[.int .i64 1, .int .i64 2, .int .i64 (-1), .int .i64 0, .int .i64 (x4 - 20), .int .i64 5] 3, .own (.slice v1a ((lw ++ [x1]).length) v1c) (lw ++ [x1])] w1 from H2.o.pick [1, 2] rfl (by decide)); clear hD1; go_wp2_with fail
   go_roundw
   case rel => exact ⟨j + 1, _, _, _, by omega, by have := HLW.o; simp; omega, in_app HIN.o HZP.o (by omega), by go_num, rfl, H16.o.pick [1] rfl (by decide)⟩
   case measure => first | (simp [intOf]; omega) | (simp [intOf]; done)
  have hjn' : ¬ ((j : Int) < n) := by omega
  have HJN := kq (show j = n.toNat by omega); go_wp2_with fail
  go_ret
  exact ⟨_, lw, rfl, HLW.o.trans HJN.o, HIN.o, by rw [hB]; exact H3.o.own 0 rfl, H3.o.tape, H3.o.grown⟩
end

section
open Go.RowKit
attribute [local go_sem ↓] Go.wp_at_zero Go.wp_at_succ
set_option linter.unusedVariables false
set_option linter.unusedSimpArgs false

structure TbOk (ts : Tbl) : Prop where
 l0 : 1 ≤ ts.length
 l1 : ts.length ≤ 6
 one : ∀ i, i < ts.length → tvOne (ts.getD i (0, [])) = 0
def TablePost (B0 k : Nat) (W : World) (e : Ending) (w' : World) : Prop :=
 ∃ (v : Value) (ts : Tbl), e = .returned v ∧ TbOk ts ∧ OwnT W.heap.size w' v ts ∧ TapeB B0 w' k ∧ W.grownBy w' (some k)
theorem tb_ln {n : Int} {M : Nat} (hn : 1 ≤ n ∧ n ≤ 128) (hm : 1 ≤ M ∧ M ≤ 6) : tgCode n (M : Int) 8 = 0 ∧ (lnT n (M : Int) 8).length = M ∧ ∀ i, i < M → tvOne ((lnT n (M : Int) 8).getD i (0, [])) = 0 := by
 obtain ⟨h1, h2, _, h4⟩ := ln_valid (n := n) (m := (M : Int)) (s := 8) hn (by omega) (by omega); rw [Int.toNat_natCast] at h2 h4; exact ⟨h1, h2, fun i hi => by rw [h4 i hi]; exact ln_one hn (by omega) (by omega) (by omega)⟩
theorem tb_bx {n : Int} {M : Nat} (hn : 1 ≤ n ∧ n ≤ 128) (hm : 1 ≤ M ∧ M ≤ 6) (hc : bxCode n (M : Int) 8 = 0) : TbOk (bxT n (M : Int) 8) := by
 have h0 : tgCode n (M : Int) 8 = 0 := (tb_ln hn hm).1
 have hb : bxBad n (M : Int) M = false := by
  unfold bxCode at hc; rw [if_neg (by rw [h0]; simp), Int.toNat_natCast] at hc
  cases q : bxBad n (M : Int) M with
  | false => rfl
  | true => rw [q] at hc; simp at hc
 have hl : (bxT n (M : Int) 8).length = M := by unfold bxT bxTo; rw [if_pos hc]; simp
 refine ⟨by omega, by omega, fun i hi => ?_⟩; rw [hl] at hi; have h8 := bxBad_all hb i hi; have hg : (bxT n (M : Int) 8).getD i (0, []) = bxTap n (M : Int) 8 i := by unfold bxT bxTo; rw [if_pos hc, Int.toNat_natCast, rangeD _ _ hi]
 rw [hg]; exact (bx_one hn (by omega) (by omega) (by omega) h8 (bx_in hn (by omega) (by omega) (by omega) h8)).1
theorem tb_new {k : Int} {ws : List Int} (hk : -128 ≤ k ∧ k ≤ 256) (hl : 1 ≤ ws.length ∧ ws.length ≤ 8) (hw : ∀ i, -20 ≤ ws.getD i 0 ∧ ws.getD i 0 ≤ 20) : tvOne (k, ws) = 0 := by
 unfold tvOne
 rw [if_neg (show ¬ (ws.length = 0 ∨ 8 < ws.length) by omega), if_neg (by rw [show wAll (k, ws).2 = true from (wAll_of (fun i _ => by have := hw i; omega) : wAll ws = true)]; simp), if_neg (by unfold tFirst; simp; omega)]
def TpOk (tp : List (Int × Ro)) : Prop := ∀ i, i < tp.length → tvOne ((tapD tp).getD i (0, [])) = 0
theorem TpOk.set {tp : List (Int × Ro)} (h : TpOk tp) {k : Int} {r : Ro} (hn : tvOne (k, r.zs) = 0) (j : Nat) : TpOk (tp.set j (k, r)) := by
 intro i hi; rw [List.length_set] at hi
 unfold tapD
 rw [List.getD_eq_getElem?_getD, List.getElem?_map, List.getElem?_set]; by_cases e : j = i
 ·
  subst e; rw [if_pos rfl, if_pos hi]; exact hn
 rw [if_neg e]; have := h i hi
 unfold tapD at this
 rwa [List.getD_eq_getElem?_getD, List.getElem?_map] at this

set_option maxRecDepth 100000 in
set_option maxHeartbeats 6400000 in
theorem table_any (B0 k : Nat) (n : Int) (W : World) (hn : 1 ≤ n ∧ n ≤ 128) (ht : TapeB B0 W k) :
  Calls Tryz.prog 19 #[.pointer (some ⟨k, 0, none⟩), .int .i64 n] W (TablePost B0 k W) := by
 obtain ⟨B, hB⟩ : ∃ B, W.heap.size = B := ⟨_, rfl⟩; have HI0 := kq (TkR.init ht hB); obtain ⟨n1, n2⟩ := hn; clear ht
 go_enter Tryz.func19, Tryz.ntmps19
 go_wp2_with fail
 refine (nextB_any B0 k _ _ (by omega) (HI0.o.tape)).mono ?_; rintro e w2 ⟨x1, rfl, x1a, x1b, htn, hgn, hsn⟩; have H3 := kq (HI0.o.next htn hgn); clear htn hgn hsn; obtain ⟨M, hM⟩ : ∃ N : Nat, 1 + x1 = (N : Int) := ⟨(1 + x1).toNat, by omega⟩; obtain ⟨M1, M2⟩ : 1 ≤ M ∧ M ≤ 6 := by omega
 have HLN := kq (tb_ln (n := n) (M := M) ⟨n1, n2⟩ ⟨M1, M2⟩); have HBX := kq (fun hc => tb_bx (n := n) (M := M) ⟨n1, n2⟩ ⟨M1, M2⟩ hc); go_upto_region 2 with fail
 go_wp2_with fail
 refine (rlinear_any n (M : Int) 8 _).mono ?_; rintro e w4 ⟨v6, rfl, ho, hb⟩; rw [HLN.o.1]; obtain ⟨TL, hTL⟩ : ∃ T, lnT n (M : Int) 8 = T := ⟨_, rfl⟩; rw [hTL] at ho HLN; clear hTL; obtain ⟨tpl, R1, ta, tc, rfl, htd, htq, -, hst⟩ := H3.o.addT' hb ho; rw [HLN.o.2.1] at hst ⊢; have HQ := kq htq; have HD := kq htd; have HOKL := kq (show TpOk tpl from by intro i hi; rw [htd]; exact HLN.o.2.2 i (by rw [← tapD_len, htd, HLN.o.2.1] at hi; exact hi)); have HTL := kq (show tpl.length = M from by rw [← tapD_len, htd, HLN.o.2.1]); have H5 := kq hst; clear htq htd hst ho hb; go_wp2_with fail
 refine (nextB_any B0 k _ _ (by omega) (H5.o.tape)).mono ?_; rintro e w8 ⟨x7, rfl, x7a, x7b, htn, hgn, hsn⟩; have H9 := kq (H5.o.next htn hgn); clear htn hgn hsn
 rcases eqZ x7 0 with ⟨c1a, c1b, c1c, c1d, c1h⟩ | ⟨c1a, c1b, c1h⟩
 ·
  go_wp2_with fail
  refine (rbox_any n (M : Int) 8 _).mono ?_; rintro e w1 ⟨v1, rfl, ho, hb⟩; obtain ⟨TX, hTX⟩ : ∃ T, bxT n (M : Int) 8 = T := ⟨_, rfl⟩; obtain ⟨cX, hcX⟩ : ∃ T, bxCode n (M : Int) 8 = T := ⟨_, rfl⟩; rw [hTX] at ho HBX; rw [hcX] at HBX ⊢; clear hTX hcX; obtain ⟨tpx, R2, xa, xc, rfl, htd, htq, hmo, hst⟩ := H9.o.addT' hb ho; have HQX := kq htq; have HDX := kq htd; have HQ2 := kq (hmo _ HQ.o); have H1 := kq hst; clear htq htd hmo hst ho hb; by_cases hcc : cX = 0
  ·
   obtain rfl : 0 = cX := hcc.symm; go_wp2_with fail
   have HOK := kq (show TbOk TX from by first | exact HBX.o rfl | exact HBX.o trivial)
   go_ret
   exact ⟨_, TX, rfl, HOK.o, by rw [hB]; have h9 := H1.o.outT 0 rfl HQX.o; rw [HDX.o] at h9; exact h9, H1.o.tape, H1.o.grown⟩
  have hcc2 : (cX == 0) = false := by simpa using hcc
  clear hcc; go_wp2_with fail
  go_ret
  exact ⟨_, TL, rfl, ⟨by rw [HLN.o.2.1]; omega, by rw [HLN.o.2.1]; omega, fun i hi => HLN.o.2.2 i (by rw [HLN.o.2.1] at hi; exact hi)⟩, by rw [hB]; have h9 := H1.o.outT 1 rfl HQ2.o; rw [HD.o] at h9; exact h9, H1.o.tape, H1.o.grown⟩
 go_upto_region 8 with fail
 obtain ⟨ga, gc, hga⟩ := arr_posT (H9.o.arrOfT 0 rfl) (by omega); injection hga with hg1 hg2 hg3
 subst hg1 hg3; clear hg2; go_wp2_with fail
 go_loopw [10] (fun i wr => ∃ (j : Nat) (tp : List (Int × Ro)) (Rs : List Ro), j ≤ M ∧ tp.length = M ∧ TpOk tp ∧ TQ B Rs tp ∧ i = .int .i64 j ∧ TkR B0 k B W [.arr (59) 2 (.slice (some ⟨ga, 0, none⟩) M tc) M (tapV tp)] Rs wr) (fun i _ => M - (intOf i).toNat)
 case atStart => exact ⟨0, _, _, by omega, HTL.o, HOKL.o, HQ.o, rfl, H9.o⟩
 case round =>
  obtain ⟨j, tp, Rs, hj, htl, htk, htq, rfl, hst⟩ := hrel; obtain ⟨u1, rfl⟩ : ∃ u1 : World, u1 = wr := ⟨_, rfl⟩; have H1 := kq hst; clear hst; have HTK := kq htk; have HTQ := kq htq; clear htk htq; by_cases hjn : j < M
  ·
   have hjn' : (j : Int) < M := by omega
   go_wp2_with fail
   refine (nextB_any B0 k _ _ (by omega) (H1.o.tape)).mono ?_; rintro e w1 ⟨x16, rfl, x16a, x16b, htn, hgn, hsn⟩; have H2 := kq (H1.o.next htn hgn); clear htn hgn hsn
   rcases eqZ x16 0 with ⟨c1a, c1b, c1c, c1d, c1h⟩ | ⟨c1a, c1b, c1h⟩
   ·
    go_wp2_with fail
    refine (nextB_any B0 k _ _ (by omega) (H2.o.tape)).mono ?_; rintro e w1 ⟨x2, rfl, x2a, x2b, htn, hgn, hsn⟩; have H4 := kq (H2.o.next htn hgn); clear htn hgn hsn; go_wp2_with fail
    refine (nextB_any B0 k _ _ (by omega) (H4.o.tape)).mono ?_; rintro e w1 ⟨x3, rfl, x3a, x3b, htn, hgn, hsn⟩; have H6 := kq (H4.o.next htn hgn); clear htn hgn hsn; go_wp2_with fail
    obtain ⟨KK, hKK⟩ := nK (x2 - 4); obtain ⟨kk1, kk2⟩ : -4 ≤ KK ∧ KK ≤ 256 := by omega
    refine (weights_any B0 k _ _ (by omega) (H6.o.tape)).mono ?_; rintro e w1 ⟨wv1, wl1, rfl, hlen, hin, ho, ht, hg⟩; have H4 := kq (H6.o.add ht hg ho); have HWLwl1 := kq hlen; have HWBwl1 := kq hin; obtain ⟨wv1a, wv1c, rfl, -⟩ := ho.slc; clear hlen hin ho ht hg; obtain ⟨_, _, z1, z2, z32, z3⟩ := H4.o.tapCell 1 rfl (j := j) (by omega); go_upto_region 10 with fail
    clear z1 z2 z32 z3; have H6 := kq (show TkR B0 k B W [.own (.slice wv1a wl1.length wv1c) wl1, .arr (59) 2 (.slice (some ⟨ga, 0, none⟩) M tc) M (((tapV tp).set (j * 2) (.int .i64 KK)).set (j * 2 + 1) (.slice wv1a wl1.length wv1c))] Rs ((w1.setCell ⟨ga, j * 2, none⟩ (.int .i64 KK)).setCell ⟨ga, j * 2 + 1, none⟩ (.slice wv1a wl1.length wv1c)) from ((H4.o.storeTap 1 rfl (j * 2) (.int .i64 KK)).storeTap 1 rfl (j * 2 + 1) (.slice wv1a wl1.length wv1c))); first | refine gen_vcode H6.o ?_ | refine gen_vlist H6.o ?_ | refine gen_vcalls H6.o ?_
    intro w1 hG; clear H6; have H6 := kq hG; clear hG; go_wp2_with fail
    have H4 := H6.o.pick (l' := [.own (.slice wv1a wl1.length wv1c) wl1, .arr (59) 2 (.slice (some ⟨ga, 0, none⟩) M tc) M (((tapV tp).set (j * 2) (.int .i64 KK)).set (j * 2 + 1) (.slice wv1a wl1.length wv1c))]) [0, 1] rfl (by decide); have hNW := H4.lay 0 rfl; have hLY := H4.freeze 0 rfl; simp only [List.eraseIdx] at hLY; rw [show ((tapV tp).set (j * 2) (.int .i64 KK)).set (j * 2 + 1) (.slice wv1a wl1.length wv1c) = tapV (tp.set j (KK, ⟨wv1a, wl1.length, wv1c, wl1⟩)) from tapV_set tp j (KK, ⟨wv1a, wl1.length, wv1c, wl1⟩) (by omega)] at hLY; have HNW := kq (show tvOne (KK, wl1) = 0 from tb_new (by omega) (by have := HWLwl1.o; omega) HWBwl1.o)
    go_roundw
    case rel => exact ⟨j + 1, _, _, by omega, by rw [List.length_set]; exact htl, HTK.o.set HNW.o j, HTQ.o.set hNW j, by go_num, hLY⟩
    case measure => first | (simp [intOf]; omega) | (simp [intOf]; done)
   go_wp2_with fail
   go_roundw
   case rel => exact ⟨j + 1, _, _, by omega, htl, HTK.o, HTQ.o, by go_num, H2.o⟩
   case measure => first | (simp [intOf]; omega) | (simp [intOf]; done)
  have hjn' : ¬ ((j : Int) < M) := by omega
  go_wp2_with fail
  go_ret
  exact ⟨_, tapD tp, rfl, ⟨by rw [tapD_len]; omega, by rw [tapD_len]; omega, fun i hi => HTK.o i (by rw [tapD_len] at hi; exact hi)⟩, by rw [hB]; exact H1.o.outT 0 rfl HTQ.o, H1.o.tape, H1.o.grown⟩
end
end Go.Proofs.YteejjnhlfgjlaaaGreat
