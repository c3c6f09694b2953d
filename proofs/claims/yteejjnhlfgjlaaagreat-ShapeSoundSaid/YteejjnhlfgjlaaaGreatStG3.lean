/-
 Contract: which fields a stage may use, in the program, at the kind 3.
-/
import Derived.Test.YteejjnhlfgjlaaaGreatStF
import Derived.Test.YteejjnhlfgjlaaaGreatKH
namespace Go.Proofs.YteejjnhlfgjlaaaGreat
open Go.RowKit
attribute [local go_sem ↓] Go.wp_at_zero Go.wp_at_succ edge_eq edge_ne
set_option linter.unusedVariables false
set_option linter.unusedSimpArgs false

set_option maxRecDepth 100000 in
set_option maxHeartbeats 6400000 in
theorem sfields_3 (sa sb : Int) (bar : Bool) (ep ef kw kh : Int) (wa : Option Addr) (wn wc : Nat) (ra : Option Addr) (rn rc : Nat) (ca : Option Addr) (cn cc : Nat) (sh sh2 : Int) (xa : Option Addr) (xn xc : Nat) (ya : Option Addr) (yn yc : Nat) (bins : Int) (oa : Option Addr) (on oc : Nat) (mx : Int) (W : World) : Calls Tryz.prog 22 #[.agg #[.int .i64 3, .int .i64 sa, .int .i64 sb, .bool bar, .int .i64 ep, .int .i64 ef, .int .i64 kw, .int .i64 kh, .slice wa wn wc, .slice ra rn rc, .slice ca cn cc, .int .i64 sh, .int .i64 sh2, .slice xa xn xc, .slice ya yn yc, .int .i64 bins, .slice oa on oc, .int .i64 mx]] W fun e w' => e = .returned (.bool (sfOk 3 sb ep ef kw kh wn rn cn sh sh2 xn yn bins on mx)) ∧ Below W.heap.size W w' := by
 obtain ⟨B, hB⟩ : ∃ B, W.heap.size = B := ⟨_, rfl⟩; have HI0 := kq (St.init hB); obtain ⟨eb, heb⟩ := nK (decide (ep = 0 ∧ ef = 0)); have HEB := kq heb
 go_enter Tryz.func22, Tryz.ntmps22
 go_upto_region 1 with fail
 have H1 := kq (HI0.o.alloc #[.int .i64 3, .int .i64 sa, .int .i64 sb, .bool bar, .int .i64 ep, .int .i64 ef, .int .i64 kw, .int .i64 kh, .slice wa wn wc, .slice ra rn rc, .slice ca cn cc, .int .i64 sh, .int .i64 sh2, .slice xa xn xc, .slice ya yn yc, .int .i64 bins, .slice oa on oc, .int .i64 mx] 34 hB); first | refine gK H1 ?_ | refine gL H1 ?_ | refine gC H1 ?_
 clear H1; intro w1 H1
 rcases eqZ sb (-1) with ⟨c1a, c1b, c1c, c1d, c1h⟩ | ⟨c1a, c1b, c1h⟩
 ·
  have z1 := cs18 H1.o 0 rfl; go_wp2_with fail
  clear z1; refine (edged_any _ _).mono ?_; rintro e w2 ⟨rfl, hsw⟩; have hsw2 : w1 = w2 := by first | exact hsw | exact hsw.symm
  clear hsw; subst hsw2; rw [show edOk 3 = true from by decide]; obtain ⟨D1, hD1⟩ := nK w1.heap.size; go_wp2_with fail
  have H2 := kq (H1.o.alloc #[.int .i64 1] 3 hD1); first | refine gK H2 ?_ | refine gL H2 ?_ | refine gC H2 ?_
  clear H2; intro w1 H2; clear hD1; refine (is_any _ _ _ [1] B _ _ (H2.o.lit 0 [1] rfl (by simp)) (by decide) (kq (H2.o.cell 1 rfl 0 rfl))).mono ?_; rintro e w1 ⟨rfl, hb⟩; have H3 := kq (H2.o.call hb); clear hb; rw [show isIn 3 [1] = false from by decide]; obtain ⟨D1, hD1⟩ := nK w1.heap.size; go_wp2_with fail
  have H2 := kq (H3.o.alloc #[.int .i64 2] 3 hD1); first | refine gK H2 ?_ | refine gL H2 ?_ | refine gC H2 ?_
  clear H2; intro w1 H2; clear hD1; refine (is_any _ _ _ [2] B _ _ (H2.o.lit 0 [2] rfl (by simp)) (by decide) (kq (H2.o.cell 2 rfl 0 rfl))).mono ?_; rintro e w1 ⟨rfl, hb⟩; have H3 := kq (H2.o.call hb); clear hb; rw [show isIn 3 [2] = false from by decide]; obtain ⟨D1, hD1⟩ := nK w1.heap.size; go_wp2_with fail
  have H2 := kq (H3.o.alloc #[.int .i64 3] 3 hD1); first | refine gK H2 ?_ | refine gL H2 ?_ | refine gC H2 ?_
  clear H2; intro w1 H2; clear hD1; refine (is_any _ _ _ [3] B _ _ (H2.o.lit 0 [3] rfl (by simp)) (by decide) (kq (H2.o.cell 3 rfl 0 rfl))).mono ?_; rintro e w1 ⟨rfl, hb⟩; have H3 := kq (H2.o.call hb); clear hb; rw [show isIn 3 [3] = true from by decide]; obtain ⟨D1, hD1⟩ := nK w1.heap.size; go_wp2_with fail
  have H2 := kq (H3.o.alloc #[.int .i64 6] 3 hD1); first | refine gK H2 ?_ | refine gL H2 ?_ | refine gC H2 ?_
  clear H2; intro w1 H2; clear hD1; refine (is_any _ _ _ [6] B _ _ (H2.o.lit 0 [6] rfl (by simp)) (by decide) (kq (H2.o.cell 4 rfl 0 rfl))).mono ?_; rintro e w1 ⟨rfl, hb⟩; have H3 := kq (H2.o.call hb); clear hb; rw [show isIn 3 [6] = false from by decide]; go_upto_region 11 with fail
  first | refine wp_region_lit (wL_to ?_) | refine wp_seq (wp_region_lit (wL_to ?_))
  have z1 := cs18 H3.o 4 rfl; iterate 2 refine la ?_
  iterate 4 refine lu ?_
  iterate 6 refine la ?_
  rcases eqZ kw 0 with ⟨c2a, c2b, c2c, c2d, c2h⟩ | ⟨c2a, c2b, c2h⟩
  ·
   iterate 4 refine la ?_
   rcases eqZ kh 0 with ⟨c3a, c3b, c3c, c3d, c3h⟩ | ⟨c3a, c3b, c3h⟩
   ·
    iterate 6 refine la ?_
    rcases eqZ wn 0 with ⟨c4a, c4b, c4c, c4d, c4h⟩ | ⟨c4a, c4b, c4h⟩
    ·
     have c4e : (wn == 0) = true := by simp; omega
     have c4f : (wn != 0) = false := by simp; omega
     iterate 10 refine la ?_
     rcases eqZ rn 0 with ⟨c5a, c5b, c5c, c5d, c5h⟩ | ⟨c5a, c5b, c5h⟩
     ·
      have c5e : (rn == 0) = true := by simp; omega
      have c5f : (rn != 0) = false := by simp; omega
      iterate 5 refine la ?_
      rcases eqZ cn 0 with ⟨c6a, c6b, c6c, c6d, c6h⟩ | ⟨c6a, c6b, c6h⟩
      ·
       have c6e : (cn == 0) = true := by simp; omega
       have c6f : (cn != 0) = false := by simp; omega
       iterate 7 refine la ?_
       iterate 3 refine lu ?_
       iterate 8 refine la ?_
       iterate 3 refine lu ?_
       iterate 5 refine la ?_
       iterate 10 refine lu ?_
       iterate 4 refine la ?_
       obtain ⟨D1, hD1⟩ := nK w1.heap.size; refine lsB ?_; try simp only [pz]
       have H2 := kq (H3.o.alloc #[.int .i64 4] 3 hD1); clear hD1; generalize (w1.alloc (.cells #[.int .i64 4] 3)) = k1 at *; clear z1; have z19 := cs18 H2.o 5 rfl; refine lsC ?_; refine (is_any _ _ _ [4] B _ _ (H2.o.lit 0 [4] rfl (by simp)) (by decide) (kq (H2.o.cell 5 rfl 0 rfl))).mono ?_; rintro e w1 ⟨rfl, hb⟩; have H4 := kq (H2.o.call hb); clear hb; rw [show isIn 3 [4] = false from by decide]; refine ⟨_, rfl, ?_⟩; try simp only [pz]
       clear z19; have z19 := cs18 H4.o 5 rfl; iterate 3 refine la ?_
       rcases eqZ bins 0 with ⟨c7a, c7b, c7c, c7d, c7h⟩ | ⟨c7a, c7b, c7h⟩
       ·
        iterate 9 refine la ?_
        rcases eqZ on 0 with ⟨c8a, c8b, c8c, c8d, c8h⟩ | ⟨c8a, c8b, c8h⟩
        ·
         have c8e : (on == 0) = true := by simp; omega
         have c8f : (on != 0) = false := by simp; omega
         iterate 6 refine la ?_
         refine lu ?_; iterate 2 refine la ?_
         iterate 3 refine lu ?_
         iterate 3 refine la ?_
         refine wL_nil ?_; clear z19; go_wp2_with fail
         have he0 := HEB.o; try simp only [dQ] at he0
         go_ret
         exact ⟨ret_b (by unfold sfOk; have := c1h.o; have := c2h.o; have := c3h.o; have := c4h.o; have := c5h.o; have := c6h.o; have := c7h.o; have := c8h.o; exact (decide_eq_true (by omega)).symm), H4.o.bl⟩
        have c8e : (on == 0) = false := by have h9 := c8h.o; simp; omega
        have c8f : (on != 0) = true := by have h9 := c8h.o; simp; omega
        iterate 4 refine la ?_
        iterate 9 refine lu ?_
        iterate 2 refine la ?_
        refine wL_nil ?_; clear z19; go_wp2_with fail
        have he0 := HEB.o; try simp only [dQ] at he0
        go_ret
        exact ⟨ret_b (by unfold sfOk; have := c1h.o; have := c2h.o; have := c3h.o; have := c4h.o; have := c5h.o; have := c6h.o; have := c7h.o; have := c8h.o; exact (decide_eq_false (by omega)).symm), H4.o.bl⟩
       iterate 4 refine la ?_
       iterate 7 refine lu ?_
       iterate 2 refine la ?_
       iterate 9 refine lu ?_
       iterate 2 refine la ?_
       refine wL_nil ?_; clear z19; go_wp2_with fail
       have he0 := HEB.o; try simp only [dQ] at he0
       go_ret
       exact ⟨ret_b (by unfold sfOk; have := c1h.o; have := c2h.o; have := c3h.o; have := c4h.o; have := c5h.o; have := c6h.o; have := c7h.o; exact (decide_eq_false (by omega)).symm), H4.o.bl⟩
      have c6e : (cn == 0) = false := by have h9 := c6h.o; simp; omega
      have c6f : (cn != 0) = true := by have h9 := c6h.o; simp; omega
      iterate 5 refine la ?_
      iterate 6 refine lu ?_
      iterate 2 refine la ?_
      iterate 9 refine lu ?_
      iterate 2 refine la ?_
      iterate 13 refine lu ?_
      iterate 2 refine la ?_
      iterate 8 refine lu ?_
      iterate 2 refine la ?_
      iterate 7 refine lu ?_
      iterate 2 refine la ?_
      iterate 9 refine lu ?_
      iterate 2 refine la ?_
      refine wL_nil ?_; clear z1; go_wp2_with fail
      have he0 := HEB.o; try simp only [dQ] at he0
      go_ret
      exact ⟨ret_b (by unfold sfOk; have := c1h.o; have := c2h.o; have := c3h.o; have := c4h.o; have := c5h.o; have := c6h.o; exact (decide_eq_false (by omega)).symm), H3.o.bl⟩
     have c5e : (rn == 0) = false := by have h9 := c5h.o; simp; omega
     have c5f : (rn != 0) = true := by have h9 := c5h.o; simp; omega
     iterate 2 refine la ?_
     iterate 4 refine lu ?_
     iterate 4 refine la ?_
     iterate 6 refine lu ?_
     iterate 2 refine la ?_
     iterate 9 refine lu ?_
     iterate 2 refine la ?_
     iterate 13 refine lu ?_
     iterate 2 refine la ?_
     iterate 8 refine lu ?_
     iterate 2 refine la ?_
     iterate 7 refine lu ?_
     iterate 2 refine la ?_
     iterate 9 refine lu ?_
     iterate 2 refine la ?_
     refine wL_nil ?_; clear z1; go_wp2_with fail
     have he0 := HEB.o; try simp only [dQ] at he0
     go_ret
     exact ⟨ret_b (by unfold sfOk; have := c1h.o; have := c2h.o; have := c3h.o; have := c4h.o; have := c5h.o; exact (decide_eq_false (by omega)).symm), H3.o.bl⟩
    have c4e : (wn == 0) = false := by have h9 := c4h.o; simp; omega
    have c4f : (wn != 0) = true := by have h9 := c4h.o; simp; omega
    iterate 5 refine la ?_
    iterate 13 refine lu ?_
    iterate 2 refine la ?_
    iterate 6 refine lu ?_
    iterate 2 refine la ?_
    iterate 9 refine lu ?_
    iterate 2 refine la ?_
    iterate 13 refine lu ?_
    iterate 2 refine la ?_
    iterate 8 refine lu ?_
    iterate 2 refine la ?_
    iterate 7 refine lu ?_
    iterate 2 refine la ?_
    iterate 9 refine lu ?_
    iterate 2 refine la ?_
    refine wL_nil ?_; clear z1; go_wp2_with fail
    have he0 := HEB.o; try simp only [dQ] at he0
    go_ret
    exact ⟨ret_b (by unfold sfOk; have := c1h.o; have := c2h.o; have := c3h.o; have := c4h.o; exact (decide_eq_false (by omega)).symm), H3.o.bl⟩
   iterate 3 refine la ?_
   iterate 4 refine lu ?_
   iterate 4 refine la ?_
   iterate 13 refine lu ?_
   iterate 2 refine la ?_
   iterate 6 refine lu ?_
   iterate 2 refine la ?_
   iterate 9 refine lu ?_
   iterate 2 refine la ?_
   iterate 13 refine lu ?_
   iterate 2 refine la ?_
   iterate 8 refine lu ?_
   iterate 2 refine la ?_
   iterate 7 refine lu ?_
   iterate 2 refine la ?_
   iterate 9 refine lu ?_
   iterate 2 refine la ?_
   refine wL_nil ?_; clear z1; go_wp2_with fail
   have he0 := HEB.o; try simp only [dQ] at he0
   go_ret
   exact ⟨ret_b (by unfold sfOk; have := c1h.o; have := c2h.o; have := c3h.o; exact (decide_eq_false (by omega)).symm), H3.o.bl⟩
  iterate 2 refine la ?_
  iterate 3 refine lu ?_
  iterate 2 refine la ?_
  iterate 4 refine lu ?_
  iterate 4 refine la ?_
  iterate 13 refine lu ?_
  iterate 2 refine la ?_
  iterate 6 refine lu ?_
  iterate 2 refine la ?_
  iterate 9 refine lu ?_
  iterate 2 refine la ?_
  iterate 13 refine lu ?_
  iterate 2 refine la ?_
  iterate 8 refine lu ?_
  iterate 2 refine la ?_
  iterate 7 refine lu ?_
  iterate 2 refine la ?_
  iterate 9 refine lu ?_
  iterate 2 refine la ?_
  refine wL_nil ?_; clear z1; go_wp2_with fail
  have he0 := HEB.o; try simp only [dQ] at he0
  go_ret
  exact ⟨ret_b (by unfold sfOk; have := c1h.o; have := c2h.o; exact (decide_eq_false (by omega)).symm), H3.o.bl⟩
 have z1 := cs18 H1.o 0 rfl; go_wp2_with fail
 clear z1; have he0 := HEB.o; try simp only [dQ] at he0
 go_ret
 exact ⟨ret_b (by unfold sfOk; have := c1h.o; exact (decide_eq_false (by omega)).symm), H1.o.bl⟩
end Go.Proofs.YteejjnhlfgjlaaaGreat
