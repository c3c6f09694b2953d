/-
 Contracts: which programs are valid, in the program and in the reference. Contracts: the value of a program, in the program. Contracts: the value of a program, with its errors, in the program and in the reference.
-/
import Derived.Test.YteejjnhlfgjlaaaGreatPA
import Derived.Test.YteejjnhlfgjlaaaGreatKI
namespace Go.Proofs.YteejjnhlfgjlaaaGreat
section
open Go.RowKit
attribute [local go_sem ↓] Go.wp_at_zero Go.wp_at_succ
set_option linter.unusedVariables false
set_option linter.unusedSimpArgs false

theorem drop_one {zs : List (Int × Int)} {j : Nat} {oc og : Int} (hj : j < zs.length) (h : zs.getD j (0, 0) = (oc, og)) : zs.drop j = (oc, og) :: zs.drop (j + 1) := by
 rw [List.drop_eq_getElem_cons hj, ← h, List.getD_eq_getElem?_getD, List.getElem?_eq_getElem hj]
 rfl

set_option maxRecDepth 100000 in
set_option maxHeartbeats 3200000 in
theorem pvalid_any14 (a : Option Addr) (n c : Nat) (zs : List (Int × Int)) (two : Bool) (W : World) (hs : Prs W a n c zs) : Calls Tryz.prog 65 #[.slice a n c, .bool two] W fun e w' => e = .returned (.int .i64 (vCode zs two)) ∧ Below W.heap.size W w' := by
 obtain ⟨B, hB⟩ : ∃ B, W.heap.size = B := ⟨_, rfl⟩; have HI0 := kq (St.init hB); have HS := kq hs; have HL := kq hs.len; have nmx : (n : Int) ≤ 9223372036854775807 := by have := hs.nc; have := hs.cap; omega
 clear hs
 go_enter Tryz.func65, Tryz.ntmps65
 rcases eqZ n 0 with ⟨c1a, c1b, c1c, c1d, c1h⟩ | ⟨c1a, c1b, c1h⟩
 ·
  go_wp2_with fail
  go_ret
  exact ⟨ret_i (by unfold vCode; rw [if_pos (by have := HL.o; have := c1h.o; omega)]), HI0.o.bl⟩
 by_cases c2 : (32 : Int) < n
 ·
  go_wp2_with fail
  go_ret
  exact ⟨ret_i (by unfold vCode; rw [if_pos (by have := HL.o; have := c1h.o; omega)]), HI0.o.bl⟩
 go_wp2_with fail
 have HV := kq (show vCode zs two = vGo zs two 0 from by unfold vCode; rw [if_neg (by have := HL.o; have := c1h.o; omega)])
 go_loopw [20, 5] (fun i p wr => ∃ (j d : Nat), j ≤ n ∧ d ≤ j ∧ i = .int .i64 j ∧ p = .int .i64 d ∧ vGo (zs.drop j) two d = vGo zs two 0 ∧ St B W [] [] wr) (fun i _ _ => n - (intOf i).toNat)
 case atStart => exact ⟨0, 0, by omega, by omega, rfl, rfl, rfl, HI0.o⟩
 case round =>
  obtain ⟨j, d, hj, hd, rfl, rfl, hg, hst⟩ := hrel; obtain ⟨u3, rfl⟩ : ∃ u3 : World, u3 = wr := ⟨_, rfl⟩; have H4 := kq hst; clear hst; have HG := kq hg; clear hg; by_cases hjn : j < n
  ·
   have hjn' : (j : Int) < n := by omega
   obtain ⟨pb, po, hpa⟩ := (H4.o.oldPrs HS.o).at (by omega); subst hpa; obtain ⟨cz0, cz1⟩ := (H4.o.oldPrs HS.o).get (i := j) hjn; obtain ⟨oc, og, hoo⟩ : ∃ x y, zs.getD j (0, 0) = (x, y) := ⟨_, _, rfl⟩; have HD := kq (drop_one (by rw [← HL.o]; exact hjn) hoo); rw [hoo] at cz0 cz1
   dsimp only at cz0 cz1
   clear hoo; obtain ⟨D5, hD5⟩ := nK u3.heap.size; go_upto_region 7 with fail
   have H6 := kq (H4.o.alloc #[.int .i64 oc, .int .i64 og] 61 hD5); first | refine gK H6 ?_ | refine gL H6 ?_ | refine gC H6 ?_
   clear H6; intro w7 H6; clear hD5; have z8 := H6.o.c2 0 rfl; go_wp2_with fail
   clear z8; refine (ptakes_any _ _).mono ?_; rintro e w1 ⟨rfl, hsw⟩; have hsw2 : w7 = w1 := by first | exact hsw | exact hsw.symm
   clear hsw; subst hsw2; obtain ⟨b1, HNb1⟩ := nQ (pwIs oc); rw [HNb1.o]; have hkl := pwK_le oc; obtain ⟨k1, hk1⟩ : ∃ xx' : Int, (if b1 = true then (pwK oc : Int) else 0) = xx' := ⟨_, rfl⟩; rw [hk1]; have HK0 := kq (show b1 = true → k1 = (pwK oc : Int) from fun h => by rw [← hk1, if_pos h]); obtain ⟨kn1, kn2⟩ : 0 ≤ k1 ∧ k1 ≤ 2 := by rw [← hk1]; split <;> omega
   clear hk1 hkl; cases b1; rotate_left
   ·
    rcases eqZ oc 1 with ⟨c3a, c3b, c3c, c3d, c3h⟩ | ⟨c3a, c3b, c3h⟩
    ·
     cases two; rotate_left
     ·
      by_cases c4 : (d : Int) < k1
      ·
       have z1 := H6.o.c2 0 rfl; go_wp2_with fail
       clear z1
       go_ret
       exact ⟨ret_i (by first | (rw [HV.o, ← HG.o, HE.o]; unfold vGo; rw [if_neg (by have := c1h.o; have := c3h.o; omega)]) | (rw [HV.o, ← HG.o, HD.o, vGo_rec, if_pos (show ¬ (0 ≤ oc ∧ oc ≤ 11) ∨ (oc = 1 ∧ true = false) ∨ d < pwK oc from by first | (exact Or.inl (fun hc => by have h1 := HNb1.o; unfold pwIs at h1; have h2 := of_decide_eq_false h1; exact h2 hc)) | (exact Or.inl (by have := c1h.o; have := c3h.o; omega)) | (exact Or.inr (Or.inl ⟨by have := c1h.o; have := c3h.o; omega, rfl⟩)) | (exact Or.inr (Or.inr (by have := (show k1 = (pwK oc : Int) from by first | exact HK0.o rfl | exact HK0.o trivial); have := c1h.o; have := c3h.o; omega))))])), H6.o.bl⟩
      have HK := kq (show k1 = (pwK oc : Int) from by first | exact HK0.o rfl | exact HK0.o trivial); have hc1 : 0 ≤ oc ∧ oc ≤ 11 := by have := HNb1.o; simpa [pwIs] using this
      have HNO := kq (show ¬ (¬ (0 ≤ oc ∧ oc ≤ 11) ∨ (oc = 1 ∧ true = false) ∨ d < pwK oc) from by
       rintro (h | h | h)
       ·
        exact h hc1
       ·
        first | (cases h.2; done) | (have h1 := h.1; have := c1h.o; have := c3h.o;  omega)
       have := HK.o; omega)
      clear hc1; have z1 := H6.o.c2 0 rfl; go_wp2_with fail
      clear z1; refine (pargument_any _ _ _).mono ?_; rintro e w1 ⟨rfl, hb⟩; have H1 := kq (H6.o.call hb); clear hb; obtain ⟨b1, HNb2⟩ := nQ (pwArg oc og); rw [HNb2.o]; cases b1; rotate_left
      ·
       go_wp2_with fail
       go_roundw
       case rel => exact ⟨j + 1, d + 1 - pwK oc, by omega, by omega, by go_num, congrArg (Value.int .i64) (by have := HK.o; omega), by rw [← HG.o, HD.o, vGo_rec, if_neg HNO.o, if_pos HNb2.o], H1.o.pick [] rfl (by decide)⟩
       case measure => first | (simp [intOf]; omega) | (simp [intOf]; done)
      go_wp2_with fail
      go_ret
      exact ⟨ret_i (by rw [HV.o, ← HG.o, HD.o, vGo_rec, if_neg HNO.o, if_neg (by rw [HNb2.o]; simp)]), H1.o.bl⟩
     have z1 := H6.o.c2 0 rfl; go_wp2_with fail
     clear z1
     go_ret
     exact ⟨ret_i (by first | (rw [HV.o, ← HG.o, HE.o]; unfold vGo; rw [if_neg (by have := c1h.o; have := c3h.o; omega)]) | (rw [HV.o, ← HG.o, HD.o, vGo_rec, if_pos (show ¬ (0 ≤ oc ∧ oc ≤ 11) ∨ (oc = 1 ∧ false = false) ∨ d < pwK oc from by first | (exact Or.inl (fun hc => by have h1 := HNb1.o; unfold pwIs at h1; have h2 := of_decide_eq_false h1; exact h2 hc)) | (exact Or.inl (by have := c1h.o; have := c3h.o; omega)) | (exact Or.inr (Or.inl ⟨by have := c1h.o; have := c3h.o; omega, rfl⟩)) | (exact Or.inr (Or.inr (by have := (show k1 = (pwK oc : Int) from by first | exact HK0.o rfl | exact HK0.o trivial); have := c1h.o; have := c3h.o; omega))))])), H6.o.bl⟩
    by_cases c4 : (d : Int) < k1
    ·
     have z1 := H6.o.c2 0 rfl; go_wp2_with fail
     clear z1
     go_ret
     exact ⟨ret_i (by first | (rw [HV.o, ← HG.o, HE.o]; unfold vGo; rw [if_neg (by have := c1h.o; have := c3h.o; omega)]) | (rw [HV.o, ← HG.o, HD.o, vGo_rec, if_pos (show ¬ (0 ≤ oc ∧ oc ≤ 11) ∨ (oc = 1 ∧ two = false) ∨ d < pwK oc from by first | (exact Or.inl (fun hc => by have h1 := HNb1.o; unfold pwIs at h1; have h2 := of_decide_eq_false h1; exact h2 hc)) | (exact Or.inl (by have := c1h.o; have := c3h.o; omega)) | (exact Or.inr (Or.inl ⟨by have := c1h.o; have := c3h.o; omega, rfl⟩)) | (exact Or.inr (Or.inr (by have := (show k1 = (pwK oc : Int) from by first | exact HK0.o rfl | exact HK0.o trivial); have := c1h.o; have := c3h.o; omega))))])), H6.o.bl⟩
    have HK := kq (show k1 = (pwK oc : Int) from by first | exact HK0.o rfl | exact HK0.o trivial); have hc1 : 0 ≤ oc ∧ oc ≤ 11 := by have := HNb1.o; simpa [pwIs] using this
    have HNO := kq (show ¬ (¬ (0 ≤ oc ∧ oc ≤ 11) ∨ (oc = 1 ∧ two = false) ∨ d < pwK oc) from by
     rintro (h | h | h)
     ·
      exact h hc1
     ·
      first | (cases h.2; done) | (have h1 := h.1; have := c1h.o; have := c3h.o;  omega)
     have := HK.o; omega)
    clear hc1; have z1 := H6.o.c2 0 rfl; go_wp2_with fail
    clear z1; refine (pargument_any _ _ _).mono ?_; rintro e w1 ⟨rfl, hb⟩; have H1 := kq (H6.o.call hb); clear hb; obtain ⟨b1, HNb2⟩ := nQ (pwArg oc og); rw [HNb2.o]; cases b1; rotate_left
    ·
     go_wp2_with fail
     go_roundw
     case rel => exact ⟨j + 1, d + 1 - pwK oc, by omega, by omega, by go_num, congrArg (Value.int .i64) (by have := HK.o; omega), by rw [← HG.o, HD.o, vGo_rec, if_neg HNO.o, if_pos HNb2.o], H1.o.pick [] rfl (by decide)⟩
     case measure => first | (simp [intOf]; omega) | (simp [intOf]; done)
    go_wp2_with fail
    go_ret
    exact ⟨ret_i (by rw [HV.o, ← HG.o, HD.o, vGo_rec, if_neg HNO.o, if_neg (by rw [HNb2.o]; simp)]), H1.o.bl⟩
   go_wp2_with fail
   go_ret
   exact ⟨ret_i (by first | (rw [HV.o, ← HG.o, HE.o]; unfold vGo; rw [if_neg (by have := c1h.o; omega)]) | (rw [HV.o, ← HG.o, HD.o, vGo_rec, if_pos (show ¬ (0 ≤ oc ∧ oc ≤ 11) ∨ (oc = 1 ∧ two = false) ∨ d < pwK oc from by first | (exact Or.inl (fun hc => by have h1 := HNb1.o; unfold pwIs at h1; have h2 := of_decide_eq_false h1; exact h2 hc)) | (exact Or.inl (by have := c1h.o; omega)) | (exact Or.inr (Or.inl ⟨by have := c1h.o; omega, rfl⟩)) | (exact Or.inr (Or.inr (by have := (show k1 = (pwK oc : Int) from by first | exact HK0.o rfl | exact HK0.o trivial); have := c1h.o; omega))))])), H6.o.bl⟩
  have hjn' : ¬ ((j : Int) < n) := by omega
  have HE := kq (show zs.drop j = [] from List.drop_eq_nil_of_le (by have := HL.o; omega))
  rcases eqZ d 1 with ⟨c32a, c32b, c32c, c32d, c32h⟩ | ⟨c32a, c32b, c32h⟩
  ·
   go_wp2_with fail
   go_ret
   exact ⟨ret_i (by rw [HV.o, ← HG.o, HE.o]; unfold vGo; rw [if_pos (by have := c1h.o; have := c32h.o; omega)]), H4.o.bl⟩
  go_wp2_with fail
  go_ret
  exact ⟨ret_i (by first | (rw [HV.o, ← HG.o, HE.o]; unfold vGo; rw [if_neg (by have := c1h.o; have := c32h.o; omega)]) | (rw [HV.o, ← HG.o, HD.o, vGo_rec, if_pos (show ¬ (0 ≤ oc ∧ oc ≤ 11) ∨ (oc = 1 ∧ two = false) ∨ d < pwK oc from by first | (exact Or.inl (fun hc => by have h1 := HNb.o; unfold pwIs at h1; have h2 := of_decide_eq_false h1; exact h2 hc)) | (exact Or.inl (by have := c1h.o; have := c32h.o; omega)) | (exact Or.inr (Or.inl ⟨by have := c1h.o; have := c32h.o; omega, rfl⟩)))])), H4.o.bl⟩

set_option maxRecDepth 100000 in
set_option maxHeartbeats 3200000 in
theorem rvalid_any14 (a : Option Addr) (n c : Nat) (zs : List (Int × Int)) (two : Bool) (W : World) (hs : Prs W a n c zs) : Calls Tryz.prog 96 #[.slice a n c, .bool two] W fun e w' => e = .returned (.int .i64 (vCode zs two)) ∧ Below W.heap.size W w' := by
 obtain ⟨B, hB⟩ : ∃ B, W.heap.size = B := ⟨_, rfl⟩; have HI0 := kq (St.init hB); have HS := kq hs; have HL := kq hs.len; have nmx : (n : Int) ≤ 9223372036854775807 := by have := hs.nc; have := hs.cap; omega
 clear hs
 go_enter Tryz.func96, Tryz.ntmps96
 rcases eqZ n 0 with ⟨c1a, c1b, c1c, c1d, c1h⟩ | ⟨c1a, c1b, c1h⟩
 ·
  go_wp2_with fail
  go_ret
  exact ⟨ret_i (by unfold vCode; rw [if_pos (by have := HL.o; have := c1h.o; omega)]), HI0.o.bl⟩
 by_cases c3 : (32 : Int) < n
 ·
  go_wp2_with fail
  go_ret
  exact ⟨ret_i (by unfold vCode; rw [if_pos (by have := HL.o; have := c1h.o; omega)]), HI0.o.bl⟩
 go_wp2_with fail
 have HV := kq (show vCode zs two = vGo zs two 0 from by unfold vCode; rw [if_neg (by have := HL.o; have := c1h.o; omega)])
 go_loopw [6, 5] (fun i p wr => ∃ (j d : Nat), j ≤ n ∧ d ≤ j ∧ i = .int .i64 j ∧ p = .int .i64 d ∧ vGo (zs.drop j) two d = vGo zs two 0 ∧ St B W [] [] wr) (fun i _ _ => n - (intOf i).toNat)
 case atStart => exact ⟨0, 0, by omega, by omega, rfl, rfl, rfl, HI0.o⟩
 case round =>
  obtain ⟨j, d, hj, hd, rfl, rfl, hg, hst⟩ := hrel; obtain ⟨u1, rfl⟩ : ∃ u1 : World, u1 = wr := ⟨_, rfl⟩; have H1 := kq hst; clear hst; have HG := kq hg; clear hg; by_cases hjn : j < n
  ·
   have hjn' : (j : Int) < n := by omega
   obtain ⟨pb, po, hpa⟩ := (H1.o.oldPrs HS.o).at (by omega); subst hpa; obtain ⟨cz0, cz1⟩ := (H1.o.oldPrs HS.o).get (i := j) hjn; obtain ⟨oc, og, hoo⟩ : ∃ x y, zs.getD j (0, 0) = (x, y) := ⟨_, _, rfl⟩; have HD := kq (drop_one (by rw [← HL.o]; exact hjn) hoo); rw [hoo] at cz0 cz1
   dsimp only at cz0 cz1
   clear hoo; obtain ⟨D1, hD1⟩ := nK u1.heap.size; go_upto_region 8 with fail
   have H2 := kq (H1.o.alloc #[.int .i64 oc, .int .i64 og] 61 hD1); first | refine gK H2 ?_ | refine gL H2 ?_ | refine gC H2 ?_
   clear H2; intro w1 H2; clear hD1; by_cases c3 : (oc : Int) < 0
   ·
    have z1 := H2.o.c2 0 rfl; go_wp2_with fail
    clear z1
    go_ret
    exact ⟨ret_i (by first | (rw [HV.o, ← HG.o, HE.o]; unfold vGo; rw [if_neg (by have := c1h.o; omega)]) | (rw [HV.o, ← HG.o, HD.o, vGo_rec, if_pos (show ¬ (0 ≤ oc ∧ oc ≤ 11) ∨ (oc = 1 ∧ two = false) ∨ d < pwK oc from by first | (exact Or.inl (by have := c1h.o; omega)) | (exact Or.inr (Or.inl ⟨by have := c1h.o; omega, rfl⟩)))])), H2.o.bl⟩
   by_cases c3 : (11 : Int) < oc
   ·
    have z1 := H2.o.c2 0 rfl; go_wp2_with fail
    clear z1
    go_ret
    exact ⟨ret_i (by first | (rw [HV.o, ← HG.o, HE.o]; unfold vGo; rw [if_neg (by have := c1h.o; omega)]) | (rw [HV.o, ← HG.o, HD.o, vGo_rec, if_pos (show ¬ (0 ≤ oc ∧ oc ≤ 11) ∨ (oc = 1 ∧ two = false) ∨ d < pwK oc from by first | (exact Or.inl (by have := c1h.o; omega)) | (exact Or.inr (Or.inl ⟨by have := c1h.o; omega, rfl⟩)))])), H2.o.bl⟩
   rcases eqZ oc 1 with ⟨c3a, c3b, c3c, c3d, c3h⟩ | ⟨c3a, c3b, c3h⟩
   ·
    cases two; rotate_left
    ·
     have z1 := H2.o.c2 0 rfl; go_wp2_with fail
     clear z1; refine (rtakes_any _ _).mono ?_; rintro e w2 ⟨rfl, hsw⟩; have hsw2 : w1 = w2 := by first | exact hsw | exact hsw.symm
     clear hsw; subst hsw2; obtain ⟨k1, HNk1⟩ := nQ ((pwK oc : Nat) : Int); rw [HNk1.o]; have hkl := pwK_le oc; have HK := kq (show k1 = (pwK oc : Int) from HNk1.o.symm); obtain ⟨kn1, kn2⟩ : 0 ≤ k1 ∧ k1 ≤ 2 := by have := HK.o; omega
     clear hkl; by_cases c4 : (d : Int) < k1
     ·
      go_wp2_with fail
      go_ret
      exact ⟨ret_i (by first | (rw [HV.o, ← HG.o, HE.o]; unfold vGo; rw [if_neg (by have := c1h.o; have := c3h.o; omega)]) | (rw [HV.o, ← HG.o, HD.o, vGo_rec, if_pos (show ¬ (0 ≤ oc ∧ oc ≤ 11) ∨ (oc = 1 ∧ true = false) ∨ d < pwK oc from by first | (exact Or.inl (by have := c1h.o; have := c3h.o; omega)) | (exact Or.inr (Or.inl ⟨by have := c1h.o; have := c3h.o; omega, rfl⟩)) | (exact Or.inr (Or.inr (by have := HK.o; have := c1h.o; have := c3h.o; omega))))])), H2.o.bl⟩
     have hc1 : 0 ≤ oc ∧ oc ≤ 11 := by have := c1h.o; have := c3h.o; omega
     have HNO := kq (show ¬ (¬ (0 ≤ oc ∧ oc ≤ 11) ∨ (oc = 1 ∧ true = false) ∨ d < pwK oc) from by
      rintro (h | h | h)
      ·
       exact h hc1
      ·
       first | (cases h.2; done) | (have h1 := h.1; have := c1h.o; have := c3h.o;  omega)
      have := HK.o; omega)
     clear hc1; have z1 := H2.o.c2 0 rfl; go_wp2_with fail
     clear z1; refine (rargument_any _ _ _).mono ?_; rintro e w2 ⟨rfl, hb⟩; have H3 := kq (H2.o.call hb); clear hb; obtain ⟨b1, HNb1⟩ := nQ (pwArg oc og); rw [HNb1.o]; cases b1; rotate_left
     ·
      have z1 := H3.o.c2 0 rfl; go_wp2_with fail
      clear z1; refine (rtakes_any _ _).mono ?_; rintro e w3 ⟨rfl, hsw⟩; have hsw2 : w2 = w3 := by first | exact hsw | exact hsw.symm
      clear hsw; subst hsw2; rw [HNk1.o]; go_wp2_with fail
      go_roundw
      case rel => exact ⟨j + 1, d + 1 - pwK oc, by omega, by omega, by go_num, congrArg (Value.int .i64) (by have := HK.o; omega), by rw [← HG.o, HD.o, vGo_rec, if_neg HNO.o, if_pos HNb1.o], H3.o.pick [] rfl (by decide)⟩
      case measure => first | (simp [intOf]; omega) | (simp [intOf]; done)
     go_wp2_with fail
     go_ret
     exact ⟨ret_i (by rw [HV.o, ← HG.o, HD.o, vGo_rec, if_neg HNO.o, if_neg (by rw [HNb1.o]; simp)]), H3.o.bl⟩
    have z1 := H2.o.c2 0 rfl; go_wp2_with fail
    clear z1
    go_ret
    exact ⟨ret_i (by first | (rw [HV.o, ← HG.o, HE.o]; unfold vGo; rw [if_neg (by have := c1h.o; have := c3h.o; omega)]) | (rw [HV.o, ← HG.o, HD.o, vGo_rec, if_pos (show ¬ (0 ≤ oc ∧ oc ≤ 11) ∨ (oc = 1 ∧ false = false) ∨ d < pwK oc from by first | (exact Or.inl (by have := c1h.o; have := c3h.o; omega)) | (exact Or.inr (Or.inl ⟨by have := c1h.o; have := c3h.o; omega, rfl⟩)))])), H2.o.bl⟩
   have z1 := H2.o.c2 0 rfl; go_wp2_with fail
   clear z1; refine (rtakes_any _ _).mono ?_; rintro e w64 ⟨rfl, hsw⟩; have hsw2 : w1 = w64 := by first | exact hsw | exact hsw.symm
   clear hsw; subst hsw2; obtain ⟨k1, HNk1⟩ := nQ ((pwK oc : Nat) : Int); rw [HNk1.o]; have hkl := pwK_le oc; have HK := kq (show k1 = (pwK oc : Int) from HNk1.o.symm); obtain ⟨kn1, kn2⟩ : 0 ≤ k1 ∧ k1 ≤ 2 := by have := HK.o; omega
   clear hkl; by_cases c4 : (d : Int) < k1
   ·
    go_wp2_with fail
    go_ret
    exact ⟨ret_i (by first | (rw [HV.o, ← HG.o, HE.o]; unfold vGo; rw [if_neg (by have := c1h.o; have := c3h.o; omega)]) | (rw [HV.o, ← HG.o, HD.o, vGo_rec, if_pos (show ¬ (0 ≤ oc ∧ oc ≤ 11) ∨ (oc = 1 ∧ two = false) ∨ d < pwK oc from by first | (exact Or.inl (by have := c1h.o; have := c3h.o; omega)) | (exact Or.inr (Or.inl ⟨by have := c1h.o; have := c3h.o; omega, rfl⟩)) | (exact Or.inr (Or.inr (by have := HK.o; have := c1h.o; have := c3h.o; omega))))])), H2.o.bl⟩
   have hc1 : 0 ≤ oc ∧ oc ≤ 11 := by have := c1h.o; have := c3h.o; omega
   have HNO := kq (show ¬ (¬ (0 ≤ oc ∧ oc ≤ 11) ∨ (oc = 1 ∧ two = false) ∨ d < pwK oc) from by
    rintro (h | h | h)
    ·
     exact h hc1
    ·
     first | (cases h.2; done) | (have h1 := h.1; have := c1h.o; have := c3h.o;  omega)
    have := HK.o; omega)
   clear hc1; have z1 := H2.o.c2 0 rfl; go_wp2_with fail
   clear z1; refine (rargument_any _ _ _).mono ?_; rintro e w1 ⟨rfl, hb⟩; have H3 := kq (H2.o.call hb); clear hb; obtain ⟨b1, HNb1⟩ := nQ (pwArg oc og); rw [HNb1.o]; cases b1; rotate_left
   ·
    have z1 := H3.o.c2 0 rfl; go_wp2_with fail
    clear z1; refine (rtakes_any _ _).mono ?_; rintro e w2 ⟨rfl, hsw⟩; have hsw2 : w1 = w2 := by first | exact hsw | exact hsw.symm
    clear hsw; subst hsw2; rw [HNk1.o]; go_wp2_with fail
    go_roundw
    case rel => exact ⟨j + 1, d + 1 - pwK oc, by omega, by omega, by go_num, congrArg (Value.int .i64) (by have := HK.o; omega), by rw [← HG.o, HD.o, vGo_rec, if_neg HNO.o, if_pos HNb1.o], H3.o.pick [] rfl (by decide)⟩
    case measure => first | (simp [intOf]; omega) | (simp [intOf]; done)
   go_wp2_with fail
   go_ret
   exact ⟨ret_i (by rw [HV.o, ← HG.o, HD.o, vGo_rec, if_neg HNO.o, if_neg (by rw [HNb1.o]; simp)]), H3.o.bl⟩
  have hjn' : ¬ ((j : Int) < n) := by omega
  have HE := kq (show zs.drop j = [] from List.drop_eq_nil_of_le (by have := HL.o; omega))
  rcases eqZ d 1 with ⟨c3a, c3b, c3c, c3d, c3h⟩ | ⟨c3a, c3b, c3h⟩
  ·
   go_wp2_with fail
   go_ret
   exact ⟨ret_i (by rw [HV.o, ← HG.o, HE.o]; unfold vGo; rw [if_pos (by have := c1h.o; have := c3h.o; omega)]), H1.o.bl⟩
  go_wp2_with fail
  go_ret
  exact ⟨ret_i (by first | (rw [HV.o, ← HG.o, HE.o]; unfold vGo; rw [if_neg (by have := c1h.o; have := c3h.o; omega)]) | (rw [HV.o, ← HG.o, HD.o, vGo_rec, if_pos (show ¬ (0 ≤ oc ∧ oc ≤ 11) ∨ (oc = 1 ∧ two = false) ∨ d < pwK oc from by first | (exact Or.inl (by have := c1h.o; have := c3h.o; omega)) | (exact Or.inr (Or.inl ⟨by have := c1h.o; have := c3h.o; omega, rfl⟩)))])), H1.o.bl⟩
end

section
open Go.RowKit
attribute [local go_sem ↓] Go.wp_at_zero Go.wp_at_succ
set_option linter.unusedVariables false
set_option linter.unusedSimpArgs false

theorem stk_take {α : Type} {st L : List α} {K T : Nat} (hL : L = st.reverse) (hT : T + K = st.length) (v : α) : L.take T ++ [v] = (v :: st.drop K).reverse := by
 rw [hL, List.take_reverse, List.reverse_cons, show st.length - T = K by omega]
theorem stk_get {α : Type} {st L : List α} {K T : Nat} (d : α) (hL : L = st.reverse) (h1 : 1 ≤ K) (hT : T + K = st.length) : L.getD T d = st.getD (K - 1) d := by
 rw [hL, List.getD_eq_getElem?_getD, List.getD_eq_getElem?_getD, List.getElem?_reverse (by omega), show st.length - 1 - T = K - 1 by omega]
def accL (st : List Int) : Prop := ∀ i, accOk (st.getD i 0) = true
theorem accL_nil : accL [] := fun i => by simp [accOk]
theorem accL_cons {v : Int} {st : List Int} (hv : accOk v = true) (h : accL st) (k : Nat) : accL (v :: st.drop k) := fun i => by
 cases i with
 | zero => exact hv
 | succ i =>
  have := h (k + i); rw [List.getD_eq_getElem?_getD] at this ⊢; simpa [List.getElem?_drop] using this
theorem eGo_rec (o : Int × Int) (l : List (Int × Int)) (st : List Int) (a b : Int) : eGo (o :: l) st a b = if accOk (pwVal o.1 o.2 (st.getD (pwK o.1 - 1) 0) (st.getD 0 0) a b) = true then eGo l (pwVal o.1 o.2 (st.getD (pwK o.1 - 1) 0) (st.getD 0 0) a b :: st.drop (pwK o.1)) a b else (0, 11) := rfl
theorem eGo_step {oc og u v w : Int} {l0 l : List (Int × Int)} {st : List Int} {R : Int × Int} (h : eGo l0 st u v = R) (hd : l0 = (oc, og) :: l) (hp : pwVal oc og (st.getD (pwK oc - 1) 0) (st.getD 0 0) u v = w) (ha : accOk w = true) : eGo l (w :: st.drop (pwK oc)) u v = R := by
 subst hd; rw [eGo_rec] at h
 dsimp only at h
 rw [hp, if_pos ha] at h; exact h
theorem eGo_stop {oc og u v w : Int} {l0 l : List (Int × Int)} {st : List Int} {R : Int × Int} (h : eGo l0 st u v = R) (hd : l0 = (oc, og) :: l) (hp : pwVal oc og (st.getD (pwK oc - 1) 0) (st.getD 0 0) u v = w) (ha : accOk w = false) : R = (0, 11) := by
 subst hd; rw [eGo_rec] at h
 dsimp only at h
 rw [hp, if_neg (by rw [ha]; simp)] at h; exact h.symm
theorem vGo_step {d k : Nat} {l : List (Int × Int)} (h : vGo l true (d + 1 - k) = 0) (hk : k ≤ d) {m : Nat} (hm : m + k = d + 1) : vGo l true m = 0 := by
 rw [← h]; congr 1; omega
theorem vGo_last {st : List Int} (h : vGo [] true st.length = 0) : st.length = 1 := by
 unfold vGo at h
 split at h
 ·
  assumption
 omega
theorem acc_arg {g : Int} (h : pwArg 2 g = true) : accOk g = true := by
 have : -4294967296 ≤ g ∧ g ≤ 4294967296 := by simpa [pwArg] using h
 rw [accOk_iff]; omega
end

section
open Go.RowKit
attribute [local go_sem ↓] Go.wp_at_zero Go.wp_at_succ
set_option linter.unusedVariables false
set_option linter.unusedSimpArgs false

theorem own_cases {B : Nat} {w : World} {sa : Option Addr} {ln sc : Nat} {L : List Int} (h : Own B w (.slice sa ln sc) L) (j n : Nat) :
  (j < n ∧ sa = none ∧ ln = 0 ∧ sc = 0 ∧ L = []) ∨ (j < n ∧ ∃ g, sa = some ⟨g, 0, none⟩) ∨ ¬ j < n := by
 by_cases hj : j < n
 ·
  rcases h.form with ⟨e, e0⟩ | ⟨g, c', e, _⟩
  ·
   cases e; exact .inl ⟨hj, rfl, rfl, rfl, e0⟩
  cases e; exact .inr (.inl ⟨hj, g, rfl⟩)
 exact .inr (.inr hj)
theorem pwVal_k0 {c : Int} (h : 0 ≤ c) (h' : pwK c = 0) (g x y x' y' a b : Int) : pwVal c g x y a b = pwVal c g x' y' a b := by
 have : c ≤ 2 := by unfold pwK at h'; split at h' <;> (try split at h') <;> omega
 unfold pwVal
 rcases (show c = 0 ∨ c = 1 ∨ c = 2 by omega) with rfl | rfl | rfl <;> rfl
theorem pwVal_k1 {c : Int} (h : c ≤ 11) (h' : pwK c = 1) (g x y y' a b : Int) : pwVal c g x y a b = pwVal c g x y' a b := by
 have : 10 ≤ c := by unfold pwK at h'; split at h' <;> (try split at h') <;> omega
 unfold pwVal
 rcases (show c = 10 ∨ c = 11 by omega) with rfl | rfl <;> rfl
theorem evR_bad {l : List (Int × Int)} {a b k : Int} (h : vCode l true = k) (hk : k ≠ 0) : evR l a b = (0, k) := by unfold evR; rw [h, if_pos hk]
theorem evR_range {l : List (Int × Int)} {a b : Int} (h : vCode l true = 0) (hk : ¬ (pixOk a = true ∧ pixOk b = true)) : evR l a b = (0, 2) := by unfold evR; rw [h, if_neg (by simp), if_pos hk]
theorem evR_go {l : List (Int × Int)} {a b : Int} (h : vCode l true = 0) (ha : pixOk a = true) (hb : pixOk b = true) : evR l a b = eGo l [] a b := by unfold evR; rw [h, if_neg (by simp), if_neg (by simp [ha, hb])]

set_option maxRecDepth 100000 in
set_option maxHeartbeats 6400000 in
theorem reval_any (a : Option Addr) (n c : Nat) (zs : List (Int × Int)) (u v : Int) (W : World) (hs : Prs W a n c zs) : Calls Tryz.prog 81 #[.slice a n c, .int .i64 u, .int .i64 v] W fun e w' => e = .returned (.tuple #[.int .i64 (evR zs u v).1, .int .i64 (evR zs u v).2]) ∧ Below W.heap.size W w' := by
 obtain ⟨B, hB⟩ : ∃ B, W.heap.size = B := ⟨_, rfl⟩; have HI0 := kq (St.init hB); have HS := kq hs; have HL := kq hs.len; have nmx : (n : Int) ≤ 9223372036854775807 := by have := hs.nc; have := hs.cap; omega
 clear hs
 go_enter Tryz.func81, Tryz.ntmps81
 go_wp2_with fail
 refine (rvalid_any14 _ _ _ _ true _ (HI0.o.oldPrs HS.o)).mono ?_; rintro e w1 ⟨rfl, hb⟩; have H1 := kq (HI0.o.call hb); clear hb; obtain ⟨k1, HNk1⟩ := nQ (vCode zs true); rw [HNk1.o]
 rcases eqZ k1 0 with ⟨c1a, c1b, c1c, c1d, c1h⟩ | ⟨c1a, c1b, c1h⟩
 ·
  by_cases c2 : (u : Int) < 0
  ·
   go_wp2_with fail
   go_ret2
   exact ⟨by rw [evR_range (by rw [HNk1.o]; have := c1h.o; omega) (by rw [pixOk_iff, pixOk_iff]; have := c1h.o; omega)]; rfl, H1.o.bl⟩
  by_cases c2 : (4294967296 : Int) < u
  ·
   go_wp2_with fail
   go_ret2
   exact ⟨by rw [evR_range (by rw [HNk1.o]; have := c1h.o; omega) (by rw [pixOk_iff, pixOk_iff]; have := c1h.o; omega)]; rfl, H1.o.bl⟩
  by_cases c2 : (v : Int) < 0
  ·
   go_wp2_with fail
   go_ret2
   exact ⟨by rw [evR_range (by rw [HNk1.o]; have := c1h.o; omega) (by rw [pixOk_iff, pixOk_iff]; have := c1h.o; omega)]; rfl, H1.o.bl⟩
  by_cases c2 : (4294967296 : Int) < v
  ·
   go_wp2_with fail
   go_ret2
   exact ⟨by rw [evR_range (by rw [HNk1.o]; have := c1h.o; omega) (by rw [pixOk_iff, pixOk_iff]; have := c1h.o; omega)]; rfl, H1.o.bl⟩
  go_wp2_with fail
  have HV := kq (show vCode zs true = 0 from by rw [HNk1.o]; have := c1h.o; omega); have HEV := kq (evR_go (l := zs) (a := u) (b := v) HV.o (pixOk_iff.2 (by have := c1h.o; omega)) (pixOk_iff.2 (by have := c1h.o; omega))); obtain ⟨n1, n2⟩ : 1 ≤ n ∧ n ≤ 32 := by have := vCode_zero.1 HV.o; have := HL.o; omega
  have H2 := kq (H1.o.grow (Below.refl _ _) (Own.nil _ _))
  go_loopw [10, 9] (fun i s wr => ∃ (j : Nat) (st L : List Int) (sa : Option Addr) (ln sc : Nat), j ≤ n ∧ i = .int .i64 j ∧ s = .slice sa ln sc ∧ L = st.reverse ∧ vGo (zs.drop j) true st.length = 0 ∧ eGo (zs.drop j) st u v = eGo zs [] u v ∧ st.length ≤ j ∧ accL st ∧ ln ≤ L.length ∧ L.length ≤ ln ∧ St B W [.own (.slice sa ln sc) L] [] wr) (fun i _ _ => n - (intOf i).toNat)
  case atStart => exact ⟨0, [], [], none, 0, 0, by omega, rfl, rfl, rfl, (vCode_zero.1 HV.o).2.2, rfl, by simp, accL_nil, by simp, by simp, H2.o⟩
  case round =>
   obtain ⟨j, st, L, sa, ln, sc, hj, rfl, rfl, hls, hvg, hg, hsl, ha, lx1, lx2, hst⟩ := hrel; obtain ⟨u1, rfl⟩ : ∃ u1 : World, u1 = wr := ⟨_, rfl⟩; have H2 := kq hst; clear hst; have HLS := kq hls; have HVG := kq hvg; have HG := kq hg; have HA := kq ha; obtain ⟨ll1, ll2⟩ : ln ≤ st.length ∧ st.length ≤ ln := by rw [hls, List.length_reverse] at lx1 lx2; omega
   clear hls hvg hg ha
   rcases own_cases (H2.o.own 0 rfl) j n with ⟨hjn, hsa, hln, hsc, hlz⟩ | ⟨hjn, g, hsa⟩ | hjn
   ·
    subst hsa; subst hln; subst hsc; clear hlz; have hjn' : (j : Int) < n := by omega
    obtain ⟨pb, po, hpa⟩ := (H2.o.oldPrs HS.o).at (by omega); subst hpa; obtain ⟨cz0, cz1⟩ := (H2.o.oldPrs HS.o).get (i := j) hjn; obtain ⟨oc, og, hoo⟩ : ∃ x y, zs.getD j (0, 0) = (x, y) := ⟨_, _, rfl⟩; have HD := kq (drop_one (by rw [← HL.o]; exact hjn) hoo); rw [hoo] at cz0 cz1
    dsimp only at cz0 cz1
    clear hoo; obtain ⟨oc0, oc1, hoA, hoK, hoG, hoV⟩ : 0 ≤ oc ∧ oc ≤ 11 ∧ (oc = 1 → true = true) ∧ pwK oc ≤ st.length ∧ pwArg oc og = true ∧ vGo (zs.drop (j + 1)) true (st.length + 1 - pwK oc) = 0 := vGo_cons (by rw [← HD.o]; exact HVG.o); have HARG := kq hoG; have HVR := kq hoV; have HKL := kq hoK; clear hoA hoK hoG hoV; go_wp2_with fail
    refine (rtakes_any _ _).mono ?_; rintro e w1 ⟨rfl, hsw⟩; have hsw2 : u1 = w1 := by first | exact hsw | exact hsw.symm
    clear hsw; subst hsw2; obtain ⟨k1, HNk2⟩ := nQ ((pwK oc : Nat) : Int); rw [HNk2.o]; go_upto_region 11 with fail
    have hk0 : pwK oc = 0 := by have := HKL.o; omega
    obtain rfl : k1 = 0 := by have := HNk2.o; omega
    clear HNk2; have HK0 := kq hk0; go_wp2_with fail
    refine (rapply_any _ _ _ _ _ _ _ ⟨oc0, oc1⟩ (by decide) (by decide)).mono ?_; rintro e w1 ⟨⟨v9, rfl, hv9⟩, hb⟩; have H3 := kq (H2.o.call hb); clear hb; obtain ⟨b1, hb1⟩ := nK (accOk (pwVal oc og 0 0 u v)); rw [hb1] at hv9 ⊢; have HNb1 := kq hb1; clear hb1; have HV9 := kq hv9; clear hv9; have HPP := kq (show pwVal oc og (st.getD (pwK oc - 1) 0) (st.getD 0 0) u v = pwVal oc og 0 0 u v from pwVal_k0 oc0 HK0.o _ _ _ _ _ _ _); cases b1; rotate_left
    ·
     have hv9 := (show v9 = _ from by first | exact HV9.o rfl | exact HV9.o trivial); have HPA := kq (show accOk v9 = true from by rw [hv9]; exact HNb1.o); have HPV := kq (HPP.o.trans hv9.symm); clear hv9; obtain ⟨D1, hD1⟩ := nK w1.heap.size; have H4 := kq (H3.o.alloc #[.int .i64 v9] 3 hD1); go_upto_region 9 with (at_builtin; refine append_int rfl _ _ rfl B _ L v9 D1 1 rfl rfl (H4.o.own 1 rfl) (H4.o.cell 0 rfl 0 rfl) (by first | (rw [List.length_take]; omega) | omega) H4.o.size ?_; intro v1 w1 ho hg hv; have H5 := kq (H4.o.append 1 rfl ho hg hv); clear ho hg hv)
     clear H4; obtain ⟨v1a, v1c, hva, _⟩ := (H5.o.own 1 rfl).slc; subst hva; have H4 := kq (show St B W [.own (.slice v1a ((L ++ [v9]).length) v1c) (L ++ [v9])] [] w1 from H5.o.pick [1] rfl (by decide)); clear hD1; go_wp2_with fail
     go_roundw
     case rel => exact ⟨j + 1, v9 :: st.drop (pwK oc), L ++ [v9], v1a, (L ++ [v9]).length, v1c, by omega, by go_num, rfl, by rw [HLS.o, HK0.o]; simp, vGo_step HVR.o HKL.o (by simp only [List.length_cons, List.length_drop]; have := HKL.o; omega), eGo_step HG.o HD.o HPV.o HPA.o, by simp only [List.length_cons, List.length_drop]; have := HKL.o; omega, accL_cons HPA.o HA.o _, by omega, by omega, H4.o.pick [0] rfl (by decide)⟩
     case measure => first | (simp [intOf]; omega) | (simp [intOf]; done)
    go_wp2_with fail
    go_ret2
    exact ⟨by rw [HEV.o, eGo_stop HG.o HD.o HPP.o HNb1.o]; rfl, H3.o.bl⟩
   ·
    subst hsa; have hjn' : (j : Int) < n := by omega
    obtain ⟨pb, po, hpa⟩ := (H2.o.oldPrs HS.o).at (by omega); subst hpa; obtain ⟨cz0, cz1⟩ := (H2.o.oldPrs HS.o).get (i := j) hjn; obtain ⟨oc, og, hoo⟩ : ∃ x y, zs.getD j (0, 0) = (x, y) := ⟨_, _, rfl⟩; have HD := kq (drop_one (by rw [← HL.o]; exact hjn) hoo); rw [hoo] at cz0 cz1
    dsimp only at cz0 cz1
    clear hoo; obtain ⟨oc0, oc1, hoA, hoK, hoG, hoV⟩ : 0 ≤ oc ∧ oc ≤ 11 ∧ (oc = 1 → true = true) ∧ pwK oc ≤ st.length ∧ pwArg oc og = true ∧ vGo (zs.drop (j + 1)) true (st.length + 1 - pwK oc) = 0 := vGo_cons (by rw [← HD.o]; exact HVG.o); have HARG := kq hoG; have HVR := kq hoV; have HKL := kq hoK; clear hoA hoK hoG hoV; go_wp2_with fail
    refine (rtakes_any _ _).mono ?_; rintro e w1 ⟨rfl, hsw⟩; have hsw2 : u1 = w1 := by first | exact hsw | exact hsw.symm
    clear hsw; subst hsw2; obtain ⟨k1, HNk2⟩ := nQ ((pwK oc : Nat) : Int); rw [HNk2.o]; go_upto_region 11 with fail
    rcases (show pwK oc = 0 ∨ pwK oc = 1 ∨ pwK oc = 2 by unfold pwK; split <;> (try split) <;> omega) with hk0 | hk0 | hk0
    ·
     obtain rfl : k1 = 0 := by have := HNk2.o; omega
     clear HNk2; have HK0 := kq hk0; obtain ⟨T, hT⟩ : ∃ T : Nat, (ln : Int) - 0 = T := ⟨ln - 0, by have := HKL.o; omega⟩; have HTK := kq (show T + pwK oc = st.length from by have := HKL.o; omega); go_wp2_with fail
     refine (rapply_any _ _ _ _ _ _ _ ⟨oc0, oc1⟩ (by decide) (by decide)).mono ?_; rintro e w1 ⟨⟨v9, rfl, hv9⟩, hb⟩; have H3 := kq (H2.o.call hb); clear hb; obtain ⟨b1, hb1⟩ := nK (accOk (pwVal oc og 0 0 u v)); rw [hb1] at hv9 ⊢; have HNb1 := kq hb1; clear hb1; have HV9 := kq hv9; clear hv9; have HPP := kq (show pwVal oc og (st.getD (pwK oc - 1) 0) (st.getD 0 0) u v = pwVal oc og 0 0 u v from pwVal_k0 oc0 HK0.o _ _ _ _ _ _ _); cases b1; rotate_left
     ·
      have hv9 := (show v9 = _ from by first | exact HV9.o rfl | exact HV9.o trivial); have HPA := kq (show accOk v9 = true from by rw [hv9]; exact HNb1.o); have HPV := kq (HPP.o.trans hv9.symm); clear hv9; obtain ⟨t1, t2⟩ : (T : Int) ≤ ln ∧ (ln : Int) ≤ sc := by have := HTK.o; have := (H3.o.slc 0 rfl).nc; omega
      have t3 : (T : Int) ≤ sc := by omega
      have H4 := kq (H3.o.takeOwn 0 rfl (k := T) (by omega)); obtain ⟨D1, hD1⟩ := nK w1.heap.size; have H5 := kq (H4.o.alloc #[.int .i64 v9] 3 hD1); go_upto_region 9 with (at_builtin; refine append_int rfl _ _ rfl B _ (L.take T) v9 D1 1 rfl rfl (H5.o.own 1 rfl) (H5.o.cell 0 rfl 0 rfl) (by first | (rw [List.length_take]; omega) | omega) H5.o.size ?_; intro v1 w1 ho hg hv; have H4 := kq (H5.o.append 1 rfl ho hg hv); clear ho hg hv)
      clear H5; obtain ⟨v1a, v1c, hva, _⟩ := (H4.o.own 1 rfl).slc; subst hva; have H5 := kq (show St B W [.own (.slice v1a (((L.take T) ++ [v9]).length) v1c) ((L.take T) ++ [v9])] [] w1 from H4.o.pick [1] rfl (by decide)); clear hD1; go_wp2_with fail
      go_roundw
      case rel => exact ⟨j + 1, v9 :: st.drop (pwK oc), (L.take T) ++ [v9], v1a, ((L.take T) ++ [v9]).length, v1c, by omega, by go_num, rfl, stk_take HLS.o HTK.o _, vGo_step HVR.o HKL.o (by simp only [List.length_cons, List.length_drop]; have := HKL.o; omega), eGo_step HG.o HD.o HPV.o HPA.o, by simp only [List.length_cons, List.length_drop]; have := HKL.o; omega, accL_cons HPA.o HA.o _, by omega, by omega, H5.o.pick [0] rfl (by decide)⟩
      case measure => first | (simp [intOf]; omega) | (simp [intOf]; done)
     go_wp2_with fail
     go_ret2
     exact ⟨by rw [HEV.o, eGo_stop HG.o HD.o HPP.o HNb1.o]; rfl, H3.o.bl⟩
    ·
     obtain rfl : k1 = 1 := by have := HNk2.o; omega
     clear HNk2; have HK0 := kq hk0; obtain ⟨T, hT⟩ : ∃ T : Nat, (ln : Int) - 1 = T := ⟨ln - 1, by have := HKL.o; omega⟩; have HTK := kq (show T + pwK oc = st.length from by have := HKL.o; omega); obtain ⟨x, hx⟩ := nK (L.getD T 0); have HXS := kq (show st.getD (pwK oc - 1) 0 = x from by rw [← hx]; exact (stk_get 0 HLS.o (by omega) HTK.o).symm); have HXA := kq (show accOk x = true from by rw [← HXS.o]; exact HA.o _); have zx := (H2.o.get 0 rfl (j := T) (by omega)).1; rw [hx] at zx; clear hx; go_wp2_with fail
     refine (rapply_any _ _ _ _ _ _ _ ⟨oc0, oc1⟩ HXA.o (by decide)).mono ?_; rintro e w1 ⟨⟨v9, rfl, hv9⟩, hb⟩; have H3 := kq (H2.o.call hb); clear hb; obtain ⟨b1, hb1⟩ := nK (accOk (pwVal oc og x 0 u v)); rw [hb1] at hv9 ⊢; have HNb1 := kq hb1; clear hb1; have HV9 := kq hv9; clear hv9; have HPP := kq (show pwVal oc og (st.getD (pwK oc - 1) 0) (st.getD 0 0) u v = pwVal oc og x 0 u v from by rw [HXS.o]; exact pwVal_k1 oc1 HK0.o _ _ _ _ _ _); cases b1; rotate_left
     ·
      have hv9 := (show v9 = _ from by first | exact HV9.o rfl | exact HV9.o trivial); have HPA := kq (show accOk v9 = true from by rw [hv9]; exact HNb1.o); have HPV := kq (HPP.o.trans hv9.symm); clear hv9; obtain ⟨t1, t2⟩ : (T : Int) ≤ ln ∧ (ln : Int) ≤ sc := by have := HTK.o; have := (H3.o.slc 0 rfl).nc; omega
      have t3 : (T : Int) ≤ sc := by omega
      have H4 := kq (H3.o.takeOwn 0 rfl (k := T) (by omega)); obtain ⟨D1, hD1⟩ := nK w1.heap.size; have H5 := kq (H4.o.alloc #[.int .i64 v9] 3 hD1); go_upto_region 9 with (at_builtin; refine append_int rfl _ _ rfl B _ (L.take T) v9 D1 1 rfl rfl (H5.o.own 1 rfl) (H5.o.cell 0 rfl 0 rfl) (by first | (rw [List.length_take]; omega) | omega) H5.o.size ?_; intro v1 w1 ho hg hv; have H4 := kq (H5.o.append 1 rfl ho hg hv); clear ho hg hv)
      clear H5; obtain ⟨v1a, v1c, hva, _⟩ := (H4.o.own 1 rfl).slc; subst hva; have H5 := kq (show St B W [.own (.slice v1a (((L.take T) ++ [v9]).length) v1c) ((L.take T) ++ [v9])] [] w1 from H4.o.pick [1] rfl (by decide)); clear hD1; go_wp2_with fail
      go_roundw
      case rel => exact ⟨j + 1, v9 :: st.drop (pwK oc), (L.take T) ++ [v9], v1a, ((L.take T) ++ [v9]).length, v1c, by omega, by go_num, rfl, stk_take HLS.o HTK.o _, vGo_step HVR.o HKL.o (by simp only [List.length_cons, List.length_drop]; have := HKL.o; omega), eGo_step HG.o HD.o HPV.o HPA.o, by simp only [List.length_cons, List.length_drop]; have := HKL.o; omega, accL_cons HPA.o HA.o _, by omega, by omega, H5.o.pick [0] rfl (by decide)⟩
      case measure => first | (simp [intOf]; omega) | (simp [intOf]; done)
     go_wp2_with fail
     go_ret2
     exact ⟨by rw [HEV.o, eGo_stop HG.o HD.o HPP.o HNb1.o]; rfl, H3.o.bl⟩
    obtain rfl : k1 = 2 := by have := HNk2.o; omega
    clear HNk2; have HK0 := kq hk0; obtain ⟨T, hT⟩ : ∃ T : Nat, (ln : Int) - 2 = T := ⟨ln - 2, by have := HKL.o; omega⟩; have HTK := kq (show T + pwK oc = st.length from by have := HKL.o; omega); obtain ⟨x, hx⟩ := nK (L.getD T 0); have HXS := kq (show st.getD (pwK oc - 1) 0 = x from by rw [← hx]; exact (stk_get 0 HLS.o (by omega) HTK.o).symm); have HXA := kq (show accOk x = true from by rw [← HXS.o]; exact HA.o _); have zx := (H2.o.get 0 rfl (j := T) (by omega)).1; rw [hx] at zx; clear hx; obtain ⟨T1, hT1⟩ : ∃ T1 : Nat, (ln : Int) - 1 = T1 := ⟨ln - 1, by have := HKL.o; omega⟩; obtain ⟨y, hy⟩ : ∃ y, L.getD T1 0 = y := ⟨_, rfl⟩; have HYS := kq (show st.getD 0 0 = y from by rw [← hy]; exact (stk_get (K := 1) 0 HLS.o (by omega) (by omega)).symm); have HYA := kq (show accOk y = true from by rw [← HYS.o]; exact HA.o _); have zy := (H2.o.get 0 rfl (j := T1) (by omega)).1; rw [hy] at zy; clear hy; go_wp2_with fail
    refine (rapply_any _ _ _ _ _ _ _ ⟨oc0, oc1⟩ HXA.o HYA.o).mono ?_; rintro e w1 ⟨⟨v9, rfl, hv9⟩, hb⟩; have H3 := kq (H2.o.call hb); clear hb; obtain ⟨b1, hb1⟩ := nK (accOk (pwVal oc og x y u v)); rw [hb1] at hv9 ⊢; have HNb1 := kq hb1; clear hb1; have HV9 := kq hv9; clear hv9; have HPP := kq (show pwVal oc og (st.getD (pwK oc - 1) 0) (st.getD 0 0) u v = pwVal oc og x y u v from by rw [HXS.o, HYS.o]); cases b1; rotate_left
    ·
     have hv9 := (show v9 = _ from by first | exact HV9.o rfl | exact HV9.o trivial); have HPA := kq (show accOk v9 = true from by rw [hv9]; exact HNb1.o); have HPV := kq (HPP.o.trans hv9.symm); clear hv9; obtain ⟨t1, t2⟩ : (T : Int) ≤ ln ∧ (ln : Int) ≤ sc := by have := HTK.o; have := (H3.o.slc 0 rfl).nc; omega
     have t3 : (T : Int) ≤ sc := by omega
     have H4 := kq (H3.o.takeOwn 0 rfl (k := T) (by omega)); obtain ⟨D1, hD1⟩ := nK w1.heap.size; have H5 := kq (H4.o.alloc #[.int .i64 v9] 3 hD1); go_upto_region 9 with (at_builtin; refine append_int rfl _ _ rfl B _ (L.take T) v9 D1 1 rfl rfl (H5.o.own 1 rfl) (H5.o.cell 0 rfl 0 rfl) (by first | (rw [List.length_take]; omega) | omega) H5.o.size ?_; intro v1 w1 ho hg hv; have H4 := kq (H5.o.append 1 rfl ho hg hv); clear ho hg hv)
     clear H5; obtain ⟨v1a, v1c, hva, _⟩ := (H4.o.own 1 rfl).slc; subst hva; have H5 := kq (show St B W [.own (.slice v1a (((L.take T) ++ [v9]).length) v1c) ((L.take T) ++ [v9])] [] w1 from H4.o.pick [1] rfl (by decide)); clear hD1; go_wp2_with fail
     go_roundw
     case rel => exact ⟨j + 1, v9 :: st.drop (pwK oc), (L.take T) ++ [v9], v1a, ((L.take T) ++ [v9]).length, v1c, by omega, by go_num, rfl, stk_take HLS.o HTK.o _, vGo_step HVR.o HKL.o (by simp only [List.length_cons, List.length_drop]; have := HKL.o; omega), eGo_step HG.o HD.o HPV.o HPA.o, by simp only [List.length_cons, List.length_drop]; have := HKL.o; omega, accL_cons HPA.o HA.o _, by omega, by omega, H5.o.pick [0] rfl (by decide)⟩
     case measure => first | (simp [intOf]; omega) | (simp [intOf]; done)
    go_wp2_with fail
    go_ret2
    exact ⟨by rw [HEV.o, eGo_stop HG.o HD.o HPP.o HNb1.o]; rfl, H3.o.bl⟩
   have hjn' : ¬ ((j : Int) < n) := by omega
   have HE := kq (show zs.drop j = [] from List.drop_eq_nil_of_le (by have := HL.o; omega)); have hs1 : st.length = 1 := vGo_last (by rw [← HE.o]; exact HVG.o); obtain ⟨q1, q2⟩ : 1 ≤ ln ∧ ln ≤ 1 := by omega
   obtain ⟨z, hz⟩ := nK (L.getD 0 0); have HZ := kq (show evR zs u v = (z, 0) from by rw [HEV.o, ← HG.o, HE.o]; unfold eGo; rw [← hz, stk_get (K := 1) 0 HLS.o (by omega) (by omega), List.headD_eq_head?_getD, List.getD_eq_getElem?_getD, List.head?_eq_getElem?]); obtain ⟨g, cc, hgg⟩ := (H2.o.own 0 rfl).pos (by omega); injection hgg with hga hgb hgc
   subst hga; clear hgb hgc; have zz := (H2.o.get 0 rfl (j := 0) (by omega)).1; rw [hz] at zz; clear hs1 hz; go_wp2_with fail
   go_ret2
   exact ⟨by rw [HZ.o]; rfl, H2.o.bl⟩
 go_wp2_with fail
 go_ret2
 exact ⟨by rw [evR_bad HNk1.o (by have := c1h.o; omega)]; rfl, H1.o.bl⟩
end
end Go.Proofs.YteejjnhlfgjlaaaGreat
