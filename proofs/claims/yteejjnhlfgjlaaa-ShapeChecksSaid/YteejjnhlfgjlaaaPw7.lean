/-
 Contracts: which programs are valid, in the program and in the reference.
-/
import Derived.Test.YteejjnhlfgjlaaaPA
import Derived.Test.YteejjnhlfgjlaaaKI
namespace Go.Proofs.Yteejjnhlfgjlaaa
open Go.RowKit
attribute [local go_sem ↓] Go.wp_at_zero Go.wp_at_succ
set_option linter.unusedVariables false
set_option linter.unusedSimpArgs false

theorem drop_one {zs : List (Int × Int)} {j : Nat} {oc og : Int} (hj : j < zs.length) (h : zs.getD j (0, 0) = (oc, og)) : zs.drop j = (oc, og) :: zs.drop (j + 1) := by
 rw [List.drop_eq_getElem_cons hj, ← h, List.getD_eq_getElem?_getD, List.getElem?_eq_getElem hj]
 rfl

set_option maxRecDepth 100000 in
set_option maxHeartbeats 3200000 in
theorem pvalid_any14 (a : Option Addr) (n c : Nat) (zs : List (Int × Int)) (two : Bool) (W : World) (hs : Prs W a n c zs) : Calls Try.prog 59 #[.slice a n c, .bool two] W fun e w' => e = .returned (.int .i64 (vCode zs two)) ∧ Below W.heap.size W w' := by
 obtain ⟨B, hB⟩ : ∃ B, W.heap.size = B := ⟨_, rfl⟩; have HI0 := hid (St.init hB); have HS := hid hs; have HL := hid hs.len; have nmx : (n : Int) ≤ 9223372036854775807 := by have := hs.nc; have := hs.cap; omega
 clear hs
 go_enter Try.func59, Try.ntmps59
 by_cases c1 : (n : Int) = 0
 ·
  obtain ⟨c1c, c1d⟩ : (n : Int) ≤ 0 ∧ (0 : Int) ≤ n := by omega
  have c1a : ((n : Int) == (0)) = true := by simpa using c1
  have c1b : ((n : Int) != (0)) = false := by simpa using c1
  have c1h := hid c1; clear c1; go_wp2_with fail
  go_ret
  exact ⟨ret_i (by unfold vCode; rw [if_pos (by have := HL.out; have := c1h.out; omega)]), HI0.out.bl⟩
 have c1a : ((n : Int) == (0)) = false := by simpa using c1
 have c1b : ((n : Int) != (0)) = true := by simpa using c1
 have c1h := hid c1; clear c1; by_cases c2 : (32 : Int) < n
 ·
  go_wp2_with fail
  go_ret
  exact ⟨ret_i (by unfold vCode; rw [if_pos (by have := HL.out; have := c1h.out; omega)]), HI0.out.bl⟩
 go_wp2_with fail
 have HV := hid (show vCode zs two = vGo zs two 0 from by unfold vCode; rw [if_neg (by have := HL.out; have := c1h.out; omega)])
 go_loopw [20, 5] (fun i p wr => ∃ (j d : Nat), j ≤ n ∧ d ≤ j ∧ i = .int .i64 j ∧ p = .int .i64 d ∧ vGo (zs.drop j) two d = vGo zs two 0 ∧ St B W [] [] wr) (fun i _ _ => n - (intOf i).toNat)
 case atStart => exact ⟨0, 0, by omega, by omega, rfl, rfl, rfl, HI0.out⟩
 case round =>
  obtain ⟨j, d, hj, hd, rfl, rfl, hg, hst⟩ := hrel; obtain ⟨u3, rfl⟩ : ∃ u3 : World, u3 = wr := ⟨_, rfl⟩; have H4 := hid hst; clear hst; have HG := hid hg; clear hg; by_cases hjn : j < n
  ·
   have hjn' : (j : Int) < n := by omega
   obtain ⟨pb, po, hpa⟩ := (H4.out.oldPrs HS.out).at (by omega); subst hpa; obtain ⟨cz0, cz1⟩ := (H4.out.oldPrs HS.out).get (i := j) hjn; obtain ⟨oc, og, hoo⟩ : ∃ x y, zs.getD j (0, 0) = (x, y) := ⟨_, _, rfl⟩; have HD := hid (drop_one (by rw [← HL.out]; exact hjn) hoo); rw [hoo] at cz0 cz1
   dsimp only at cz0 cz1
   clear hoo; obtain ⟨D5, hD5⟩ : ∃ D, u3.heap.size = D := ⟨_, rfl⟩; go_upto_region 7 with fail
   have H6 := hid (H4.out.alloc #[.int .i64 oc, .int .i64 og] 57 hD5); first | refine gK H6 ?_ | refine gL H6 ?_ | refine gC H6 ?_
   clear H6; intro w7 H6; clear hD5; obtain ⟨z8, z9⟩ := H6.out.c2 0 rfl; go_wp2_with fail
   clear z8 z9; refine (ptakes_any _ _).mono ?_; rintro e w1 ⟨rfl, hsw⟩; have hsw2 : w7 = w1 := by first | exact hsw | exact hsw.symm
   clear hsw; subst hsw2; obtain ⟨b1, hb1⟩ : ∃ xx', pwIs oc = xx' := ⟨_, rfl⟩; rw [hb1]; have HNb1 := hid hb1; clear hb1; have hkl := pwK_le oc; obtain ⟨k1, hk1⟩ : ∃ xx' : Int, (if b1 = true then (pwK oc : Int) else 0) = xx' := ⟨_, rfl⟩; rw [hk1]; have HK0 := hid (show b1 = true → k1 = (pwK oc : Int) from fun h => by rw [← hk1, if_pos h]); obtain ⟨kn1, kn2⟩ : 0 ≤ k1 ∧ k1 ≤ 2 := by rw [← hk1]; split <;> omega
   clear hk1 hkl; cases b1; rotate_left
   ·
    by_cases c3 : (oc : Int) = 1
    ·
     obtain ⟨c3c, c3d⟩ : (oc : Int) ≤ 1 ∧ (1 : Int) ≤ oc := by omega
     have c3a : ((oc : Int) == (1)) = true := by simpa using c3
     have c3b : ((oc : Int) != (1)) = false := by simpa using c3
     have c3h := hid c3; clear c3; cases two; rotate_left
     ·
      by_cases c4 : (d : Int) < k1
      ·
       obtain ⟨z1, z16⟩ := H6.out.c2 0 rfl; go_wp2_with fail
       clear z1 z16
       go_ret
       exact ⟨ret_i (by first | (rw [HV.out, ← HG.out, HE.out]; unfold vGo; rw [if_neg (by have := c1h.out; have := c3h.out; omega)]) | (rw [HV.out, ← HG.out, HD.out, vGo_rec, if_pos (show ¬ (0 ≤ oc ∧ oc ≤ 11) ∨ (oc = 1 ∧ true = false) ∨ d < pwK oc from by first | (exact Or.inl (fun hc => by have h1 := HNb1.out; unfold pwIs at h1; have h2 := of_decide_eq_false h1; exact h2 hc)) | (exact Or.inl (by have := c1h.out; have := c3h.out; omega)) | (exact Or.inr (Or.inl ⟨by have := c1h.out; have := c3h.out; omega, rfl⟩)) | (exact Or.inr (Or.inr (by have := (show k1 = (pwK oc : Int) from by first | exact HK0.out rfl | exact HK0.out trivial); have := c1h.out; have := c3h.out; omega))))])), H6.out.bl⟩
      have HK := hid (show k1 = (pwK oc : Int) from by first | exact HK0.out rfl | exact HK0.out trivial); have hc1 : 0 ≤ oc ∧ oc ≤ 11 := by have := HNb1.out; simpa [pwIs] using this
      have HNO := hid (show ¬ (¬ (0 ≤ oc ∧ oc ≤ 11) ∨ (oc = 1 ∧ true = false) ∨ d < pwK oc) from by
       rintro (h | h | h)
       ·
        exact h hc1
       ·
        first | (cases h.2; done) | (have h1 := h.1; have := c1h.out; have := c3h.out;  omega)
       have := HK.out; omega)
      clear hc1; obtain ⟨z1, z2⟩ := H6.out.c2 0 rfl; go_wp2_with fail
      clear z1 z2; refine (pargument_any _ _ _).mono ?_; rintro e w1 ⟨rfl, hb⟩; have H1 := hid (H6.out.call hb); clear hb; obtain ⟨b1, hb1⟩ : ∃ xx', pwArg oc og = xx' := ⟨_, rfl⟩; rw [hb1]; have HNb2 := hid hb1; clear hb1; cases b1; rotate_left
      ·
       go_wp2_with fail
       go_roundw
       case rel => exact ⟨j + 1, d + 1 - pwK oc, by omega, by omega, by go_num, congrArg (Value.int .i64) (by have := HK.out; omega), by rw [← HG.out, HD.out, vGo_rec, if_neg HNO.out, if_pos HNb2.out], H1.out.pick [] rfl (by decide)⟩
       case measure => first | (simp [intOf]; omega) | (simp [intOf]; done)
      go_wp2_with fail
      go_ret
      exact ⟨ret_i (by rw [HV.out, ← HG.out, HD.out, vGo_rec, if_neg HNO.out, if_neg (by rw [HNb2.out]; simp)]), H1.out.bl⟩
     obtain ⟨z1, z2⟩ := H6.out.c2 0 rfl; go_wp2_with fail
     clear z1 z2
     go_ret
     exact ⟨ret_i (by first | (rw [HV.out, ← HG.out, HE.out]; unfold vGo; rw [if_neg (by have := c1h.out; have := c3h.out; omega)]) | (rw [HV.out, ← HG.out, HD.out, vGo_rec, if_pos (show ¬ (0 ≤ oc ∧ oc ≤ 11) ∨ (oc = 1 ∧ false = false) ∨ d < pwK oc from by first | (exact Or.inl (fun hc => by have h1 := HNb1.out; unfold pwIs at h1; have h2 := of_decide_eq_false h1; exact h2 hc)) | (exact Or.inl (by have := c1h.out; have := c3h.out; omega)) | (exact Or.inr (Or.inl ⟨by have := c1h.out; have := c3h.out; omega, rfl⟩)) | (exact Or.inr (Or.inr (by have := (show k1 = (pwK oc : Int) from by first | exact HK0.out rfl | exact HK0.out trivial); have := c1h.out; have := c3h.out; omega))))])), H6.out.bl⟩
    have c3a : ((oc : Int) == (1)) = false := by simpa using c3
    have c3b : ((oc : Int) != (1)) = true := by simpa using c3
    have c3h := hid c3; clear c3; by_cases c4 : (d : Int) < k1
    ·
     obtain ⟨z1, z2⟩ := H6.out.c2 0 rfl; go_wp2_with fail
     clear z1 z2
     go_ret
     exact ⟨ret_i (by first | (rw [HV.out, ← HG.out, HE.out]; unfold vGo; rw [if_neg (by have := c1h.out; have := c3h.out; omega)]) | (rw [HV.out, ← HG.out, HD.out, vGo_rec, if_pos (show ¬ (0 ≤ oc ∧ oc ≤ 11) ∨ (oc = 1 ∧ two = false) ∨ d < pwK oc from by first | (exact Or.inl (fun hc => by have h1 := HNb1.out; unfold pwIs at h1; have h2 := of_decide_eq_false h1; exact h2 hc)) | (exact Or.inl (by have := c1h.out; have := c3h.out; omega)) | (exact Or.inr (Or.inl ⟨by have := c1h.out; have := c3h.out; omega, rfl⟩)) | (exact Or.inr (Or.inr (by have := (show k1 = (pwK oc : Int) from by first | exact HK0.out rfl | exact HK0.out trivial); have := c1h.out; have := c3h.out; omega))))])), H6.out.bl⟩
    have HK := hid (show k1 = (pwK oc : Int) from by first | exact HK0.out rfl | exact HK0.out trivial); have hc1 : 0 ≤ oc ∧ oc ≤ 11 := by have := HNb1.out; simpa [pwIs] using this
    have HNO := hid (show ¬ (¬ (0 ≤ oc ∧ oc ≤ 11) ∨ (oc = 1 ∧ two = false) ∨ d < pwK oc) from by
     rintro (h | h | h)
     ·
      exact h hc1
     ·
      first | (cases h.2; done) | (have h1 := h.1; have := c1h.out; have := c3h.out;  omega)
     have := HK.out; omega)
    clear hc1; obtain ⟨z1, z2⟩ := H6.out.c2 0 rfl; go_wp2_with fail
    clear z1 z2; refine (pargument_any _ _ _).mono ?_; rintro e w1 ⟨rfl, hb⟩; have H1 := hid (H6.out.call hb); clear hb; obtain ⟨b1, hb1⟩ : ∃ xx', pwArg oc og = xx' := ⟨_, rfl⟩; rw [hb1]; have HNb2 := hid hb1; clear hb1; cases b1; rotate_left
    ·
     go_wp2_with fail
     go_roundw
     case rel => exact ⟨j + 1, d + 1 - pwK oc, by omega, by omega, by go_num, congrArg (Value.int .i64) (by have := HK.out; omega), by rw [← HG.out, HD.out, vGo_rec, if_neg HNO.out, if_pos HNb2.out], H1.out.pick [] rfl (by decide)⟩
     case measure => first | (simp [intOf]; omega) | (simp [intOf]; done)
    go_wp2_with fail
    go_ret
    exact ⟨ret_i (by rw [HV.out, ← HG.out, HD.out, vGo_rec, if_neg HNO.out, if_neg (by rw [HNb2.out]; simp)]), H1.out.bl⟩
   go_wp2_with fail
   go_ret
   exact ⟨ret_i (by first | (rw [HV.out, ← HG.out, HE.out]; unfold vGo; rw [if_neg (by have := c1h.out; omega)]) | (rw [HV.out, ← HG.out, HD.out, vGo_rec, if_pos (show ¬ (0 ≤ oc ∧ oc ≤ 11) ∨ (oc = 1 ∧ two = false) ∨ d < pwK oc from by first | (exact Or.inl (fun hc => by have h1 := HNb1.out; unfold pwIs at h1; have h2 := of_decide_eq_false h1; exact h2 hc)) | (exact Or.inl (by have := c1h.out; omega)) | (exact Or.inr (Or.inl ⟨by have := c1h.out; omega, rfl⟩)) | (exact Or.inr (Or.inr (by have := (show k1 = (pwK oc : Int) from by first | exact HK0.out rfl | exact HK0.out trivial); have := c1h.out; omega))))])), H6.out.bl⟩
  have hjn' : ¬ ((j : Int) < n) := by omega
  have HE := hid (show zs.drop j = [] from List.drop_eq_nil_of_le (by have := HL.out; omega)); by_cases c32 : (d : Int) = 1
  ·
   obtain ⟨c32c, c32d⟩ : (d : Int) ≤ 1 ∧ (1 : Int) ≤ d := by omega
   have c32a : ((d : Int) == (1)) = true := by simpa using c32
   have c32b : ((d : Int) != (1)) = false := by simpa using c32
   have c32h := hid c32; clear c32; go_wp2_with fail
   go_ret
   exact ⟨ret_i (by rw [HV.out, ← HG.out, HE.out]; unfold vGo; rw [if_pos (by have := c1h.out; have := c32h.out; omega)]), H4.out.bl⟩
  have c32a : ((d : Int) == (1)) = false := by simpa using c32
  have c32b : ((d : Int) != (1)) = true := by simpa using c32
  have c32h := hid c32; clear c32; go_wp2_with fail
  go_ret
  exact ⟨ret_i (by first | (rw [HV.out, ← HG.out, HE.out]; unfold vGo; rw [if_neg (by have := c1h.out; have := c32h.out; omega)]) | (rw [HV.out, ← HG.out, HD.out, vGo_rec, if_pos (show ¬ (0 ≤ oc ∧ oc ≤ 11) ∨ (oc = 1 ∧ two = false) ∨ d < pwK oc from by first | (exact Or.inl (fun hc => by have h1 := HNb.out; unfold pwIs at h1; have h2 := of_decide_eq_false h1; exact h2 hc)) | (exact Or.inl (by have := c1h.out; have := c32h.out; omega)) | (exact Or.inr (Or.inl ⟨by have := c1h.out; have := c32h.out; omega, rfl⟩)))])), H4.out.bl⟩

set_option maxRecDepth 100000 in
set_option maxHeartbeats 3200000 in
theorem rvalid_any14 (a : Option Addr) (n c : Nat) (zs : List (Int × Int)) (two : Bool) (W : World) (hs : Prs W a n c zs) : Calls Try.prog 69 #[.slice a n c, .bool two] W fun e w' => e = .returned (.int .i64 (vCode zs two)) ∧ Below W.heap.size W w' := by
 obtain ⟨B, hB⟩ : ∃ B, W.heap.size = B := ⟨_, rfl⟩; have HI0 := hid (St.init hB); have HS := hid hs; have HL := hid hs.len; have nmx : (n : Int) ≤ 9223372036854775807 := by have := hs.nc; have := hs.cap; omega
 clear hs
 go_enter Try.func69, Try.ntmps69
 by_cases c1 : (n : Int) = 0
 ·
  obtain ⟨c1c, c1d⟩ : (n : Int) ≤ 0 ∧ (0 : Int) ≤ n := by omega
  have c1a : ((n : Int) == (0)) = true := by simpa using c1
  have c1b : ((n : Int) != (0)) = false := by simpa using c1
  have c1h := hid c1; clear c1; go_wp2_with fail
  go_ret
  exact ⟨ret_i (by unfold vCode; rw [if_pos (by have := HL.out; have := c1h.out; omega)]), HI0.out.bl⟩
 have c1a : ((n : Int) == (0)) = false := by simpa using c1
 have c1b : ((n : Int) != (0)) = true := by simpa using c1
 have c1h := hid c1; clear c1; by_cases c3 : (32 : Int) < n
 ·
  go_wp2_with fail
  go_ret
  exact ⟨ret_i (by unfold vCode; rw [if_pos (by have := HL.out; have := c1h.out; omega)]), HI0.out.bl⟩
 go_wp2_with fail
 have HV := hid (show vCode zs two = vGo zs two 0 from by unfold vCode; rw [if_neg (by have := HL.out; have := c1h.out; omega)])
 go_loopw [6, 5] (fun i p wr => ∃ (j d : Nat), j ≤ n ∧ d ≤ j ∧ i = .int .i64 j ∧ p = .int .i64 d ∧ vGo (zs.drop j) two d = vGo zs two 0 ∧ St B W [] [] wr) (fun i _ _ => n - (intOf i).toNat)
 case atStart => exact ⟨0, 0, by omega, by omega, rfl, rfl, rfl, HI0.out⟩
 case round =>
  obtain ⟨j, d, hj, hd, rfl, rfl, hg, hst⟩ := hrel; obtain ⟨u1, rfl⟩ : ∃ u1 : World, u1 = wr := ⟨_, rfl⟩; have H1 := hid hst; clear hst; have HG := hid hg; clear hg; by_cases hjn : j < n
  ·
   have hjn' : (j : Int) < n := by omega
   obtain ⟨pb, po, hpa⟩ := (H1.out.oldPrs HS.out).at (by omega); subst hpa; obtain ⟨cz0, cz1⟩ := (H1.out.oldPrs HS.out).get (i := j) hjn; obtain ⟨oc, og, hoo⟩ : ∃ x y, zs.getD j (0, 0) = (x, y) := ⟨_, _, rfl⟩; have HD := hid (drop_one (by rw [← HL.out]; exact hjn) hoo); rw [hoo] at cz0 cz1
   dsimp only at cz0 cz1
   clear hoo; obtain ⟨D1, hD1⟩ : ∃ D, u1.heap.size = D := ⟨_, rfl⟩; go_upto_region 8 with fail
   have H2 := hid (H1.out.alloc #[.int .i64 oc, .int .i64 og] 57 hD1); first | refine gK H2 ?_ | refine gL H2 ?_ | refine gC H2 ?_
   clear H2; intro w1 H2; clear hD1; by_cases c3 : (oc : Int) < 0
   ·
    obtain ⟨z1, z2⟩ := H2.out.c2 0 rfl; go_wp2_with fail
    clear z1 z2
    go_ret
    exact ⟨ret_i (by first | (rw [HV.out, ← HG.out, HE.out]; unfold vGo; rw [if_neg (by have := c1h.out; omega)]) | (rw [HV.out, ← HG.out, HD.out, vGo_rec, if_pos (show ¬ (0 ≤ oc ∧ oc ≤ 11) ∨ (oc = 1 ∧ two = false) ∨ d < pwK oc from by first | (exact Or.inl (by have := c1h.out; omega)) | (exact Or.inr (Or.inl ⟨by have := c1h.out; omega, rfl⟩)))])), H2.out.bl⟩
   by_cases c3 : (11 : Int) < oc
   ·
    obtain ⟨z1, z2⟩ := H2.out.c2 0 rfl; go_wp2_with fail
    clear z1 z2
    go_ret
    exact ⟨ret_i (by first | (rw [HV.out, ← HG.out, HE.out]; unfold vGo; rw [if_neg (by have := c1h.out; omega)]) | (rw [HV.out, ← HG.out, HD.out, vGo_rec, if_pos (show ¬ (0 ≤ oc ∧ oc ≤ 11) ∨ (oc = 1 ∧ two = false) ∨ d < pwK oc from by first | (exact Or.inl (by have := c1h.out; omega)) | (exact Or.inr (Or.inl ⟨by have := c1h.out; omega, rfl⟩)))])), H2.out.bl⟩
   by_cases c3 : (oc : Int) = 1
   ·
    obtain ⟨c3c, c3d⟩ : (oc : Int) ≤ 1 ∧ (1 : Int) ≤ oc := by omega
    have c3a : ((oc : Int) == (1)) = true := by simpa using c3
    have c3b : ((oc : Int) != (1)) = false := by simpa using c3
    have c3h := hid c3; clear c3; cases two; rotate_left
    ·
     obtain ⟨z1, z2⟩ := H2.out.c2 0 rfl; go_wp2_with fail
     clear z1 z2; refine (rtakes_any _ _).mono ?_; rintro e w2 ⟨rfl, hsw⟩; have hsw2 : w1 = w2 := by first | exact hsw | exact hsw.symm
     clear hsw; subst hsw2; obtain ⟨k1, hk1⟩ : ∃ xx', ((pwK oc : Nat) : Int) = xx' := ⟨_, rfl⟩; rw [hk1]; have HNk1 := hid hk1; clear hk1; have hkl := pwK_le oc; have HK := hid (show k1 = (pwK oc : Int) from HNk1.out.symm); obtain ⟨kn1, kn2⟩ : 0 ≤ k1 ∧ k1 ≤ 2 := by have := HK.out; omega
     clear hkl; by_cases c4 : (d : Int) < k1
     ·
      go_wp2_with fail
      go_ret
      exact ⟨ret_i (by first | (rw [HV.out, ← HG.out, HE.out]; unfold vGo; rw [if_neg (by have := c1h.out; have := c3h.out; omega)]) | (rw [HV.out, ← HG.out, HD.out, vGo_rec, if_pos (show ¬ (0 ≤ oc ∧ oc ≤ 11) ∨ (oc = 1 ∧ true = false) ∨ d < pwK oc from by first | (exact Or.inl (by have := c1h.out; have := c3h.out; omega)) | (exact Or.inr (Or.inl ⟨by have := c1h.out; have := c3h.out; omega, rfl⟩)) | (exact Or.inr (Or.inr (by have := HK.out; have := c1h.out; have := c3h.out; omega))))])), H2.out.bl⟩
     have hc1 : 0 ≤ oc ∧ oc ≤ 11 := by have := c1h.out; have := c3h.out; omega
     have HNO := hid (show ¬ (¬ (0 ≤ oc ∧ oc ≤ 11) ∨ (oc = 1 ∧ true = false) ∨ d < pwK oc) from by
      rintro (h | h | h)
      ·
       exact h hc1
      ·
       first | (cases h.2; done) | (have h1 := h.1; have := c1h.out; have := c3h.out;  omega)
      have := HK.out; omega)
     clear hc1; obtain ⟨z1, z2⟩ := H2.out.c2 0 rfl; go_wp2_with fail
     clear z1 z2; refine (rargument_any _ _ _).mono ?_; rintro e w2 ⟨rfl, hb⟩; have H3 := hid (H2.out.call hb); clear hb; obtain ⟨b1, hb1⟩ : ∃ xx', pwArg oc og = xx' := ⟨_, rfl⟩; rw [hb1]; have HNb1 := hid hb1; clear hb1; cases b1; rotate_left
     ·
      obtain ⟨z1, z2⟩ := H3.out.c2 0 rfl; go_wp2_with fail
      clear z1 z2; refine (rtakes_any _ _).mono ?_; rintro e w3 ⟨rfl, hsw⟩; have hsw2 : w2 = w3 := by first | exact hsw | exact hsw.symm
      clear hsw; subst hsw2; rw [HNk1.out]; go_wp2_with fail
      go_roundw
      case rel => exact ⟨j + 1, d + 1 - pwK oc, by omega, by omega, by go_num, congrArg (Value.int .i64) (by have := HK.out; omega), by rw [← HG.out, HD.out, vGo_rec, if_neg HNO.out, if_pos HNb1.out], H3.out.pick [] rfl (by decide)⟩
      case measure => first | (simp [intOf]; omega) | (simp [intOf]; done)
     go_wp2_with fail
     go_ret
     exact ⟨ret_i (by rw [HV.out, ← HG.out, HD.out, vGo_rec, if_neg HNO.out, if_neg (by rw [HNb1.out]; simp)]), H3.out.bl⟩
    obtain ⟨z1, z2⟩ := H2.out.c2 0 rfl; go_wp2_with fail
    clear z1 z2
    go_ret
    exact ⟨ret_i (by first | (rw [HV.out, ← HG.out, HE.out]; unfold vGo; rw [if_neg (by have := c1h.out; have := c3h.out; omega)]) | (rw [HV.out, ← HG.out, HD.out, vGo_rec, if_pos (show ¬ (0 ≤ oc ∧ oc ≤ 11) ∨ (oc = 1 ∧ false = false) ∨ d < pwK oc from by first | (exact Or.inl (by have := c1h.out; have := c3h.out; omega)) | (exact Or.inr (Or.inl ⟨by have := c1h.out; have := c3h.out; omega, rfl⟩)))])), H2.out.bl⟩
   have c3a : ((oc : Int) == (1)) = false := by simpa using c3
   have c3b : ((oc : Int) != (1)) = true := by simpa using c3
   have c3h := hid c3; clear c3; obtain ⟨z1, z2⟩ := H2.out.c2 0 rfl; go_wp2_with fail
   clear z1 z2; refine (rtakes_any _ _).mono ?_; rintro e w64 ⟨rfl, hsw⟩; have hsw2 : w1 = w64 := by first | exact hsw | exact hsw.symm
   clear hsw; subst hsw2; obtain ⟨k1, hk1⟩ : ∃ xx', ((pwK oc : Nat) : Int) = xx' := ⟨_, rfl⟩; rw [hk1]; have HNk1 := hid hk1; clear hk1; have hkl := pwK_le oc; have HK := hid (show k1 = (pwK oc : Int) from HNk1.out.symm); obtain ⟨kn1, kn2⟩ : 0 ≤ k1 ∧ k1 ≤ 2 := by have := HK.out; omega
   clear hkl; by_cases c4 : (d : Int) < k1
   ·
    go_wp2_with fail
    go_ret
    exact ⟨ret_i (by first | (rw [HV.out, ← HG.out, HE.out]; unfold vGo; rw [if_neg (by have := c1h.out; have := c3h.out; omega)]) | (rw [HV.out, ← HG.out, HD.out, vGo_rec, if_pos (show ¬ (0 ≤ oc ∧ oc ≤ 11) ∨ (oc = 1 ∧ two = false) ∨ d < pwK oc from by first | (exact Or.inl (by have := c1h.out; have := c3h.out; omega)) | (exact Or.inr (Or.inl ⟨by have := c1h.out; have := c3h.out; omega, rfl⟩)) | (exact Or.inr (Or.inr (by have := HK.out; have := c1h.out; have := c3h.out; omega))))])), H2.out.bl⟩
   have hc1 : 0 ≤ oc ∧ oc ≤ 11 := by have := c1h.out; have := c3h.out; omega
   have HNO := hid (show ¬ (¬ (0 ≤ oc ∧ oc ≤ 11) ∨ (oc = 1 ∧ two = false) ∨ d < pwK oc) from by
    rintro (h | h | h)
    ·
     exact h hc1
    ·
     first | (cases h.2; done) | (have h1 := h.1; have := c1h.out; have := c3h.out;  omega)
    have := HK.out; omega)
   clear hc1; obtain ⟨z1, z2⟩ := H2.out.c2 0 rfl; go_wp2_with fail
   clear z1 z2; refine (rargument_any _ _ _).mono ?_; rintro e w1 ⟨rfl, hb⟩; have H3 := hid (H2.out.call hb); clear hb; obtain ⟨b1, hb1⟩ : ∃ xx', pwArg oc og = xx' := ⟨_, rfl⟩; rw [hb1]; have HNb1 := hid hb1; clear hb1; cases b1; rotate_left
   ·
    obtain ⟨z1, z2⟩ := H3.out.c2 0 rfl; go_wp2_with fail
    clear z1 z2; refine (rtakes_any _ _).mono ?_; rintro e w2 ⟨rfl, hsw⟩; have hsw2 : w1 = w2 := by first | exact hsw | exact hsw.symm
    clear hsw; subst hsw2; rw [HNk1.out]; go_wp2_with fail
    go_roundw
    case rel => exact ⟨j + 1, d + 1 - pwK oc, by omega, by omega, by go_num, congrArg (Value.int .i64) (by have := HK.out; omega), by rw [← HG.out, HD.out, vGo_rec, if_neg HNO.out, if_pos HNb1.out], H3.out.pick [] rfl (by decide)⟩
    case measure => first | (simp [intOf]; omega) | (simp [intOf]; done)
   go_wp2_with fail
   go_ret
   exact ⟨ret_i (by rw [HV.out, ← HG.out, HD.out, vGo_rec, if_neg HNO.out, if_neg (by rw [HNb1.out]; simp)]), H3.out.bl⟩
  have hjn' : ¬ ((j : Int) < n) := by omega
  have HE := hid (show zs.drop j = [] from List.drop_eq_nil_of_le (by have := HL.out; omega)); by_cases c3 : (d : Int) = 1
  ·
   obtain ⟨c3c, c3d⟩ : (d : Int) ≤ 1 ∧ (1 : Int) ≤ d := by omega
   have c3a : ((d : Int) == (1)) = true := by simpa using c3
   have c3b : ((d : Int) != (1)) = false := by simpa using c3
   have c3h := hid c3; clear c3; go_wp2_with fail
   go_ret
   exact ⟨ret_i (by rw [HV.out, ← HG.out, HE.out]; unfold vGo; rw [if_pos (by have := c1h.out; have := c3h.out; omega)]), H1.out.bl⟩
  have c3a : ((d : Int) == (1)) = false := by simpa using c3
  have c3b : ((d : Int) != (1)) = true := by simpa using c3
  have c3h := hid c3; clear c3; go_wp2_with fail
  go_ret
  exact ⟨ret_i (by first | (rw [HV.out, ← HG.out, HE.out]; unfold vGo; rw [if_neg (by have := c1h.out; have := c3h.out; omega)]) | (rw [HV.out, ← HG.out, HD.out, vGo_rec, if_pos (show ¬ (0 ≤ oc ∧ oc ≤ 11) ∨ (oc = 1 ∧ two = false) ∨ d < pwK oc from by first | (exact Or.inl (by have := c1h.out; have := c3h.out; omega)) | (exact Or.inr (Or.inl ⟨by have := c1h.out; have := c3h.out; omega, rfl⟩)))])), H1.out.bl⟩
end Go.Proofs.Yteejjnhlfgjlaaa
