/-
 Contracts: which programs are valid, in the program and in the reference.
-/
import Derived.Test.YteejjnhlfgjlaaaPw2
import Derived.Test.YteejjnhlfgjlaaaKI
namespace Go.Proofs.Yteejjnhlfgjlaaa
open Go.RowKit
attribute [local go_sem ↓] Go.wp_at_zero Go.wp_at_succ
set_option linter.unusedVariables false
set_option linter.unusedSimpArgs false

theorem drop_one {zs : List (Int × Int)} {j : Nat} {oc og : Int} (hj : j < zs.length) (h : zs.getD j (0, 0) = (oc, og)) : zs.drop j = (oc, og) :: zs.drop (j + 1) := by
 rw [List.drop_eq_getElem_cons hj, ← h, List.getD_eq_getElem?_getD, List.getElem?_eq_getElem hj]
 rfl

set_option maxRecDepth 100000 in
set_option maxHeartbeats 3200000 in
theorem pvalid_any14 (a : Option Addr) (n c : Nat) (zs : List (Int × Int)) (two : Bool) (W : World) (hs : Prs W a n c zs) : Calls Try.prog 59 #[.slice a n c, .bool two] W fun e w' => e = .returned (.int .i64 (vCode zs two)) ∧ Below W.heap.size W w' := by
 obtain ⟨B, hB⟩ : ∃ B, W.heap.size = B := ⟨_, rfl⟩
 have HI0 := hid (St.init hB)
 have HS := hid hs
 have HL := hid hs.len
 have nmx : (n : Int) ≤ 9223372036854775807 := by have := hs.nc; have := hs.cap; omega
 clear hs
 go_enter Try.func59, Try.ntmps59
 by_cases c1 : (n : Int) = 0
 ·
  obtain ⟨c1c, c1d⟩ : (n : Int) ≤ 0 ∧ (0 : Int) ≤ n := by omega
  have c1a : ((n : Int) == (0)) = true := by simpa using c1
  have c1b : ((n : Int) != (0)) = false := by simpa using c1
  have c1h := hid c1
  clear c1
  go_wp2_with fail
  go_ret
  exact ⟨ret_i (by unfold vCode; rw [if_pos (by have := HL.out; have := c1h.out; omega)]), by first | exact HI0.out.below | exact HI0.out.below'⟩
 ·
  have c1a : ((n : Int) == (0)) = false := by simpa using c1
  have c1b : ((n : Int) != (0)) = true := by simpa using c1
  have c1h := hid c1
  clear c1
  by_cases c2 : (32 : Int) < n
  ·
   skip
   go_wp2_with fail
   go_ret
   exact ⟨ret_i (by unfold vCode; rw [if_pos (by have := HL.out; have := c1h.out; omega)]), by first | exact HI0.out.below | exact HI0.out.below'⟩
  ·
   skip
   go_wp2_with fail
   have HV := hid (show vCode zs two = vGo zs two 0 from by unfold vCode; rw [if_neg (by have := HL.out; have := c1h.out; omega)])
   go_loopw [20, 5] (fun i p wr => ∃ (j d : Nat), j ≤ n ∧ d ≤ j ∧ i = .int .i64 j ∧ p = .int .i64 d ∧ vGo (zs.drop j) two d = vGo zs two 0 ∧ St B W [] [] wr) (fun i _ _ => n - (intOf i).toNat)
   case atStart => exact ⟨0, 0, by omega, by omega, rfl, rfl, rfl, HI0.out⟩
   case round =>
    obtain ⟨j, d, hj, hd, rfl, rfl, hg, hst⟩ := hrel
    obtain ⟨u3, rfl⟩ : ∃ u3 : World, u3 = wr := ⟨_, rfl⟩
    have H4 := hid hst
    clear hst
    have HG := hid hg
    clear hg
    by_cases hjn : j < n
    ·
     skip
     have hjn' : (j : Int) < n := by omega
     obtain ⟨pb, po, hpa⟩ := (H4.out.oldPrs HS.out).at (by omega)
     subst hpa
     obtain ⟨cz0, cz1⟩ := (H4.out.oldPrs HS.out).get (i := j) hjn
     obtain ⟨oc, og, hoo⟩ : ∃ x y, zs.getD j (0, 0) = (x, y) := ⟨_, _, rfl⟩
     have HD := hid (drop_one (by rw [← HL.out]; exact hjn) hoo)
     rw [hoo] at cz0 cz1
     dsimp only at cz0 cz1
     clear hoo
     obtain ⟨D5, hD5⟩ : ∃ D, u3.heap.size = D := ⟨_, rfl⟩
     go_upto_region 7 with fail
     have H6 := hid (H4.out.alloc #[.int .i64 oc, .int .i64 og] 57 hD5)
     first | refine gen_code H6.out ?_ | refine gen_list H6.out ?_ | refine gen_calls H6.out ?_
     intro w7 hG
     clear H6
     have H6 := hid hG
     clear hG
     clear hD5
     have z8 := H6.out.cell 0 rfl 0 rfl
     have z9 := H6.out.cell 0 rfl 1 rfl
     go_wp2_with fail
     clear z8 z9
     refine (ptakes_any _ _).mono ?_
     rintro e w10 ⟨rfl, hsw⟩
     have hsw2 : w7 = w10 := by first | exact hsw | exact hsw.symm
     clear hsw
     subst hsw2
     obtain ⟨b11, hb11⟩ : ∃ xx', pwIs oc = xx' := ⟨_, rfl⟩
     rw [hb11]
     have HNb11 := hid hb11
     clear hb11
     have hkl := pwK_le oc
     obtain ⟨k12, hk12⟩ : ∃ xx' : Int, (if b11 = true then (pwK oc : Int) else 0) = xx' := ⟨_, rfl⟩
     rw [hk12]
     have HK0 := hid (show b11 = true → k12 = (pwK oc : Int) from fun h => by rw [← hk12, if_pos h])
     obtain ⟨kn1, kn2⟩ : 0 ≤ k12 ∧ k12 ≤ 2 := by rw [← hk12]; split <;> omega
     clear hk12 hkl
     cases b11 with
     | true =>
      by_cases c13 : (oc : Int) = 1
      ·
       obtain ⟨c13c, c13d⟩ : (oc : Int) ≤ 1 ∧ (1 : Int) ≤ oc := by omega
       have c13a : ((oc : Int) == (1)) = true := by simpa using c13
       have c13b : ((oc : Int) != (1)) = false := by simpa using c13
       have c13h := hid c13
       clear c13
       cases two with
       | true =>
        by_cases c14 : (d : Int) < k12
        ·
         skip
         have z15 := H6.out.cell 0 rfl 0 rfl
         have z16 := H6.out.cell 0 rfl 1 rfl
         go_wp2_with fail
         clear z15 z16
         go_ret
         exact ⟨ret_i (by first | (rw [HV.out, ← HG.out, HE.out]; unfold vGo; rw [if_neg (by have := c1h.out; have := c13h.out; omega)]) | (rw [HV.out, ← HG.out, HD.out, vGo_rec, if_pos (show ¬ (0 ≤ oc ∧ oc ≤ 11) ∨ (oc = 1 ∧ true = false) ∨ d < pwK oc from by first | (exact Or.inl (fun hc => by have h1 := HNb11.out; unfold pwIs at h1; have h2 := of_decide_eq_false h1; exact h2 hc)) | (exact Or.inl (by have := c1h.out; have := c13h.out; omega)) | (exact Or.inr (Or.inl ⟨by have := c1h.out; have := c13h.out; omega, rfl⟩)) | (exact Or.inr (Or.inr (by have := (show k12 = (pwK oc : Int) from by first | exact HK0.out rfl | exact HK0.out trivial); have := c1h.out; have := c13h.out; omega))))])), by first | exact H6.out.below | exact H6.out.below'⟩
        ·
         skip
         have HK := hid (show k12 = (pwK oc : Int) from by first | exact HK0.out rfl | exact HK0.out trivial)
         have hc11 : 0 ≤ oc ∧ oc ≤ 11 := by have := HNb11.out; simpa [pwIs] using this
         have HNO := hid (show ¬ (¬ (0 ≤ oc ∧ oc ≤ 11) ∨ (oc = 1 ∧ true = false) ∨ d < pwK oc) from by
          rintro (h | h | h)
          ·
           exact h hc11
          ·
           first | (cases h.2; done) | (have h1 := h.1; have := c1h.out; have := c13h.out;  omega)
          ·
           have := HK.out; omega)
         clear hc11
         have z17 := H6.out.cell 0 rfl 0 rfl
         have z18 := H6.out.cell 0 rfl 1 rfl
         go_wp2_with fail
         clear z17 z18
         refine (pargument_any _ _ _).mono ?_
         rintro e w19 ⟨rfl, hb⟩
         have H20 := hid (H6.out.call hb)
         clear hb
         obtain ⟨b21, hb21⟩ : ∃ xx', pwArg oc og = xx' := ⟨_, rfl⟩
         rw [hb21]
         have HNb21 := hid hb21
         clear hb21
         cases b21 with
         | true =>
          go_wp2_with fail
          go_roundw
          case rel => exact ⟨j + 1, d + 1 - pwK oc, by omega, by omega, by go_num, congrArg (Value.int .i64) (by have := HK.out; omega), by rw [← HG.out, HD.out, vGo_rec, if_neg HNO.out, if_pos HNb21.out], H20.out.pick [] rfl (by decide)⟩
          case measure => first | (simp [intOf]; omega) | (simp [intOf]; done)
         | false =>
          go_wp2_with fail
          go_ret
          exact ⟨ret_i (by rw [HV.out, ← HG.out, HD.out, vGo_rec, if_neg HNO.out, if_neg (by rw [HNb21.out]; simp)]), by first | exact H20.out.below | exact H20.out.below'⟩
       | false =>
        have z22 := H6.out.cell 0 rfl 0 rfl
        have z23 := H6.out.cell 0 rfl 1 rfl
        go_wp2_with fail
        clear z22 z23
        go_ret
        exact ⟨ret_i (by first | (rw [HV.out, ← HG.out, HE.out]; unfold vGo; rw [if_neg (by have := c1h.out; have := c13h.out; omega)]) | (rw [HV.out, ← HG.out, HD.out, vGo_rec, if_pos (show ¬ (0 ≤ oc ∧ oc ≤ 11) ∨ (oc = 1 ∧ false = false) ∨ d < pwK oc from by first | (exact Or.inl (fun hc => by have h1 := HNb11.out; unfold pwIs at h1; have h2 := of_decide_eq_false h1; exact h2 hc)) | (exact Or.inl (by have := c1h.out; have := c13h.out; omega)) | (exact Or.inr (Or.inl ⟨by have := c1h.out; have := c13h.out; omega, rfl⟩)) | (exact Or.inr (Or.inr (by have := (show k12 = (pwK oc : Int) from by first | exact HK0.out rfl | exact HK0.out trivial); have := c1h.out; have := c13h.out; omega))))])), by first | exact H6.out.below | exact H6.out.below'⟩
      ·
       have c13a : ((oc : Int) == (1)) = false := by simpa using c13
       have c13b : ((oc : Int) != (1)) = true := by simpa using c13
       have c13h := hid c13
       clear c13
       by_cases c24 : (d : Int) < k12
       ·
        skip
        have z25 := H6.out.cell 0 rfl 0 rfl
        have z26 := H6.out.cell 0 rfl 1 rfl
        go_wp2_with fail
        clear z25 z26
        go_ret
        exact ⟨ret_i (by first | (rw [HV.out, ← HG.out, HE.out]; unfold vGo; rw [if_neg (by have := c1h.out; have := c13h.out; omega)]) | (rw [HV.out, ← HG.out, HD.out, vGo_rec, if_pos (show ¬ (0 ≤ oc ∧ oc ≤ 11) ∨ (oc = 1 ∧ two = false) ∨ d < pwK oc from by first | (exact Or.inl (fun hc => by have h1 := HNb11.out; unfold pwIs at h1; have h2 := of_decide_eq_false h1; exact h2 hc)) | (exact Or.inl (by have := c1h.out; have := c13h.out; omega)) | (exact Or.inr (Or.inl ⟨by have := c1h.out; have := c13h.out; omega, rfl⟩)) | (exact Or.inr (Or.inr (by have := (show k12 = (pwK oc : Int) from by first | exact HK0.out rfl | exact HK0.out trivial); have := c1h.out; have := c13h.out; omega))))])), by first | exact H6.out.below | exact H6.out.below'⟩
       ·
        skip
        have HK := hid (show k12 = (pwK oc : Int) from by first | exact HK0.out rfl | exact HK0.out trivial)
        have hc11 : 0 ≤ oc ∧ oc ≤ 11 := by have := HNb11.out; simpa [pwIs] using this
        have HNO := hid (show ¬ (¬ (0 ≤ oc ∧ oc ≤ 11) ∨ (oc = 1 ∧ two = false) ∨ d < pwK oc) from by
         rintro (h | h | h)
         ·
          exact h hc11
         ·
          first | (cases h.2; done) | (have h1 := h.1; have := c1h.out; have := c13h.out;  omega)
         ·
          have := HK.out; omega)
        clear hc11
        have z27 := H6.out.cell 0 rfl 0 rfl
        have z28 := H6.out.cell 0 rfl 1 rfl
        go_wp2_with fail
        clear z27 z28
        refine (pargument_any _ _ _).mono ?_
        rintro e w29 ⟨rfl, hb⟩
        have H30 := hid (H6.out.call hb)
        clear hb
        obtain ⟨b31, hb31⟩ : ∃ xx', pwArg oc og = xx' := ⟨_, rfl⟩
        rw [hb31]
        have HNb31 := hid hb31
        clear hb31
        cases b31 with
        | true =>
         go_wp2_with fail
         go_roundw
         case rel => exact ⟨j + 1, d + 1 - pwK oc, by omega, by omega, by go_num, congrArg (Value.int .i64) (by have := HK.out; omega), by rw [← HG.out, HD.out, vGo_rec, if_neg HNO.out, if_pos HNb31.out], H30.out.pick [] rfl (by decide)⟩
         case measure => first | (simp [intOf]; omega) | (simp [intOf]; done)
        | false =>
         go_wp2_with fail
         go_ret
         exact ⟨ret_i (by rw [HV.out, ← HG.out, HD.out, vGo_rec, if_neg HNO.out, if_neg (by rw [HNb31.out]; simp)]), by first | exact H30.out.below | exact H30.out.below'⟩
     | false =>
      go_wp2_with fail
      go_ret
      exact ⟨ret_i (by first | (rw [HV.out, ← HG.out, HE.out]; unfold vGo; rw [if_neg (by have := c1h.out; omega)]) | (rw [HV.out, ← HG.out, HD.out, vGo_rec, if_pos (show ¬ (0 ≤ oc ∧ oc ≤ 11) ∨ (oc = 1 ∧ two = false) ∨ d < pwK oc from by first | (exact Or.inl (fun hc => by have h1 := HNb11.out; unfold pwIs at h1; have h2 := of_decide_eq_false h1; exact h2 hc)) | (exact Or.inl (by have := c1h.out; omega)) | (exact Or.inr (Or.inl ⟨by have := c1h.out; omega, rfl⟩)) | (exact Or.inr (Or.inr (by have := (show k12 = (pwK oc : Int) from by first | exact HK0.out rfl | exact HK0.out trivial); have := c1h.out; omega))))])), by first | exact H6.out.below | exact H6.out.below'⟩
    ·
     skip
     have hjn' : ¬ ((j : Int) < n) := by omega
     have HE := hid (show zs.drop j = [] from List.drop_eq_nil_of_le (by have := HL.out; omega))
     by_cases c32 : (d : Int) = 1
     ·
      obtain ⟨c32c, c32d⟩ : (d : Int) ≤ 1 ∧ (1 : Int) ≤ d := by omega
      have c32a : ((d : Int) == (1)) = true := by simpa using c32
      have c32b : ((d : Int) != (1)) = false := by simpa using c32
      have c32h := hid c32
      clear c32
      go_wp2_with fail
      go_ret
      exact ⟨ret_i (by rw [HV.out, ← HG.out, HE.out]; unfold vGo; rw [if_pos (by have := c1h.out; have := c32h.out; omega)]), by first | exact H4.out.below | exact H4.out.below'⟩
     ·
      have c32a : ((d : Int) == (1)) = false := by simpa using c32
      have c32b : ((d : Int) != (1)) = true := by simpa using c32
      have c32h := hid c32
      clear c32
      go_wp2_with fail
      go_ret
      exact ⟨ret_i (by first | (rw [HV.out, ← HG.out, HE.out]; unfold vGo; rw [if_neg (by have := c1h.out; have := c32h.out; omega)]) | (rw [HV.out, ← HG.out, HD.out, vGo_rec, if_pos (show ¬ (0 ≤ oc ∧ oc ≤ 11) ∨ (oc = 1 ∧ two = false) ∨ d < pwK oc from by first | (exact Or.inl (fun hc => by have h1 := HNb.out; unfold pwIs at h1; have h2 := of_decide_eq_false h1; exact h2 hc)) | (exact Or.inl (by have := c1h.out; have := c32h.out; omega)) | (exact Or.inr (Or.inl ⟨by have := c1h.out; have := c32h.out; omega, rfl⟩)))])), by first | exact H4.out.below | exact H4.out.below'⟩
end Go.Proofs.Yteejjnhlfgjlaaa
