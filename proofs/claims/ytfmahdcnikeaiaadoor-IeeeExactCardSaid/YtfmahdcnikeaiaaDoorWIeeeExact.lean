/-
  The walk of IeeeExact: parts are exact; values are ordered as their scaled values.
-/
import Derived.Test.YtfmahdcnikeaiaaDoorSane6
import Derived.Test.YtfmahdcnikeaiaaDoorKX
namespace Go.Proofs.YtfmahdcnikeaiaaDoor
open Go.RowKit
attribute [local go_sem ↓] Go.wp_at_zero Go.wp_at_succ
set_option linter.unusedVariables false
set_option linter.unusedSimpArgs false

theorem ex_parts {v : Nat} (ho : ieOk v = true) : (ieM v = 0 ∧ ieE v = 0) ∨ (ieM v ≠ 0 ∧ (Int.tmod (ieM v) 2 = 1 ∨ Int.tmod (ieM v) 2 = -1)) := by
  by_cases h : ieA v = 0
  · left
    have hm : ieM v = 0 := by unfold ieM; rw [h]; simp
    refine ⟨hm, ?_⟩
    have he : fE v ≠ 2047 := by unfold ieOk at ho; simpa using ho
    have hz := big_zero (D := 1074) he h
    unfold ieE
    rw [if_pos]
    right
    unfold big at hz
    rcases Nat.mul_eq_zero.1 hz with h1 | h1
    · exact h1
    · have := two_pos (fX v + ((1074 : Nat) : Int)).toNat; omega
  · right
    have h1 := ieA_odd h
    have e : ∀ x : Int, x % 2 = 1 → (Int.tmod x 2 = 1 ∨ Int.tmod x 2 = -1) := by
      intro x hx
      have := Int.mul_tdiv_add_tmod x 2
      have h3 : -2 < Int.tmod x 2 ∧ Int.tmod x 2 < 2 := by
        have ha := Int.tmod_lt_of_pos x (b := 2) (by omega)
        by_cases h0 : 0 ≤ x
        · have := Int.tmod_nonneg 2 h0; omega
        · have := (tmod_neg x 2 (by omega) (by omega)).1; omega
      omega
    unfold ieM
    split
    · exact ⟨by omega, e _ (by omega)⟩
    · exact ⟨by omega, e _ (by omega)⟩
theorem ex_bad {v : Nat} {s : Int} (hs : 0 ≤ s ∧ s ≤ 24) (ho : ieOk v = false) : scC v s = 1 := ((sc_spec v s).2.1 (by omega) ho).1
theorem ex_order {a b : Nat} {s : Int} (hs : 0 ≤ s ∧ s ≤ 24) (ha : scC a s = 0) (hb : scC b s = 0) : cmpOk a b = true ∧ (cmpV a b ≤ 0 → scV a s ≤ scV b s) ∧ (0 ≤ cmpV a b → scV b s ≤ scV a s) := by
  have h1 := (cls_le a).2 (scC_ok ha).2
  have h2 := (cls_le b).2 (scC_ok hb).2
  have ho : cmpOk a b = true := by unfold cmpOk; simp; omega
  refine ⟨ho, fun h => ?_, fun h => ?_⟩
  all_goals
    unfold cmpV cmpI at h
    rw [if_pos ho] at h
    have : ¬ (rkV a ≤ rkV b) → rkV b ≤ rkV a := by omega
  · refine sc_mono hs.1 ha hb ?_
    split at h
    · omega
    · split at h <;> omega
  · refine sc_mono hs.1 hb ha ?_
    split at h
    · omega
    · split at h <;> omega
theorem ex_shift {v : Nat} {s : Int} (hs : 0 ≤ s ∧ s ≤ 24) (hc : scC v s = 0) (he : 0 ≤ ieE v) : ieM v * 2 ^ (ieE v + s).toNat = scV v s := by
  by_cases h : ieA v = 0
  · have e2 : scU v s = 0 := by unfold scU; rw [if_pos h]
    rw [scV_ok hc, e2]; unfold ieM; rw [h]; cases fS v <;> simp
  · have e1 : scN (ieA v) (ieE v + s) = ieA v * 2 ^ (ieE v + s).toNat := by unfold scN; rw [if_neg (show ¬ (ieE v + s < 0) by omega)]
    have e2 : scU v s = ieA v * 2 ^ (ieE v + s).toNat := by unfold scU; rw [if_neg h, e1]
    rw [scV_ok hc, e2]; unfold ieM
    cases fS v
    · simp
    · simp [Int.neg_mul]

set_option maxRecDepth 100000 in
set_option maxHeartbeats 12800000 in
theorem walk_IeeeExact (a : Option Addr) (n c : Nat) (zs : List Int) (shift : Int) (W : World) (hr : RowIn .i64 W a n c zs) (_ : I64 shift) (hT : Tab W) :
    Calls Tryd.prog 6 #[.slice a n c, .int .i64 shift] W fun e w' => e = .returned (.bool true) ∧ Below W.heap.size W w' := by
  obtain ⟨B, hB⟩ : ∃ B, W.heap.size = B := ⟨_, rfl⟩
  have HI0 := hid (St.init hB)
  have HT := hid hT
  have HB0 := hid (show 0 < B from by rw [← hB]; exact hT.pos)
  clear hT
  have HN := hid (nearRow hr hB)
  have HR := hid hr
  clear hr
  go_enter Tryd.func6, Tryd.ntmps6
  go_wp2_with fail
  obtain ⟨K1, hK1⟩ : ∃ D, W.heap.size = D := ⟨_, rfl⟩
  refine (newB_any B _ _ _ _ _ HR.out.len (HI0.out.oldRow HR.out.row) HN.out HI0.out.size).mono ?_
  rintro e w2 ⟨rfl, ht, hb, hs⟩
  rw [hK1] at ht ⊢
  have H3 := hid (HI0.out.newTape ht hb hK1)
  clear ht hb hs hK1
  go_wp2_with fail
  refine (bits_any B K1 _ (H3.out.tapeAt 0 rfl)).mono ?_
  rintro e w5 ⟨b4, rfl, ⟨b4a, b4b⟩, htn, hgn⟩
  have H6 := hid (H3.out.next 0 rfl htn hgn)
  clear htn hgn
  go_wp2_with fail
  refine (bits_any B K1 _ (H6.out.tapeAt 0 rfl)).mono ?_
  rintro e w8 ⟨b7, rfl, ⟨b7a, b7b⟩, htn, hgn⟩
  have H9 := hid (H6.out.next 0 rfl htn hgn)
  clear htn hgn
  go_wp2_with fail
  refine (mod_any _ _ _ (by omega) (by omega)).mono ?_
  rintro e w10 ⟨rfl, hsw⟩
  have hsw2 : w8 = w10 := by first | exact hsw | exact hsw.symm
  clear hsw
  subst hsw2
  obtain ⟨md11, hmd11⟩ : ∃ xx', shift % 25 = xx' := ⟨_, rfl⟩
  rw [hmd11]
  have HNmd11 := hid hmd11
  clear hmd11
  obtain ⟨md11a, md11b⟩ : 0 ≤ md11 ∧ md11 < 25 := by rw [← HNmd11.out]; exact ⟨Int.emod_nonneg _ (by omega), Int.emod_lt_of_pos _ (by omega)⟩
  go_wp2_with fail
  refine (parts_anyI b4 (by omega) _ (HT.out.below (by first | exact H9.out.below' | exact H9.out.below) HB0.out)).mono ?_
  rintro e w12 ⟨rfl, hsw⟩
  have hsw2 : w8 = w12 := by first | exact hsw | exact hsw.symm
  clear hsw
  subst hsw2
  obtain ⟨m13, hm13⟩ : ∃ xx', ieM b4.toNat = xx' := ⟨_, rfl⟩
  rw [hm13]
  have HNm13 := hid hm13
  clear hm13
  obtain ⟨x14, hx14⟩ : ∃ xx', ieE b4.toNat = xx' := ⟨_, rfl⟩
  rw [hx14]
  have HNx14 := hid hx14
  clear hx14
  obtain ⟨b15, hb15⟩ : ∃ xx', ieOk b4.toNat = xx' := ⟨_, rfl⟩
  rw [hb15]
  have HNb15 := hid hb15
  clear hb15
  go_upto_region 4 with fail
  obtain ⟨eb1, eb2⟩ := ieE_bd b4.toNat
  rw [HNx14.out] at eb1 eb2
  obtain ⟨mm1, mm2⟩ : -9007199254740992 ≤ m13 ∧ m13 ≤ 9007199254740992 := by rw [← HNm13.out]; have := ieA_lt b4.toNat; unfold ieM; split <;> omega
  go_wp2_with fail
  refine (class_anyI b4 (by omega) _).mono ?_
  rintro e w16 ⟨rfl, hsw⟩
  have hsw2 : w8 = w16 := by first | exact hsw | exact hsw.symm
  clear hsw
  subst hsw2
  obtain ⟨c17, hc17⟩ : ∃ xx', clsV b4.toNat = xx' := ⟨_, rfl⟩
  rw [hc17]
  have HNc17 := hid hc17
  clear hc17
  have hle : decide (c17 ≤ 2) = b15 := by rw [← HNc17.out, ← HNb15.out]; have := cls_le b4.toNat; cases hq : ieOk b4.toNat <;> rw [hq] at this <;> simpa using this
  rcases (show b15 = false ∨ (b15 = true ∧ ((m13 = 0 ∧ x14 = 0) ∨ (m13 ≠ 0 ∧ (Int.tmod m13 2 = 1 ∨ Int.tmod m13 2 = -1)))) from by cases hq : b15 with | false => exact .inl rfl | true => exact .inr ⟨rfl, by rw [← HNm13.out, ← HNx14.out]; exact ex_parts (HNb15.out.trans hq)⟩) with hbo | ⟨hbo, hmz | hmz⟩
  · subst hbo
    go_wp2_with fail
    refine (scale_any b4 md11 (by omega) _ (HT.out.below (by first | exact H9.out.below' | exact H9.out.below) HB0.out)).mono ?_
    rintro e w18 ⟨rfl, hb⟩
    have H19 := hid (H9.out.call hb)
    clear hb
    obtain ⟨v20, hv20⟩ : ∃ xx', scV b4.toNat md11 = xx' := ⟨_, rfl⟩
    rw [hv20]
    have HNv20 := hid hv20
    clear hv20
    obtain ⟨c21, hc21⟩ : ∃ xx', scC b4.toNat md11 = xx' := ⟨_, rfl⟩
    rw [hc21]
    have HNc21 := hid hc21
    clear hc21
    go_wp2_with fail
    refine (scale_any b7 md11 (by omega) _ (HT.out.below (by first | exact H19.out.below' | exact H19.out.below) HB0.out)).mono ?_
    rintro e w22 ⟨rfl, hb⟩
    have H23 := hid (H19.out.call hb)
    clear hb
    obtain ⟨v24, hv24⟩ : ∃ xx', scV b7.toNat md11 = xx' := ⟨_, rfl⟩
    rw [hv24]
    have HNv24 := hid hv24
    clear hv24
    obtain ⟨c25, hc25⟩ : ∃ xx', scC b7.toNat md11 = xx' := ⟨_, rfl⟩
    rw [hc25]
    have HNc25 := hid hc25
    clear hc25
    go_wp2_with fail
    refine (compare_any b4 b7 (by omega) (by omega) _).mono ?_
    rintro e w26 ⟨rfl, hsw⟩
    have hsw2 : w22 = w26 := by first | exact hsw | exact hsw.symm
    clear hsw
    subst hsw2
    obtain ⟨k27, hk27⟩ : ∃ xx', cmpV b4.toNat b7.toNat = xx' := ⟨_, rfl⟩
    rw [hk27]
    have HNk27 := hid hk27
    clear hk27
    obtain ⟨b28, hb28⟩ : ∃ xx', cmpOk b4.toNat b7.toNat = xx' := ⟨_, rfl⟩
    rw [hb28]
    have HNb28 := hid hb28
    clear hb28
    go_upto_region 9 with fail
    have HOR := hid (show c21 = 0 → c25 = 0 → b28 = true ∧ (k27 ≤ 0 → v20 ≤ v24) ∧ (0 ≤ k27 → v24 ≤ v20) from by rw [← HNc21.out, ← HNc25.out, ← HNb28.out, ← HNk27.out, ← HNv20.out, ← HNv24.out]; intro q1 q2; exact ex_order (by omega) q1 q2)
    have hc1 : c21 = 1 := by rw [← HNc21.out]; exact ex_bad (by omega) HNb15.out
    have k1 : (c21 == 0) = false := by rw [hc1]; rfl
    have k2 : (c21 == 1) = true := by rw [hc1]; rfl
    have HC1 := hid hc1
    clear hc1
    go_wp2_with fail
    refine (sane6 _ (HT.out.below (by first | exact H23.out.below' | exact H23.out.below) HB0.out)).mono ?_
    rintro e w29 ⟨rfl, hb⟩
    have H30 := hid (H23.out.call hb)
    clear hb
    go_wp2_with fail
    go_ret
    exact ⟨rfl, by first | exact H30.out.below | exact H30.out.below'⟩
  · subst hbo
    obtain ⟨me0, ee0⟩ := hmz
    have m9 : (m13 == 0) = true := by rw [me0]; rfl
    have m8 : (m13 != 0) = false := by rw [me0]; rfl
    have e8 : (x14 != 0) = false := by rw [ee0]; rfl
    have mt : (Int.tmod m13 2 == 0) = true := by rw [me0]; rfl
    have mr : IntKind.i64.wrap (Int.tmod m13 2) = Int.tmod m13 2 := by rw [me0]; rfl
    have HME := hid me0
    have HEE := hid ee0
    obtain ⟨ez1, ez2⟩ : 0 ≤ x14 ∧ x14 ≤ 0 := by omega
    clear me0 ee0
    go_wp2_with fail
    refine (scale_any b4 md11 (by omega) _ (HT.out.below (by first | exact H9.out.below' | exact H9.out.below) HB0.out)).mono ?_
    rintro e w31 ⟨rfl, hb⟩
    have H32 := hid (H9.out.call hb)
    clear hb
    obtain ⟨v33, hv33⟩ : ∃ xx', scV b4.toNat md11 = xx' := ⟨_, rfl⟩
    rw [hv33]
    have HNv33 := hid hv33
    clear hv33
    obtain ⟨c34, hc34⟩ : ∃ xx', scC b4.toNat md11 = xx' := ⟨_, rfl⟩
    rw [hc34]
    have HNc34 := hid hc34
    clear hc34
    go_wp2_with fail
    refine (scale_any b7 md11 (by omega) _ (HT.out.below (by first | exact H32.out.below' | exact H32.out.below) HB0.out)).mono ?_
    rintro e w35 ⟨rfl, hb⟩
    have H36 := hid (H32.out.call hb)
    clear hb
    obtain ⟨v37, hv37⟩ : ∃ xx', scV b7.toNat md11 = xx' := ⟨_, rfl⟩
    rw [hv37]
    have HNv37 := hid hv37
    clear hv37
    obtain ⟨c38, hc38⟩ : ∃ xx', scC b7.toNat md11 = xx' := ⟨_, rfl⟩
    rw [hc38]
    have HNc38 := hid hc38
    clear hc38
    go_wp2_with fail
    refine (compare_any b4 b7 (by omega) (by omega) _).mono ?_
    rintro e w39 ⟨rfl, hsw⟩
    have hsw2 : w35 = w39 := by first | exact hsw | exact hsw.symm
    clear hsw
    subst hsw2
    obtain ⟨k40, hk40⟩ : ∃ xx', cmpV b4.toNat b7.toNat = xx' := ⟨_, rfl⟩
    rw [hk40]
    have HNk40 := hid hk40
    clear hk40
    obtain ⟨b41, hb41⟩ : ∃ xx', cmpOk b4.toNat b7.toNat = xx' := ⟨_, rfl⟩
    rw [hb41]
    have HNb41 := hid hb41
    clear hb41
    go_upto_region 9 with fail
    have HOR := hid (show c34 = 0 → c38 = 0 → b41 = true ∧ (k40 ≤ 0 → v33 ≤ v37) ∧ (0 ≤ k40 → v37 ≤ v33) from by rw [← HNc34.out, ← HNc38.out, ← HNb41.out, ← HNk40.out, ← HNv33.out, ← HNv37.out]; intro q1 q2; exact ex_order (by omega) q1 q2)
    rcases (show (c34 ≠ 0 ∨ (c34 = 0 ∧ c38 ≠ 0)) ∨ (c34 = 0 ∧ c38 = 0) from by omega) with (hq | ⟨hq1, hq⟩) | ⟨hq1, hq2⟩
    · skip
      have kc34 : (c34 == 0) = false := by simpa using hq
      clear hq
      go_wp2_with fail
      refine (sane6 _ (HT.out.below (by first | exact H36.out.below' | exact H36.out.below) HB0.out)).mono ?_
      rintro e w42 ⟨rfl, hb⟩
      have H43 := hid (H36.out.call hb)
      clear hb
      go_wp2_with fail
      go_ret
      exact ⟨rfl, by first | exact H43.out.below | exact H43.out.below'⟩
    · skip
      have k1 : (c34 == 0) = true := by rw [hq1]; rfl
      have HQ1 := hid hq1
      have kc38 : (c38 == 0) = false := by simpa using hq
      clear hq
      clear hq1
      by_cases hes : x14 + md11 < 16
      · skip
        have hsh : m13 * 2 ^ (x14 + md11).toNat = v33 := by rw [← HNm13.out, ← HNx14.out, ← HNv33.out]; exact ex_shift (by omega) (by rw [HNc34.out]; exact HQ1.out) (by rw [HNx14.out]; omega)
        obtain ⟨xb1, xb2⟩ : -32767 ≤ v33 ∧ v33 ≤ 32767 := by rw [← HNv33.out]; exact scV_bd _ _
        have hxw : IntKind.i64.wrap v33 = v33 := IntWalk.i64_in _ (by omega)
        go_wp2_with fail
        refine (sane6 _ (HT.out.below (by first | exact H36.out.below' | exact H36.out.below) HB0.out)).mono ?_
        rintro e w44 ⟨rfl, hb⟩
        have H45 := hid (H36.out.call hb)
        clear hb
        go_wp2_with fail
        go_ret
        exact ⟨rfl, by first | exact H45.out.below | exact H45.out.below'⟩
      · skip
        go_wp2_with fail
        refine (sane6 _ (HT.out.below (by first | exact H36.out.below' | exact H36.out.below) HB0.out)).mono ?_
        rintro e w46 ⟨rfl, hb⟩
        have H47 := hid (H36.out.call hb)
        clear hb
        go_wp2_with fail
        go_ret
        exact ⟨rfl, by first | exact H47.out.below | exact H47.out.below'⟩
    · skip
      have k1 : (c34 == 0) = true := by rw [hq1]; rfl
      have HQ1 := hid hq1
      have k2 : (c38 == 0) = true := by rw [hq2]; rfl
      obtain ⟨ho1, ho2, ho3⟩ := HOR.out hq1 hq2
      subst ho1
      clear hq1 hq2
      by_cases hk0 : k40 ≤ 0
      · skip
        have hxy : v33 ≤ v37 := ho2 hk0
        by_cases hk1 : 0 ≤ k40
        · skip
          have hyx : v37 ≤ v33 := ho3 hk1
          by_cases hes : x14 + md11 < 16
          · skip
            have hsh : m13 * 2 ^ (x14 + md11).toNat = v33 := by rw [← HNm13.out, ← HNx14.out, ← HNv33.out]; exact ex_shift (by omega) (by rw [HNc34.out]; exact HQ1.out) (by rw [HNx14.out]; omega)
            obtain ⟨xb1, xb2⟩ : -32767 ≤ v33 ∧ v33 ≤ 32767 := by rw [← HNv33.out]; exact scV_bd _ _
            have hxw : IntKind.i64.wrap v33 = v33 := IntWalk.i64_in _ (by omega)
            go_wp2_with fail
            refine (sane6 _ (HT.out.below (by first | exact H36.out.below' | exact H36.out.below) HB0.out)).mono ?_
            rintro e w48 ⟨rfl, hb⟩
            have H49 := hid (H36.out.call hb)
            clear hb
            go_wp2_with fail
            go_ret
            exact ⟨rfl, by first | exact H49.out.below | exact H49.out.below'⟩
          · skip
            go_wp2_with fail
            refine (sane6 _ (HT.out.below (by first | exact H36.out.below' | exact H36.out.below) HB0.out)).mono ?_
            rintro e w50 ⟨rfl, hb⟩
            have H51 := hid (H36.out.call hb)
            clear hb
            go_wp2_with fail
            go_ret
            exact ⟨rfl, by first | exact H51.out.below | exact H51.out.below'⟩
        · skip
          by_cases hes : x14 + md11 < 16
          · skip
            have hsh : m13 * 2 ^ (x14 + md11).toNat = v33 := by rw [← HNm13.out, ← HNx14.out, ← HNv33.out]; exact ex_shift (by omega) (by rw [HNc34.out]; exact HQ1.out) (by rw [HNx14.out]; omega)
            obtain ⟨xb1, xb2⟩ : -32767 ≤ v33 ∧ v33 ≤ 32767 := by rw [← HNv33.out]; exact scV_bd _ _
            have hxw : IntKind.i64.wrap v33 = v33 := IntWalk.i64_in _ (by omega)
            go_wp2_with fail
            refine (sane6 _ (HT.out.below (by first | exact H36.out.below' | exact H36.out.below) HB0.out)).mono ?_
            rintro e w52 ⟨rfl, hb⟩
            have H53 := hid (H36.out.call hb)
            clear hb
            go_wp2_with fail
            go_ret
            exact ⟨rfl, by first | exact H53.out.below | exact H53.out.below'⟩
          · skip
            go_wp2_with fail
            refine (sane6 _ (HT.out.below (by first | exact H36.out.below' | exact H36.out.below) HB0.out)).mono ?_
            rintro e w54 ⟨rfl, hb⟩
            have H55 := hid (H36.out.call hb)
            clear hb
            go_wp2_with fail
            go_ret
            exact ⟨rfl, by first | exact H55.out.below | exact H55.out.below'⟩
      · skip
        by_cases hk1 : 0 ≤ k40
        · skip
          have hyx : v37 ≤ v33 := ho3 hk1
          by_cases hes : x14 + md11 < 16
          · skip
            have hsh : m13 * 2 ^ (x14 + md11).toNat = v33 := by rw [← HNm13.out, ← HNx14.out, ← HNv33.out]; exact ex_shift (by omega) (by rw [HNc34.out]; exact HQ1.out) (by rw [HNx14.out]; omega)
            obtain ⟨xb1, xb2⟩ : -32767 ≤ v33 ∧ v33 ≤ 32767 := by rw [← HNv33.out]; exact scV_bd _ _
            have hxw : IntKind.i64.wrap v33 = v33 := IntWalk.i64_in _ (by omega)
            go_wp2_with fail
            refine (sane6 _ (HT.out.below (by first | exact H36.out.below' | exact H36.out.below) HB0.out)).mono ?_
            rintro e w56 ⟨rfl, hb⟩
            have H57 := hid (H36.out.call hb)
            clear hb
            go_wp2_with fail
            go_ret
            exact ⟨rfl, by first | exact H57.out.below | exact H57.out.below'⟩
          · skip
            go_wp2_with fail
            refine (sane6 _ (HT.out.below (by first | exact H36.out.below' | exact H36.out.below) HB0.out)).mono ?_
            rintro e w58 ⟨rfl, hb⟩
            have H59 := hid (H36.out.call hb)
            clear hb
            go_wp2_with fail
            go_ret
            exact ⟨rfl, by first | exact H59.out.below | exact H59.out.below'⟩
        · skip
          by_cases hes : x14 + md11 < 16
          · skip
            have hsh : m13 * 2 ^ (x14 + md11).toNat = v33 := by rw [← HNm13.out, ← HNx14.out, ← HNv33.out]; exact ex_shift (by omega) (by rw [HNc34.out]; exact HQ1.out) (by rw [HNx14.out]; omega)
            obtain ⟨xb1, xb2⟩ : -32767 ≤ v33 ∧ v33 ≤ 32767 := by rw [← HNv33.out]; exact scV_bd _ _
            have hxw : IntKind.i64.wrap v33 = v33 := IntWalk.i64_in _ (by omega)
            go_wp2_with fail
            refine (sane6 _ (HT.out.below (by first | exact H36.out.below' | exact H36.out.below) HB0.out)).mono ?_
            rintro e w60 ⟨rfl, hb⟩
            have H61 := hid (H36.out.call hb)
            clear hb
            go_wp2_with fail
            go_ret
            exact ⟨rfl, by first | exact H61.out.below | exact H61.out.below'⟩
          · skip
            go_wp2_with fail
            refine (sane6 _ (HT.out.below (by first | exact H36.out.below' | exact H36.out.below) HB0.out)).mono ?_
            rintro e w62 ⟨rfl, hb⟩
            have H63 := hid (H36.out.call hb)
            clear hb
            go_wp2_with fail
            go_ret
            exact ⟨rfl, by first | exact H63.out.below | exact H63.out.below'⟩
  · subst hbo
    obtain ⟨mne, hmo⟩ := hmz
    have mt : (Int.tmod m13 2 == 0) = false := by simp; omega
    have mr : IntKind.i64.wrap (Int.tmod m13 2) = Int.tmod m13 2 := IntWalk.i64_in _ (by omega)
    clear mne hmo
    go_wp2_with fail
    refine (scale_any b4 md11 (by omega) _ (HT.out.below (by first | exact H9.out.below' | exact H9.out.below) HB0.out)).mono ?_
    rintro e w64 ⟨rfl, hb⟩
    have H65 := hid (H9.out.call hb)
    clear hb
    obtain ⟨v66, hv66⟩ : ∃ xx', scV b4.toNat md11 = xx' := ⟨_, rfl⟩
    rw [hv66]
    have HNv66 := hid hv66
    clear hv66
    obtain ⟨c67, hc67⟩ : ∃ xx', scC b4.toNat md11 = xx' := ⟨_, rfl⟩
    rw [hc67]
    have HNc67 := hid hc67
    clear hc67
    go_wp2_with fail
    refine (scale_any b7 md11 (by omega) _ (HT.out.below (by first | exact H65.out.below' | exact H65.out.below) HB0.out)).mono ?_
    rintro e w68 ⟨rfl, hb⟩
    have H69 := hid (H65.out.call hb)
    clear hb
    obtain ⟨v70, hv70⟩ : ∃ xx', scV b7.toNat md11 = xx' := ⟨_, rfl⟩
    rw [hv70]
    have HNv70 := hid hv70
    clear hv70
    obtain ⟨c71, hc71⟩ : ∃ xx', scC b7.toNat md11 = xx' := ⟨_, rfl⟩
    rw [hc71]
    have HNc71 := hid hc71
    clear hc71
    go_wp2_with fail
    refine (compare_any b4 b7 (by omega) (by omega) _).mono ?_
    rintro e w72 ⟨rfl, hsw⟩
    have hsw2 : w68 = w72 := by first | exact hsw | exact hsw.symm
    clear hsw
    subst hsw2
    obtain ⟨k73, hk73⟩ : ∃ xx', cmpV b4.toNat b7.toNat = xx' := ⟨_, rfl⟩
    rw [hk73]
    have HNk73 := hid hk73
    clear hk73
    obtain ⟨b74, hb74⟩ : ∃ xx', cmpOk b4.toNat b7.toNat = xx' := ⟨_, rfl⟩
    rw [hb74]
    have HNb74 := hid hb74
    clear hb74
    go_upto_region 9 with fail
    have HOR := hid (show c67 = 0 → c71 = 0 → b74 = true ∧ (k73 ≤ 0 → v66 ≤ v70) ∧ (0 ≤ k73 → v70 ≤ v66) from by rw [← HNc67.out, ← HNc71.out, ← HNb74.out, ← HNk73.out, ← HNv66.out, ← HNv70.out]; intro q1 q2; exact ex_order (by omega) q1 q2)
    rcases (show (c67 ≠ 0 ∨ (c67 = 0 ∧ c71 ≠ 0)) ∨ (c67 = 0 ∧ c71 = 0) from by omega) with (hq | ⟨hq1, hq⟩) | ⟨hq1, hq2⟩
    · skip
      have kc67 : (c67 == 0) = false := by simpa using hq
      clear hq
      go_wp2_with fail
      refine (sane6 _ (HT.out.below (by first | exact H69.out.below' | exact H69.out.below) HB0.out)).mono ?_
      rintro e w75 ⟨rfl, hb⟩
      have H76 := hid (H69.out.call hb)
      clear hb
      go_wp2_with fail
      go_ret
      exact ⟨rfl, by first | exact H76.out.below | exact H76.out.below'⟩
    · skip
      have k1 : (c67 == 0) = true := by rw [hq1]; rfl
      have HQ1 := hid hq1
      have kc71 : (c71 == 0) = false := by simpa using hq
      clear hq
      clear hq1
      by_cases c77 : (0 : Int) ≤ x14
      · skip
        by_cases hes : x14 + md11 < 16
        · skip
          have hsh : m13 * 2 ^ (x14 + md11).toNat = v66 := by rw [← HNm13.out, ← HNx14.out, ← HNv66.out]; exact ex_shift (by omega) (by rw [HNc67.out]; exact HQ1.out) (by rw [HNx14.out]; omega)
          obtain ⟨xb1, xb2⟩ : -32767 ≤ v66 ∧ v66 ≤ 32767 := by rw [← HNv66.out]; exact scV_bd _ _
          have hxw : IntKind.i64.wrap v66 = v66 := IntWalk.i64_in _ (by omega)
          go_wp2_with fail
          refine (sane6 _ (HT.out.below (by first | exact H69.out.below' | exact H69.out.below) HB0.out)).mono ?_
          rintro e w78 ⟨rfl, hb⟩
          have H79 := hid (H69.out.call hb)
          clear hb
          go_wp2_with fail
          go_ret
          exact ⟨rfl, by first | exact H79.out.below | exact H79.out.below'⟩
        · skip
          go_wp2_with fail
          refine (sane6 _ (HT.out.below (by first | exact H69.out.below' | exact H69.out.below) HB0.out)).mono ?_
          rintro e w80 ⟨rfl, hb⟩
          have H81 := hid (H69.out.call hb)
          clear hb
          go_wp2_with fail
          go_ret
          exact ⟨rfl, by first | exact H81.out.below | exact H81.out.below'⟩
      · skip
        go_wp2_with fail
        refine (sane6 _ (HT.out.below (by first | exact H69.out.below' | exact H69.out.below) HB0.out)).mono ?_
        rintro e w82 ⟨rfl, hb⟩
        have H83 := hid (H69.out.call hb)
        clear hb
        go_wp2_with fail
        go_ret
        exact ⟨rfl, by first | exact H83.out.below | exact H83.out.below'⟩
    · skip
      have k1 : (c67 == 0) = true := by rw [hq1]; rfl
      have HQ1 := hid hq1
      have k2 : (c71 == 0) = true := by rw [hq2]; rfl
      obtain ⟨ho1, ho2, ho3⟩ := HOR.out hq1 hq2
      subst ho1
      clear hq1 hq2
      by_cases hk0 : k73 ≤ 0
      · skip
        have hxy : v66 ≤ v70 := ho2 hk0
        by_cases hk1 : 0 ≤ k73
        · skip
          have hyx : v70 ≤ v66 := ho3 hk1
          by_cases c84 : (0 : Int) ≤ x14
          · skip
            by_cases hes : x14 + md11 < 16
            · skip
              have hsh : m13 * 2 ^ (x14 + md11).toNat = v66 := by rw [← HNm13.out, ← HNx14.out, ← HNv66.out]; exact ex_shift (by omega) (by rw [HNc67.out]; exact HQ1.out) (by rw [HNx14.out]; omega)
              obtain ⟨xb1, xb2⟩ : -32767 ≤ v66 ∧ v66 ≤ 32767 := by rw [← HNv66.out]; exact scV_bd _ _
              have hxw : IntKind.i64.wrap v66 = v66 := IntWalk.i64_in _ (by omega)
              go_wp2_with fail
              refine (sane6 _ (HT.out.below (by first | exact H69.out.below' | exact H69.out.below) HB0.out)).mono ?_
              rintro e w85 ⟨rfl, hb⟩
              have H86 := hid (H69.out.call hb)
              clear hb
              go_wp2_with fail
              go_ret
              exact ⟨rfl, by first | exact H86.out.below | exact H86.out.below'⟩
            · skip
              go_wp2_with fail
              refine (sane6 _ (HT.out.below (by first | exact H69.out.below' | exact H69.out.below) HB0.out)).mono ?_
              rintro e w87 ⟨rfl, hb⟩
              have H88 := hid (H69.out.call hb)
              clear hb
              go_wp2_with fail
              go_ret
              exact ⟨rfl, by first | exact H88.out.below | exact H88.out.below'⟩
          · skip
            go_wp2_with fail
            refine (sane6 _ (HT.out.below (by first | exact H69.out.below' | exact H69.out.below) HB0.out)).mono ?_
            rintro e w89 ⟨rfl, hb⟩
            have H90 := hid (H69.out.call hb)
            clear hb
            go_wp2_with fail
            go_ret
            exact ⟨rfl, by first | exact H90.out.below | exact H90.out.below'⟩
        · skip
          by_cases c91 : (0 : Int) ≤ x14
          · skip
            by_cases hes : x14 + md11 < 16
            · skip
              have hsh : m13 * 2 ^ (x14 + md11).toNat = v66 := by rw [← HNm13.out, ← HNx14.out, ← HNv66.out]; exact ex_shift (by omega) (by rw [HNc67.out]; exact HQ1.out) (by rw [HNx14.out]; omega)
              obtain ⟨xb1, xb2⟩ : -32767 ≤ v66 ∧ v66 ≤ 32767 := by rw [← HNv66.out]; exact scV_bd _ _
              have hxw : IntKind.i64.wrap v66 = v66 := IntWalk.i64_in _ (by omega)
              go_wp2_with fail
              refine (sane6 _ (HT.out.below (by first | exact H69.out.below' | exact H69.out.below) HB0.out)).mono ?_
              rintro e w92 ⟨rfl, hb⟩
              have H93 := hid (H69.out.call hb)
              clear hb
              go_wp2_with fail
              go_ret
              exact ⟨rfl, by first | exact H93.out.below | exact H93.out.below'⟩
            · skip
              go_wp2_with fail
              refine (sane6 _ (HT.out.below (by first | exact H69.out.below' | exact H69.out.below) HB0.out)).mono ?_
              rintro e w94 ⟨rfl, hb⟩
              have H95 := hid (H69.out.call hb)
              clear hb
              go_wp2_with fail
              go_ret
              exact ⟨rfl, by first | exact H95.out.below | exact H95.out.below'⟩
          · skip
            go_wp2_with fail
            refine (sane6 _ (HT.out.below (by first | exact H69.out.below' | exact H69.out.below) HB0.out)).mono ?_
            rintro e w96 ⟨rfl, hb⟩
            have H97 := hid (H69.out.call hb)
            clear hb
            go_wp2_with fail
            go_ret
            exact ⟨rfl, by first | exact H97.out.below | exact H97.out.below'⟩
      · skip
        by_cases hk1 : 0 ≤ k73
        · skip
          have hyx : v70 ≤ v66 := ho3 hk1
          by_cases c98 : (0 : Int) ≤ x14
          · skip
            by_cases hes : x14 + md11 < 16
            · skip
              have hsh : m13 * 2 ^ (x14 + md11).toNat = v66 := by rw [← HNm13.out, ← HNx14.out, ← HNv66.out]; exact ex_shift (by omega) (by rw [HNc67.out]; exact HQ1.out) (by rw [HNx14.out]; omega)
              obtain ⟨xb1, xb2⟩ : -32767 ≤ v66 ∧ v66 ≤ 32767 := by rw [← HNv66.out]; exact scV_bd _ _
              have hxw : IntKind.i64.wrap v66 = v66 := IntWalk.i64_in _ (by omega)
              go_wp2_with fail
              refine (sane6 _ (HT.out.below (by first | exact H69.out.below' | exact H69.out.below) HB0.out)).mono ?_
              rintro e w99 ⟨rfl, hb⟩
              have H100 := hid (H69.out.call hb)
              clear hb
              go_wp2_with fail
              go_ret
              exact ⟨rfl, by first | exact H100.out.below | exact H100.out.below'⟩
            · skip
              go_wp2_with fail
              refine (sane6 _ (HT.out.below (by first | exact H69.out.below' | exact H69.out.below) HB0.out)).mono ?_
              rintro e w101 ⟨rfl, hb⟩
              have H102 := hid (H69.out.call hb)
              clear hb
              go_wp2_with fail
              go_ret
              exact ⟨rfl, by first | exact H102.out.below | exact H102.out.below'⟩
          · skip
            go_wp2_with fail
            refine (sane6 _ (HT.out.below (by first | exact H69.out.below' | exact H69.out.below) HB0.out)).mono ?_
            rintro e w103 ⟨rfl, hb⟩
            have H104 := hid (H69.out.call hb)
            clear hb
            go_wp2_with fail
            go_ret
            exact ⟨rfl, by first | exact H104.out.below | exact H104.out.below'⟩
        · skip
          by_cases c105 : (0 : Int) ≤ x14
          · skip
            by_cases hes : x14 + md11 < 16
            · skip
              have hsh : m13 * 2 ^ (x14 + md11).toNat = v66 := by rw [← HNm13.out, ← HNx14.out, ← HNv66.out]; exact ex_shift (by omega) (by rw [HNc67.out]; exact HQ1.out) (by rw [HNx14.out]; omega)
              obtain ⟨xb1, xb2⟩ : -32767 ≤ v66 ∧ v66 ≤ 32767 := by rw [← HNv66.out]; exact scV_bd _ _
              have hxw : IntKind.i64.wrap v66 = v66 := IntWalk.i64_in _ (by omega)
              go_wp2_with fail
              refine (sane6 _ (HT.out.below (by first | exact H69.out.below' | exact H69.out.below) HB0.out)).mono ?_
              rintro e w106 ⟨rfl, hb⟩
              have H107 := hid (H69.out.call hb)
              clear hb
              go_wp2_with fail
              go_ret
              exact ⟨rfl, by first | exact H107.out.below | exact H107.out.below'⟩
            · skip
              go_wp2_with fail
              refine (sane6 _ (HT.out.below (by first | exact H69.out.below' | exact H69.out.below) HB0.out)).mono ?_
              rintro e w108 ⟨rfl, hb⟩
              have H109 := hid (H69.out.call hb)
              clear hb
              go_wp2_with fail
              go_ret
              exact ⟨rfl, by first | exact H109.out.below | exact H109.out.below'⟩
          · skip
            go_wp2_with fail
            refine (sane6 _ (HT.out.below (by first | exact H69.out.below' | exact H69.out.below) HB0.out)).mono ?_
            rintro e w110 ⟨rfl, hb⟩
            have H111 := hid (H69.out.call hb)
            clear hb
            go_wp2_with fail
            go_ret
            exact ⟨rfl, by first | exact H111.out.below | exact H111.out.below'⟩
end Go.Proofs.YtfmahdcnikeaiaaDoor
