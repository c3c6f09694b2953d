/-
  The walk of IeeeSigns: the sign of a value only changes the sign of what is computed.
-/
import Derived.Test.YtfmahdcnikeaiaaDoorSane6
import Derived.Test.YtfmahdcnikeaiaaDoorKX
namespace Go.Proofs.YtfmahdcnikeaiaaDoor
open Go.RowKit
attribute [local go_sem ↓] Go.wp_at_zero Go.wp_at_succ
set_option linter.unusedVariables false
set_option linter.unusedSimpArgs false

theorem flip_int {b : Int} (h : 0 ≤ b ∧ b < 18446744073709551616) : ∃ f : Int, bits .xor .u64 b 9223372036854775808 = f ∧ f.toNat = flipV b.toNat ∧ 0 ≤ f ∧ f < 18446744073709551616 := by
  obtain ⟨v, rfl⟩ := Int.eq_ofNat_of_zero_le h.1
  have hv : v < 18446744073709551616 := by omega
  refine ⟨((flipV v : Nat) : Int), ?_, by simp, by omega, by have := (flip_parts hv).2.2.2.2; omega⟩
  rw [show (9223372036854775808 : Int) = ((9223372036854775808 : Nat) : Int) from rfl, u64_xor_nat v _ hv (by decide), flip_lt hv]
  rfl
theorem flip_cmp {v : Nat} (h : v < 18446744073709551616) (ho : cmpOk v (flipV v) = true) : (cmpV v (flipV v) == 0) = (clsV v == 0) := by
  have h7 := (flip_all h 0).2.2.2.2.2.2
  have hz := rk_zero h
  unfold cmpV; rw [if_pos ho, h7]; unfold cmpI
  by_cases c : clsV v = 0
  · have := hz.2 c; rw [c, this]; decide
  · have hr : rkV v ≠ 0 := fun e => c (hz.1 e)
    rw [show (clsV v == 0) = false by simpa using c]
    split
    · decide
    · split
      · decide
      · exfalso; omega

set_option maxRecDepth 100000 in
set_option maxHeartbeats 12800000 in
theorem walk_IeeeSigns (a : Option Addr) (n c : Nat) (zs : List Int) (shift : Int) (W : World) (hr : RowIn .i64 W a n c zs) (_ : I64 shift) (hT : Tab W) :
    Calls Tryd.prog 7 #[.slice a n c, .int .i64 shift] W fun e w' => e = .returned (.bool true) ∧ Below W.heap.size W w' := by
  obtain ⟨B, hB⟩ : ∃ B, W.heap.size = B := ⟨_, rfl⟩
  have HI0 := hid (St.init hB)
  have HT := hid hT
  have HB0 := hid (show 0 < B from by rw [← hB]; exact hT.pos)
  clear hT
  have HN := hid (nearRow hr hB)
  have HR := hid hr
  clear hr
  go_enter Tryd.func7, Tryd.ntmps7
  go_wp2_with fail
  obtain ⟨K1, hK1⟩ : ∃ D, W.heap.size = D := ⟨_, rfl⟩
  refine (newB_any B _ _ _ _ _ HR.out.len (HI0.out.oldRow HR.out.row) HN.out HI0.out.size).mono ?_
  rintro e w2 ⟨rfl, ht, hb, hs⟩
  rw [hK1] at ht ⊢
  have H3 := hid (HI0.out.newTape ht hb hK1)
  clear ht hb hs hK1
  go_wp2_with fail
  refine (bits_any B K1 _ (H3.out.tapeAt 0 rfl)).mono ?_
  rintro e w5 ⟨b4, rfl, ⟨b4a, b4b⟩, htn, hgn⟩
  have H6 := hid (H3.out.next 0 rfl htn hgn)
  clear htn hgn
  go_wp2_with fail
  refine (mod_any _ _ _ (by omega) (by omega)).mono ?_
  rintro e w7 ⟨rfl, hsw⟩
  have hsw2 : w5 = w7 := by first | exact hsw | exact hsw.symm
  clear hsw
  subst hsw2
  obtain ⟨md8, hmd8⟩ : ∃ xx', shift % 25 = xx' := ⟨_, rfl⟩
  rw [hmd8]
  have HNmd8 := hid hmd8
  clear hmd8
  obtain ⟨md8a, md8b⟩ : 0 ≤ md8 ∧ md8 < 25 := by rw [← HNmd8.out]; exact ⟨Int.emod_nonneg _ (by omega), Int.emod_lt_of_pos _ (by omega)⟩
  go_wp2_with fail
  refine (scale_any b4 md8 (by omega) _ (HT.out.below (by first | exact H6.out.below' | exact H6.out.below) HB0.out)).mono ?_
  rintro e w9 ⟨rfl, hb⟩
  have H10 := hid (H6.out.call hb)
  clear hb
  obtain ⟨v11, hv11⟩ : ∃ xx', scV b4.toNat md8 = xx' := ⟨_, rfl⟩
  rw [hv11]
  have HNv11 := hid hv11
  clear hv11
  obtain ⟨c12, hc12⟩ : ∃ xx', scC b4.toNat md8 = xx' := ⟨_, rfl⟩
  rw [hc12]
  have HNc12 := hid hc12
  clear hc12
  go_upto_region 4 with fail
  obtain ⟨f, hf1, hf2, fb1, fb2⟩ := flip_int (b := b4) (by omega)
  have HF2 := hid hf2
  have HFA := hid (show clsV f.toNat = clsV b4.toNat ∧ ieOk f.toNat = ieOk b4.toNat ∧ ieM f.toNat = -ieM b4.toNat ∧ ieE f.toNat = ieE b4.toNat ∧ scC f.toNat md8 = scC b4.toNat md8 ∧ scV f.toNat md8 = -scV b4.toNat md8 ∧ rkV f.toNat = -rkV b4.toNat from by rw [hf2]; exact flip_all (by omega) md8)
  clear hf2
  obtain ⟨sv1, sv2⟩ := scV_bd b4.toNat md8
  rw [HNv11.out] at sv1 sv2
  go_wp2_with fail
  refine (scale_any f md8 (by omega) _ (HT.out.below (by first | exact H10.out.below' | exact H10.out.below) HB0.out)).mono ?_
  rintro e w13 ⟨rfl, hb⟩
  have H14 := hid (H10.out.call hb)
  clear hb
  rw [HFA.out.2.2.2.2.1, HFA.out.2.2.2.2.2.1]
  rw [HNv11.out]
  rw [HNc12.out]
  go_wp2_with fail
  refine (parts_anyI b4 (by omega) _ (HT.out.below (by first | exact H14.out.below' | exact H14.out.below) HB0.out)).mono ?_
  rintro e w15 ⟨rfl, hsw⟩
  have hsw2 : w13 = w15 := by first | exact hsw | exact hsw.symm
  clear hsw
  subst hsw2
  obtain ⟨m16, hm16⟩ : ∃ xx', ieM b4.toNat = xx' := ⟨_, rfl⟩
  rw [hm16]
  have HNm16 := hid hm16
  clear hm16
  obtain ⟨x17, hx17⟩ : ∃ xx', ieE b4.toNat = xx' := ⟨_, rfl⟩
  rw [hx17]
  have HNx17 := hid hx17
  clear hx17
  obtain ⟨b18, hb18⟩ : ∃ xx', ieOk b4.toNat = xx' := ⟨_, rfl⟩
  rw [hb18]
  have HNb18 := hid hb18
  clear hb18
  go_upto_region 6 with fail
  obtain ⟨mm1, mm2⟩ : -9007199254740992 ≤ m16 ∧ m16 ≤ 9007199254740992 := by rw [← HNm16.out]; have := ieA_lt b4.toNat; unfold ieM; split <;> omega
  go_wp2_with fail
  refine (parts_anyI f (by omega) _ (HT.out.below (by first | exact H14.out.below' | exact H14.out.below) HB0.out)).mono ?_
  rintro e w19 ⟨rfl, hsw⟩
  have hsw2 : w13 = w19 := by first | exact hsw | exact hsw.symm
  clear hsw
  subst hsw2
  rw [HFA.out.2.1, HFA.out.2.2.1, HFA.out.2.2.2.1]
  rw [HNm16.out]
  rw [HNx17.out]
  rw [HNb18.out]
  go_wp2_with fail
  refine (compare_any b4 f (by omega) (by omega) _).mono ?_
  rintro e w20 ⟨rfl, hsw⟩
  have hsw2 : w13 = w20 := by first | exact hsw | exact hsw.symm
  clear hsw
  subst hsw2
  obtain ⟨k21, hk21⟩ : ∃ xx', cmpV b4.toNat f.toNat = xx' := ⟨_, rfl⟩
  rw [hk21]
  have HNk21 := hid hk21
  clear hk21
  obtain ⟨b22, hb22⟩ : ∃ xx', cmpOk b4.toNat f.toNat = xx' := ⟨_, rfl⟩
  rw [hb22]
  have HNb22 := hid hb22
  clear hb22
  go_wp2_with fail
  refine (class_anyI b4 (by omega) _).mono ?_
  rintro e w23 ⟨rfl, hsw⟩
  have hsw2 : w13 = w23 := by first | exact hsw | exact hsw.symm
  clear hsw
  subst hsw2
  obtain ⟨c24, hc24⟩ : ∃ xx', clsV b4.toNat = xx' := ⟨_, rfl⟩
  rw [hc24]
  have HNc24 := hid hc24
  clear hc24
  go_wp2_with fail
  refine (class_anyI f (by omega) _).mono ?_
  rintro e w25 ⟨rfl, hsw⟩
  have hsw2 : w13 = w25 := by first | exact hsw | exact hsw.symm
  clear hsw
  subst hsw2
  rw [HFA.out.1]
  rw [HNc24.out]
  cases b22 with
  | false =>
    go_wp2_with fail
    refine (sane6 _ (HT.out.below (by first | exact H14.out.below' | exact H14.out.below) HB0.out)).mono ?_
    rintro e w26 ⟨rfl, hb⟩
    have H27 := hid (H14.out.call hb)
    clear hb
    go_wp2_with fail
    go_ret
    exact ⟨rfl, by first | exact H27.out.below | exact H27.out.below'⟩
  | true =>
    have hk0 : (k21 == 0) = (c24 == 0) := by
      have hh := flip_cmp (v := b4.toNat) (by omega) (by rw [← HF2.out]; exact HNb22.out)
      rw [← HF2.out, HNk21.out, HNc24.out] at hh; exact hh
    go_wp2_with fail
    refine (class_anyI b4 (by omega) _).mono ?_
    rintro e w28 ⟨rfl, hsw⟩
    have hsw2 : w13 = w28 := by first | exact hsw | exact hsw.symm
    clear hsw
    subst hsw2
    rw [HNc24.out]
    go_wp2_with fail
    refine (sane6 _ (HT.out.below (by first | exact H14.out.below' | exact H14.out.below) HB0.out)).mono ?_
    rintro e w29 ⟨rfl, hb⟩
    have H30 := hid (H14.out.call hb)
    clear hb
    go_wp2_with fail
    go_ret
    exact ⟨rfl, by first | exact H30.out.below | exact H30.out.below'⟩
end Go.Proofs.YtfmahdcnikeaiaaDoor
