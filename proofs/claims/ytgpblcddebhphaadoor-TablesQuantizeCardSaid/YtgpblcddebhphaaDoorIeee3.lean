/-
  Contracts: scaled values, in the program and in the reference.
-/
import Derived.Test.YtgpblcddebhphaaDoorIeee2
import Derived.Test.YtgpblcddebhphaaDoorKA
import Derived.Deep.QuietTactic
import Derived.BigQuiet
namespace Go.Proofs.YtgpblcddebhphaaDoor
open Go.RowKit
attribute [local go_sem ↓] Go.wp_at_zero Go.wp_at_succ
set_option linter.unusedVariables false
set_option linter.unusedSimpArgs false

theorem i64_and_pow (a : Nat) (s : Nat) (ha : a < 9223372036854775808) (hs : s ≤ 62) : bits .and .i64 (a : Int) (2 ^ s - 1) = ((a % 2 ^ s : Nat) : Int) := by
  have hp : 2 ^ s ≤ 2 ^ 62 := Nat.pow_le_pow_right (by decide) hs
  have hp0 := two_pos s
  have e : ((2 : Int) ^ s - 1) = ((2 ^ s - 1 : Nat) : Int) := by
    have : ((2 ^ s : Nat) : Int) = (2 : Int) ^ s := by simp
    omega
  have h1 : (BitVec.ofInt 64 (a : Int)).toNat = a := by rw [BitVec.ofInt_natCast, BitVec.toNat_ofNat]; exact Nat.mod_eq_of_lt (by omega)
  have h2 : (BitVec.ofInt 64 ((2 ^ s - 1 : Nat) : Int)).toNat = 2 ^ s - 1 := by rw [BitVec.ofInt_natCast, BitVec.toNat_ofNat]; exact Nat.mod_eq_of_lt (by omega)
  rw [e]
  show IntKind.i64.wrap ((BitVec.ofInt 64 (a : Int) &&& BitVec.ofInt 64 ((2 ^ s - 1 : Nat) : Int)).toNat : Int) = _
  rw [BitVec.toNat_and, h1, h2, Nat.and_two_pow_sub_one_eq_mod, IntKind.wrap_i64]
  have := Nat.mod_lt a hp0
  omega

/-- Rounding in whole numbers of either sign's kind. -/
theorem near_int {a s : Nat} {q r H : Int} (hq : q = ((a / 2 ^ s : Nat) : Int)) (hr : r = ((a % 2 ^ s : Nat) : Int)) (hH : H = ((2 ^ (s - 1) : Nat) : Int)) : (nearN a s : Int) = (if H < r then q + 1 else if r = H then (if q % 2 = 1 then q + 1 else q) else q) := by
  unfold nearN
  rw [hq, hr, hH]
  obtain ⟨x, hx⟩ : ∃ x, a / 2 ^ s = x := ⟨_, rfl⟩
  obtain ⟨y, hy⟩ : ∃ y, a % 2 ^ s = y := ⟨_, rfl⟩
  obtain ⟨z, hz⟩ : ∃ z, 2 ^ (s - 1) = z := ⟨_, rfl⟩
  rw [hx, hy, hz]
  (repeat' split) <;> omega

set_option maxRecDepth 100000 in
set_option maxHeartbeats 1600000 in
theorem nearest_any (a s : Int) (h : 0 ≤ a ∧ a < 9007199254740992) (h' : 1 ≤ s ∧ s ≤ 2000) (W : World) : Calls Tryd.prog 39 #[.int .i64 a, .int .i64 s] W fun e w' => e = .returned (.int .i64 (nearN a.toNat s.toNat : Int)) ∧ Below W.heap.size W w' := by
  have HN := hid (near_int (a := a.toNat) (s := s.toNat) rfl rfl rfl)
  obtain ⟨a1, a2⟩ := h
  obtain ⟨s1, s2⟩ := h'
  by_cases c : 54 < s
  · rw [near_big (by omega) (by omega)]
    clear HN
    go_enter Tryd.func39, Tryd.ntmps39
    go_wp2
    go_ret
    exact ⟨rfl, Below.refl _ _⟩
  · rw [HN.out]
    clear HN
    have p3 : 2 ^ s.toNat ≤ 2 ^ 54 := Nat.pow_le_pow_right (by decide) (by omega)
    have p4 : 2 ^ s.toNat = 2 * 2 ^ (s.toNat - 1) := by rw [show s.toNat = (s.toNat - 1) + 1 by omega, Nat.pow_succ]; simp; omega
    have p2 := two_pos (s.toNat - 1)
    have b1 := i64_and_pow a.toNat s.toNat (by omega) (by omega)
    have d1 : (a / 2 ^ s.toNat) = ((a.toNat / 2 ^ s.toNat : Nat) : Int) := by
      have : a = (a.toNat : Int) := by omega
      conv => lhs; rw [this]
      simp
    have d2 : a.toNat / 2 ^ s.toNat ≤ a.toNat := Nat.div_le_self _ _
    have d3 : a.toNat % 2 ^ s.toNat < 2 ^ s.toNat := Nat.mod_lt _ (two_pos _)
    obtain ⟨q, hq⟩ : ∃ q : Int, ((a.toNat / 2 ^ s.toNat : Nat) : Int) = q := ⟨_, rfl⟩
    obtain ⟨r, hr⟩ : ∃ q : Int, ((a.toNat % 2 ^ s.toNat : Nat) : Int) = q := ⟨_, rfl⟩
    obtain ⟨H, hH⟩ : ∃ q : Int, ((2 ^ (s.toNat - 1) : Nat) : Int) = q := ⟨_, rfl⟩
    obtain ⟨q1, q2⟩ : 0 ≤ q ∧ q ≤ 9007199254740992 := by
      have := Int.natCast_nonneg (a.toNat / 2 ^ s.toNat)
      omega
    obtain ⟨r1, r2⟩ : 0 ≤ r ∧ r ≤ 18014398509481984 := by omega
    obtain ⟨H1, H2⟩ : 1 ≤ H ∧ H ≤ 9007199254740992 := by omega
    rw [hq] at d1 ⊢
    rw [hr] at b1 ⊢
    rw [hH] at ⊢
    have e1 : (2 : Int) ^ s.toNat = 2 * H := by have : ((2 ^ s.toNat : Nat) : Int) = (2 : Int) ^ s.toNat := by simp
                                                omega
    have e2 : (2 : Int) ^ (s.toNat - 1) = H := by have : ((2 ^ (s.toNat - 1) : Nat) : Int) = (2 : Int) ^ (s.toNat - 1) := by simp
                                                  omega
    have e3 : (2 : Int) ^ (s - 1).toNat = H := by rw [← e2]; congr 1; omega
    rw [e1] at b1 d1
    rw [show (a.toNat : Int) = a by omega] at b1
    clear hq hr hH p3 d2 d3 p4 p2
    go_enter Tryd.func39, Tryd.ntmps39
    go_wp2
    go_quiet (fail)
    go_wp2
    all_goals (go_ret; refine ⟨ret_i ?_, below_drewN (Below.refl _ _) _⟩; (repeat' split) <;> first | rfl | omega | (simp only [beq_iff_eq, bne_iff_ne, ne_eq, beq_eq_false_iff_ne, bne_eq_false_iff_eq, decide_eq_true_eq] at *; omega))

theorem sc_spec (v : Nat) (s : Int) : (s < 0 ∨ 24 < s → scC v s = 2 ∧ scV v s = 0) ∧ (¬ (s < 0 ∨ 24 < s) → ieOk v = false → scC v s = 1 ∧ scV v s = 0) ∧
    (¬ (s < 0 ∨ 24 < s) → ieOk v = true → ieA v = 0 → scC v s = 0 ∧ scV v s = 0) ∧ (¬ (s < 0 ∨ 24 < s) → ieOk v = true → ieA v ≠ 0 → scBig (ieA v) (ieE v + s) = true → scC v s = 3 ∧ scV v s = 0) ∧
    (¬ (s < 0 ∨ 24 < s) → ieOk v = true → ieA v ≠ 0 → scBig (ieA v) (ieE v + s) = false → scC v s = 0 ∧ scV v s = (if fS v = true then -((scN (ieA v) (ieE v + s) : Nat) : Int) else (scN (ieA v) (ieE v + s) : Int))) := by
  refine ⟨fun h => ?_, fun h h2 => ?_, fun h h2 h3 => ?_, fun h h2 h3 h4 => ?_, fun h h2 h3 h4 => ?_⟩
  · have : scC v s = 2 := by unfold scC; rw [if_pos h]
    exact ⟨this, by unfold scV; rw [this]; rfl⟩
  · have : scC v s = 1 := by unfold scC; rw [if_neg h, if_pos h2]
    exact ⟨this, by unfold scV; rw [this]; rfl⟩
  · have : scC v s = 0 := by unfold scC; rw [if_neg h, if_neg (by simp [h2]), if_pos h3]
    exact ⟨this, by unfold scV; rw [this, if_pos rfl, if_pos h3]⟩
  · have : scC v s = 3 := by unfold scC; rw [if_neg h, if_neg (by simp [h2]), if_neg h3, if_pos h4]
    exact ⟨this, by unfold scV; rw [this]; rfl⟩
  · have : scC v s = 0 := by unfold scC; rw [if_neg h, if_neg (by simp [h2]), if_neg h3, if_neg (by simp [h4])]
    exact ⟨this, by unfold scV; rw [this, if_pos rfl, if_neg h3]⟩

set_option maxRecDepth 100000 in
set_option maxHeartbeats 3200000 in
theorem scale_any (x s : Int) (h0 : 0 ≤ x ∧ x < 18446744073709551616) (W : World) (hT : Tab W) : Calls Tryd.prog 36 #[.int .u64 x, .int .i64 s] W fun e w' => e = .returned (.tuple #[.int .i64 (scV x.toNat s), .int .i64 (scC x.toNat s)]) ∧ Below W.heap.size W w' := by
  have HP := hid (show Calls Tryd.prog 38 #[.int .u64 x] W _ from parts_anyI x h0 W hT)
  obtain ⟨v, hv⟩ : ∃ v, x.toNat = v := ⟨_, rfl⟩
  rw [hv] at HP ⊢
  clear hv
  obtain ⟨k1, k2, k3, k4, k5⟩ := sc_spec v s
  by_cases c1 : s < 0 ∨ 24 < s
  · rw [(k1 c1).1, (k1 c1).2]
    clear k1 k2 k3 k4 k5
    rcases c1 with c1 | c1
    all_goals
      go_enter Tryd.func36, Tryd.ntmps36
      go_wp2_with (go_at_call 38; refine HP.out.mono ?_; rintro e w' ⟨rfl, hw⟩; obtain rfl := hw.symm; clear hw)
      go_ret2
      exact ⟨rfl, Below.refl _ _⟩
  replace k2 := k2 c1
  replace k3 := k3 c1
  replace k4 := k4 c1
  replace k5 := k5 c1
  obtain ⟨s1, s2⟩ : 0 ≤ s ∧ s ≤ 24 := by omega
  clear k1 c1
  cases c2 : ieOk v
  · rw [(k2 c2).1, (k2 c2).2]
    rw [c2] at HP
    clear k2 k3 k4 k5
    go_enter Tryd.func36, Tryd.ntmps36
    go_wp2_with (go_at_call 38; refine HP.out.mono ?_; rintro e w' ⟨rfl, hw⟩; obtain rfl := hw.symm; clear hw)
    go_ret2
    exact ⟨rfl, Below.refl _ _⟩
  rw [c2] at HP
  replace k3 := k3 c2
  replace k4 := k4 c2
  replace k5 := k5 c2
  clear k2 c2
  obtain ⟨E1, E2⟩ := ieE_bd v
  by_cases c3 : ieA v = 0
  · rw [(k3 c3).1, (k3 c3).2]
    rw [show ieM v = 0 by unfold ieM; rw [c3]; simp] at HP
    clear k3 k4 k5
    obtain ⟨E, hE⟩ : ∃ E, ieE v = E := ⟨_, rfl⟩
    rw [hE] at HP E1 E2
    clear hE
    go_enter Tryd.func36, Tryd.ntmps36
    go_wp2_with (go_at_call 38; refine HP.out.mono ?_; rintro e w' ⟨rfl, hw⟩; obtain rfl := hw.symm; clear hw)
    go_ret2
    exact ⟨rfl, Below.refl _ _⟩
  replace k4 := k4 c3
  replace k5 := k5 c3
  have a0 := ieA_lt v
  have HM := hid (show ieM v = if fS v = true then -((ieA v : Nat) : Int) else (ieA v : Int) from rfl)
  obtain ⟨A, hA⟩ : ∃ A, ieA v = A := ⟨_, rfl⟩
  obtain ⟨E, hE⟩ : ∃ E, ieE v = E := ⟨_, rfl⟩
  obtain ⟨M, hM⟩ : ∃ M, ieM v = M := ⟨_, rfl⟩
  obtain ⟨S, hS⟩ : ∃ S, fS v = S := ⟨_, rfl⟩
  rw [hM, hE] at HP
  rw [hE] at E1 E2
  rw [hM, hA, hS] at HM
  rw [hA, hE] at k4 k5
  rw [hS] at k5
  rw [hA] at a0 c3
  clear hE hM hS k3 hA
  obtain ⟨e, he⟩ : ∃ e, E + s = e := ⟨_, rfl⟩
  obtain ⟨e1, e2⟩ : -1074 ≤ e ∧ e ≤ 1124 := by omega
  rw [he] at k4 k5
  have HA := hid a0
  by_cases c4 : e < 0
  · have hn : scN A e = nearN A (-e).toNat := by unfold scN; rw [if_pos c4]
    have hbg : scBig A e = decide (32767 < scN A e) := by unfold scBig; rw [show decide (0 ≤ e ∧ (32767 < A ∨ 15 < e)) = false by simp; omega]; simp
    have HN := hid (show Calls Tryd.prog 39 #[.int .i64 (A : Int), .int .i64 (-e)] W _ from nearest_any (A : Int) (-e) (by omega) (by omega) W)
    simp only [Int.toNat_natCast] at HN
    rw [← hn] at HN
    obtain ⟨a1, a2⟩ : (A : Int) ≤ 9007199254740992 ∧ 1 ≤ (A : Int) := by omega
    have nb : (scN A e : Int) ≤ 9007199254740993 := by
      have := near_le A (-e).toNat; have := Nat.div_le_self A (2 ^ (-e).toNat); rw [hn]; omega
    obtain ⟨N, hN⟩ : ∃ N : Int, (scN A e : Int) = N := ⟨_, rfl⟩
    obtain ⟨a, ha⟩ : ∃ a : Int, (A : Int) = a := ⟨_, rfl⟩
    have hN' : scN A e = N.toNat := by omega
    rw [hN', ] at hbg
    have N0 : 0 ≤ N := by omega
    rw [hN] at k5 HN nb
    rw [ha] at HN a1 a2 HM
    clear hn HA a0 c3 hN ha hN'
    cases S
    all_goals
      have hm := HM.out
      clear HM
      simp only [if_true, if_false, Bool.false_eq_true] at hm k5
      subst hm
      by_cases c5 : 32767 < N
      · have hg : scBig A e = true := by rw [hbg]; simp; omega
        rw [(k4 hg).1, (k4 hg).2]
        clear k4 k5 hg hbg
        go_enter Tryd.func36, Tryd.ntmps36
        go_wp2_with (first | (go_at_call 38; refine HP.out.mono ?_; rintro e w' ⟨rfl, hw⟩; obtain rfl := hw.symm; clear hw) | (go_at_call 39; refine HN.out.mono ?_; rintro e w' ⟨rfl, hb⟩; have HB := hid hb; clear hb))
        go_ret2
        exact ⟨rfl, HB.out⟩
      · have hg : scBig A e = false := by rw [hbg]; simp; omega
        rw [(k5 hg).1, (k5 hg).2]
        clear k4 k5 hg hbg
        go_enter Tryd.func36, Tryd.ntmps36
        go_wp2_with (first | (go_at_call 38; refine HP.out.mono ?_; rintro e w' ⟨rfl, hw⟩; obtain rfl := hw.symm; clear hw) | (go_at_call 39; refine HN.out.mono ?_; rintro e w' ⟨rfl, hb⟩; have HB := hid hb; clear hb))
        go_ret2
        exact ⟨rfl, HB.out⟩
  · have hn : scN A e = A * 2 ^ e.toNat := by unfold scN; rw [if_neg c4]
    obtain ⟨a1, a2⟩ : (A : Int) ≤ 9007199254740992 ∧ 1 ≤ (A : Int) := by omega
    by_cases c5 : 32767 < A ∨ 15 < e
    · have hg : scBig A e = true := by unfold scBig; rw [show decide (0 ≤ e ∧ (32767 < A ∨ 15 < e)) = true by simp; omega]; simp
      rw [(k4 hg).1, (k4 hg).2]
      have c6 : 32767 < (A : Int) ∨ ((A : Int) ≤ 32767 ∧ 15 < e) := by omega
      obtain ⟨a, ha⟩ : ∃ a : Int, (A : Int) = a := ⟨_, rfl⟩
      rw [ha] at HM a1 a2 c6
      clear k4 k5 hg hn HA a0 c3 ha c5
      cases S
      all_goals
        have hm := HM.out
        clear HM
        simp only [if_true, if_false, Bool.false_eq_true] at hm
        subst hm
        rcases c6 with c6 | ⟨c6, c7⟩
        all_goals
          go_enter Tryd.func36, Tryd.ntmps36
          go_wp2_with (go_at_call 38; refine HP.out.mono ?_; rintro e w' ⟨rfl, hw⟩; obtain rfl := hw.symm; clear hw)
          go_ret2
          exact ⟨rfl, Below.refl _ _⟩
    · have hp : 2 ^ e.toNat ≤ 2 ^ 15 := Nat.pow_le_pow_right (by decide) (by omega)
      have hp0 := two_pos e.toNat
      have hl : A * 2 ^ e.toNat ≤ 32767 * 2 ^ 15 := Nat.mul_le_mul (by omega) hp
      have hbg : scBig A e = decide (32767 < scN A e) := by unfold scBig; rw [show decide (0 ≤ e ∧ (32767 < A ∨ 15 < e)) = false by simp; omega]; simp
      obtain ⟨N, hN⟩ : ∃ N : Int, (scN A e : Int) = N := ⟨_, rfl⟩
      obtain ⟨a, ha⟩ : ∃ a : Int, (A : Int) = a := ⟨_, rfl⟩
      have hN' : scN A e = N.toNat := by omega
      rw [hN'] at hbg
      have N0 : 0 ≤ N := by omega
      have hprod : a * 2 ^ e.toNat = N := by rw [← ha, ← hN, hn]; simp
      have N1 : N ≤ 1073709056 := by rw [hn] at hN; omega
      have hw : IntKind.i64.wrap N = N := IntWalk.i64_in _ (by omega)
      obtain ⟨a3, a4⟩ : a ≤ 32767 ∧ e ≤ 15 := by omega
      rw [hN] at k5
      rw [ha] at HM a1 a2
      clear hn HA a0 c3 hN ha hN' hp hp0 hl c5
      cases S
      all_goals
        have hm := HM.out
        clear HM
        simp only [if_true, if_false, Bool.false_eq_true] at hm k5
        subst hm
        by_cases c5 : 32767 < N
        · have hg : scBig A e = true := by rw [hbg]; simp; omega
          rw [(k4 hg).1, (k4 hg).2]
          clear k4 k5 hg hbg
          go_enter Tryd.func36, Tryd.ntmps36
          go_wp2_with (go_at_call 38; refine HP.out.mono ?_; rintro e w' ⟨rfl, hw⟩; obtain rfl := hw.symm; clear hw)
          go_ret2
          exact ⟨rfl, Below.refl _ _⟩
        · have hg : scBig A e = false := by rw [hbg]; simp; omega
          rw [(k5 hg).1, (k5 hg).2]
          clear k4 k5 hg hbg
          go_enter Tryd.func36, Tryd.ntmps36
          go_wp2_with (go_at_call 38; refine HP.out.mono ?_; rintro e w' ⟨rfl, hw⟩; obtain rfl := hw.symm; clear hw)
          go_ret2
          exact ⟨rfl, Below.refl _ _⟩

set_option maxRecDepth 100000 in
set_option maxHeartbeats 3200000 in
theorem qscale_any (x s : Int) (h0 : 0 ≤ x ∧ x < 18446744073709551616) (W : World) : Calls Tryd.prog 37 #[.int .u64 x, .int .i64 s] W fun e w' => e = .returned (.tuple #[.int .i64 (scV x.toNat s), .int .i64 (scC x.toNat s)]) ∧ Below W.heap.size W w' := by
  have HP := hid (show Calls Tryd.prog 40 #[.int .u64 x] W _ from qparts_anyI x h0 W)
  obtain ⟨v, hv⟩ : ∃ v, x.toNat = v := ⟨_, rfl⟩
  rw [hv] at HP ⊢
  clear hv
  obtain ⟨k1, k2, k3, k4, k5⟩ := sc_spec v s
  by_cases c1 : s < 0 ∨ 24 < s
  · rw [(k1 c1).1, (k1 c1).2]
    clear k1 k2 k3 k4 k5
    rcases c1 with c1 | c1
    all_goals
      go_enter Tryd.func37, Tryd.ntmps37
      go_wp2_with (go_at_call 40; refine HP.out.mono ?_; rintro e w' ⟨rfl, hw⟩; obtain rfl := hw.symm; clear hw)
      go_ret2
      exact ⟨rfl, Below.refl _ _⟩
  replace k2 := k2 c1
  replace k3 := k3 c1
  replace k4 := k4 c1
  replace k5 := k5 c1
  obtain ⟨s1, s2⟩ : 0 ≤ s ∧ s ≤ 24 := by omega
  clear k1 c1
  cases c2 : ieOk v
  · rw [(k2 c2).1, (k2 c2).2]
    rw [c2] at HP
    clear k2 k3 k4 k5
    go_enter Tryd.func37, Tryd.ntmps37
    go_wp2_with (go_at_call 40; refine HP.out.mono ?_; rintro e w' ⟨rfl, hw⟩; obtain rfl := hw.symm; clear hw)
    go_ret2
    exact ⟨rfl, Below.refl _ _⟩
  rw [c2] at HP
  replace k3 := k3 c2
  replace k4 := k4 c2
  replace k5 := k5 c2
  clear k2 c2
  obtain ⟨E1, E2⟩ := ieE_bd v
  by_cases c3 : ieA v = 0
  · rw [(k3 c3).1, (k3 c3).2]
    rw [show ieM v = 0 by unfold ieM; rw [c3]; simp] at HP
    clear k3 k4 k5
    obtain ⟨E, hE⟩ : ∃ E, ieE v = E := ⟨_, rfl⟩
    rw [hE] at HP E1 E2
    clear hE
    go_enter Tryd.func37, Tryd.ntmps37
    go_wp2_with (go_at_call 40; refine HP.out.mono ?_; rintro e w' ⟨rfl, hw⟩; obtain rfl := hw.symm; clear hw)
    go_ret2
    exact ⟨rfl, Below.refl _ _⟩
  replace k4 := k4 c3
  replace k5 := k5 c3
  have a0 := ieA_lt v
  have HM := hid (show ieM v = if fS v = true then -((ieA v : Nat) : Int) else (ieA v : Int) from rfl)
  obtain ⟨A, hA⟩ : ∃ A, ieA v = A := ⟨_, rfl⟩
  obtain ⟨E, hE⟩ : ∃ E, ieE v = E := ⟨_, rfl⟩
  obtain ⟨M, hM⟩ : ∃ M, ieM v = M := ⟨_, rfl⟩
  obtain ⟨S, hS⟩ : ∃ S, fS v = S := ⟨_, rfl⟩
  rw [hM, hE] at HP
  rw [hE] at E1 E2
  rw [hM, hA, hS] at HM
  rw [hA, hE] at k4 k5
  rw [hS] at k5
  rw [hA] at a0 c3
  clear hE hM hS k3 hA
  obtain ⟨e, he⟩ : ∃ e, E + s = e := ⟨_, rfl⟩
  obtain ⟨e1, e2⟩ : -1074 ≤ e ∧ e ≤ 1124 := by omega
  rw [he] at k4 k5
  have HA := hid a0
  by_cases c4 : e < 0
  · have hn : scN A e = nearN A (-e).toNat := by unfold scN; rw [if_pos c4]
    have hbg : scBig A e = decide (32767 < scN A e) := by unfold scBig; rw [show decide (0 ≤ e ∧ (32767 < A ∨ 15 < e)) = false by simp; omega]; simp
    obtain ⟨a1, a2⟩ : (A : Int) ≤ 9007199254740992 ∧ 1 ≤ (A : Int) := by omega
    by_cases c7 : e < -60
    · have hz : scN A e = 0 := by rw [hn]; exact near_big a0 (by omega)
      have hg : scBig A e = false := by rw [hbg, hz]; simp
      rw [(k5 hg).1, (k5 hg).2, hz]
      obtain ⟨a, ha⟩ : ∃ a : Int, (A : Int) = a := ⟨_, rfl⟩
      rw [ha] at a1 a2 HM
      clear k4 k5 hg hbg hz hn HA a0 c3 ha
      cases S
      all_goals
        have hm := HM.out
        clear HM
        simp only [if_true, if_false, Bool.false_eq_true] at hm
        have hm0 : (M == 0) = false := by simp; omega
        have ha0 : (a == 0) = false := by simp; omega
        subst hm
        go_enter Tryd.func37, Tryd.ntmps37
        go_wp2_with (go_at_call 40; refine HP.out.mono ?_; rintro e w' ⟨rfl, hw⟩; obtain rfl := hw.symm; clear hw)
        go_ret2
        exact ⟨by simp, Below.refl _ _⟩
    · obtain ⟨T, hT⟩ : ∃ T, (-e).toNat = T := ⟨_, rfl⟩
      have ht : -e = (T : Int) := by omega
      rw [hT] at hn
      have p3 : 2 ^ T ≤ 2 ^ 60 := Nat.pow_le_pow_right (by decide) (by omega)
      have p4 : 2 ^ T = 2 * 2 ^ (T - 1) := by rw [show T = (T - 1) + 1 by omega, Nat.pow_succ]; simp; omega
      have p2 := two_pos (T - 1)
      have d1 : ((A : Int) / 2 ^ T) = ((A / 2 ^ T : Nat) : Int) := by simp
      have d2 : A / 2 ^ T ≤ A := Nat.div_le_self _ _
      have d3 : A % 2 ^ T < 2 ^ T := Nat.mod_lt _ (two_pos _)
      have d4 : 2 ^ T * (A / 2 ^ T) + A % 2 ^ T = A := Nat.div_add_mod A (2 ^ T)
      have HNI := near_int (a := A) (s := T) rfl rfl rfl
      rw [← hn] at HNI
      obtain ⟨N, hN⟩ : ∃ N : Int, (scN A e : Int) = N := ⟨_, rfl⟩
      have nb : scN A e ≤ 9007199254740993 := by
        have := near_le A T; omega
      have N0 : 0 ≤ N := by omega
      have hN' : scN A e = N.toNat := by omega
      rw [hN'] at hbg
      rw [hN] at k5 HNI
      obtain ⟨q, hq⟩ : ∃ q : Int, ((A / 2 ^ T : Nat) : Int) = q := ⟨_, rfl⟩
      obtain ⟨r, hr⟩ : ∃ q : Int, ((A % 2 ^ T : Nat) : Int) = q := ⟨_, rfl⟩
      obtain ⟨H, hH⟩ : ∃ q : Int, ((2 ^ (T - 1) : Nat) : Int) = q := ⟨_, rfl⟩
      obtain ⟨q1, q2⟩ : 0 ≤ q ∧ q ≤ 9007199254740992 := by
        have := Int.natCast_nonneg (A / 2 ^ T)
        omega
      obtain ⟨r1, r2⟩ : 0 ≤ r ∧ r ≤ 9007199254740992 := by
        have := Nat.mod_le A (2 ^ T)
        omega
      obtain ⟨H1, H2⟩ : 1 ≤ H ∧ H ≤ 576460752303423488 := by omega
      have e1' : (2 : Int) ^ T = 2 * H := by
        have : ((2 ^ T : Nat) : Int) = (2 : Int) ^ T := by simp
        omega
      have hu : ((2 ^ T * (A / 2 ^ T) : Nat) : Int) = q * (2 * H) := by rw [← hq, ← e1', Int.mul_comm]; simp
      rw [hq, hr, hH] at HNI
      rw [hq, e1'] at d1
      obtain ⟨u, hu2⟩ : ∃ u, q * (2 * H) = u := ⟨_, rfl⟩
      rw [hu2] at hu
      obtain ⟨a, ha⟩ : ∃ a : Int, (A : Int) = a := ⟨_, rfl⟩
      have d5 : a - u = r := by omega
      obtain ⟨u1, u3⟩ : 0 ≤ u ∧ u ≤ 9007199254740992 := by omega
      have hw : IntKind.i64.wrap u = u := IntWalk.i64_in _ (by omega)
      rw [ha] at HM a1 a2 d1
      have e2' : (2 : Int) ^ (T - 1) = H := by
        have : ((2 ^ (T - 1) : Nat) : Int) = (2 : Int) ^ (T - 1) := by simp
        omega
      obtain ⟨t, htt⟩ : ∃ t : Int, -e = t := ⟨_, rfl⟩
      have hTt : T = t.toNat := by omega
      subst hTt
      have e3 : (2 : Int) ^ (t - 1).toNat = H := by rw [← e2']; congr 1; omega
      obtain ⟨t1, t2⟩ : 1 ≤ t ∧ t ≤ 60 := by omega
      have HX := hid HNI
      clear HNI hn HA a0 c3 hN ha hN' d2 d3 d4 p2 p3 p4 hq hr hH hu ht hT nb
      cases S
      all_goals
        have hm := HM.out
        clear HM
        simp only [if_true, if_false, Bool.false_eq_true] at hm k5
        have hm0 : (M == 0) = false := by simp; omega
        have ha0 : (a == 0) = false := by simp; omega
        subst hm
        by_cases cA : H < r
        · have hx := HX.out
          rw [if_pos cA] at hx
          have hx' : q + 1 = N := hx.symm
          clear hx HX
          by_cases c5 : 32767 < N
          · have hg : scBig A e = true := by rw [hbg]; simp; omega
            rw [(k4 hg).1, (k4 hg).2]
            clear k4 k5 hg hbg
            go_enter Tryd.func37, Tryd.ntmps37
            go_wp2_with (go_at_call 40; refine HP.out.mono ?_; rintro e w' ⟨rfl, hw⟩; obtain rfl := hw.symm; clear hw)
            go_ret2
            exact ⟨rfl, Below.refl _ _⟩
          · have hg : scBig A e = false := by rw [hbg]; simp; omega
            rw [(k5 hg).1, (k5 hg).2]
            clear k4 k5 hg hbg
            go_enter Tryd.func37, Tryd.ntmps37
            go_wp2_with (go_at_call 40; refine HP.out.mono ?_; rintro e w' ⟨rfl, hw⟩; obtain rfl := hw.symm; clear hw)
            go_ret2
            exact ⟨rfl, Below.refl _ _⟩
        · have hx := HX.out
          rw [if_neg cA] at hx
          by_cases cB : r = H
          · subst cB
            rw [if_pos rfl] at hx
            have cB' : (r == r) = true := by simp
            by_cases cC : q % 2 = 1
            · rw [if_pos cC] at hx
              have cC' : (q % 2 == 1) = true := by simpa using cC
              have hx' : q + 1 = N := hx.symm
              clear hx HX cC
              by_cases c5 : 32767 < N
              · have hg : scBig A e = true := by rw [hbg]; simp; omega
                rw [(k4 hg).1, (k4 hg).2]
                clear k4 k5 hg hbg
                go_enter Tryd.func37, Tryd.ntmps37
                go_wp2_with (go_at_call 40; refine HP.out.mono ?_; rintro e w' ⟨rfl, hw⟩; obtain rfl := hw.symm; clear hw)
                go_ret2
                exact ⟨rfl, Below.refl _ _⟩
              · have hg : scBig A e = false := by rw [hbg]; simp; omega
                rw [(k5 hg).1, (k5 hg).2]
                clear k4 k5 hg hbg
                go_enter Tryd.func37, Tryd.ntmps37
                go_wp2_with (go_at_call 40; refine HP.out.mono ?_; rintro e w' ⟨rfl, hw⟩; obtain rfl := hw.symm; clear hw)
                go_ret2
                exact ⟨rfl, Below.refl _ _⟩
            · rw [if_neg cC] at hx
              have cC' : (q % 2 == 1) = false := by simpa using cC
              subst hx
              clear HX cC
              by_cases c5 : 32767 < N
              · have hg : scBig A e = true := by rw [hbg]; simp; omega
                rw [(k4 hg).1, (k4 hg).2]
                clear k4 k5 hg hbg
                go_enter Tryd.func37, Tryd.ntmps37
                go_wp2_with (go_at_call 40; refine HP.out.mono ?_; rintro e w' ⟨rfl, hw⟩; obtain rfl := hw.symm; clear hw)
                go_ret2
                exact ⟨rfl, Below.refl _ _⟩
              · have hg : scBig A e = false := by rw [hbg]; simp; omega
                rw [(k5 hg).1, (k5 hg).2]
                clear k4 k5 hg hbg
                go_enter Tryd.func37, Tryd.ntmps37
                go_wp2_with (go_at_call 40; refine HP.out.mono ?_; rintro e w' ⟨rfl, hw⟩; obtain rfl := hw.symm; clear hw)
                go_ret2
                exact ⟨rfl, Below.refl _ _⟩
          · rw [if_neg cB] at hx
            have cB' : (r == H) = false := by simpa using cB
            subst hx
            clear HX cB
            by_cases c5 : 32767 < N
            · have hg : scBig A e = true := by rw [hbg]; simp; omega
              rw [(k4 hg).1, (k4 hg).2]
              clear k4 k5 hg hbg
              go_enter Tryd.func37, Tryd.ntmps37
              go_wp2_with (go_at_call 40; refine HP.out.mono ?_; rintro e w' ⟨rfl, hw⟩; obtain rfl := hw.symm; clear hw)
              go_ret2
              exact ⟨rfl, Below.refl _ _⟩
            · have hg : scBig A e = false := by rw [hbg]; simp; omega
              rw [(k5 hg).1, (k5 hg).2]
              clear k4 k5 hg hbg
              go_enter Tryd.func37, Tryd.ntmps37
              go_wp2_with (go_at_call 40; refine HP.out.mono ?_; rintro e w' ⟨rfl, hw⟩; obtain rfl := hw.symm; clear hw)
              go_ret2
              exact ⟨rfl, Below.refl _ _⟩
  · have hn : scN A e = A * 2 ^ e.toNat := by unfold scN; rw [if_neg c4]
    obtain ⟨a1, a2⟩ : (A : Int) ≤ 9007199254740992 ∧ 1 ≤ (A : Int) := by omega
    by_cases c5 : 32767 < A ∨ 15 < e
    · have hg : scBig A e = true := by unfold scBig; rw [show decide (0 ≤ e ∧ (32767 < A ∨ 15 < e)) = true by simp; omega]; simp
      rw [(k4 hg).1, (k4 hg).2]
      have c6 : 32767 < (A : Int) ∨ ((A : Int) ≤ 32767 ∧ 15 < e) := by omega
      obtain ⟨a, ha⟩ : ∃ a : Int, (A : Int) = a := ⟨_, rfl⟩
      rw [ha] at HM a1 a2 c6
      clear k4 k5 hg hn HA a0 c3 ha c5
      cases S
      all_goals
        have hm := HM.out
        clear HM
        simp only [if_true, if_false, Bool.false_eq_true] at hm
        have hm0 : (M == 0) = false := by simp; omega
        have ha0 : (a == 0) = false := by simp; omega
        subst hm
        rcases c6 with c6 | ⟨c6, c7⟩
        all_goals
          go_enter Tryd.func37, Tryd.ntmps37
          go_wp2_with (go_at_call 40; refine HP.out.mono ?_; rintro e w' ⟨rfl, hw⟩; obtain rfl := hw.symm; clear hw)
          all_goals (go_ret2; exact ⟨rfl, Below.refl _ _⟩)
    · have hp : 2 ^ e.toNat ≤ 2 ^ 15 := Nat.pow_le_pow_right (by decide) (by omega)
      have hp0 := two_pos e.toNat
      have hl : A * 2 ^ e.toNat ≤ 32767 * 2 ^ 15 := Nat.mul_le_mul (by omega) hp
      have hbg : scBig A e = decide (32767 < scN A e) := by unfold scBig; rw [show decide (0 ≤ e ∧ (32767 < A ∨ 15 < e)) = false by simp; omega]; simp
      obtain ⟨N, hN⟩ : ∃ N : Int, (scN A e : Int) = N := ⟨_, rfl⟩
      obtain ⟨a, ha⟩ : ∃ a : Int, (A : Int) = a := ⟨_, rfl⟩
      have hN' : scN A e = N.toNat := by omega
      rw [hN'] at hbg
      have N0 : 0 ≤ N := by omega
      have hprod : a * 2 ^ e.toNat = N := by rw [← ha, ← hN, hn]; simp
      have N1 : N ≤ 1073709056 := by rw [hn] at hN; omega
      have hw : IntKind.i64.wrap N = N := IntWalk.i64_in _ (by omega)
      obtain ⟨a3, a4⟩ : a ≤ 32767 ∧ e ≤ 15 := by omega
      rw [hN] at k5
      rw [ha] at HM a1 a2
      clear hn HA a0 c3 hN ha hN' hp hp0 hl c5
      cases S
      all_goals
        have hm := HM.out
        clear HM
        simp only [if_true, if_false, Bool.false_eq_true] at hm k5
        have hm0 : (M == 0) = false := by simp; omega
        have ha0 : (a == 0) = false := by simp; omega
        subst hm
        by_cases c5 : 32767 < N
        · have hg : scBig A e = true := by rw [hbg]; simp; omega
          rw [(k4 hg).1, (k4 hg).2]
          clear k4 k5 hg hbg
          go_enter Tryd.func37, Tryd.ntmps37
          go_wp2_with (go_at_call 40; refine HP.out.mono ?_; rintro e w' ⟨rfl, hw⟩; obtain rfl := hw.symm; clear hw)
          go_ret2
          exact ⟨rfl, Below.refl _ _⟩
        · have hg : scBig A e = false := by rw [hbg]; simp; omega
          rw [(k5 hg).1, (k5 hg).2]
          clear k4 k5 hg hbg
          go_enter Tryd.func37, Tryd.ntmps37
          go_wp2_with (go_at_call 40; refine HP.out.mono ?_; rintro e w' ⟨rfl, hw⟩; obtain rfl := hw.symm; clear hw)
          go_ret2
          exact ⟨rfl, Below.refl _ _⟩
end Go.Proofs.YtgpblcddebhphaaDoor
