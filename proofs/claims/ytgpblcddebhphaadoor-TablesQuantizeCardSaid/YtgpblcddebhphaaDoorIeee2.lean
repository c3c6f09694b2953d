/-
  Contracts: the parts of floating point values, in the program and in the reference.
-/
import Derived.Test.YtgpblcddebhphaaDoorIeee1
namespace Go.Proofs.YtgpblcddebhphaaDoor
open Go.RowKit
attribute [local go_sem ↓] Go.wp_at_zero Go.wp_at_succ
set_option linter.unusedVariables false
set_option linter.unusedSimpArgs false

/-- The table of math/bits lies at the first block. -/
def Tab (W : World) : Prop := ∀ j, j < 64 → W.cell? ⟨0, j, none⟩ = some (.int .u8 ((Go.Lib.deBruijn64tab.getD j 0 : Nat) : Int))
theorem Tab.pos {W : World} (h : Tab W) : 0 < W.heap.size := World.block_lt_of_cell? W ⟨0, 0, none⟩ (h 0 (by decide))
theorem Tab.below {W w : World} {B : Nat} (h : Tab W) (hb : Below B W w) (hB : 0 < B) : Tab w := fun j hj => by rw [hb.cell hB]; exact h j hj
theorem tz_key (x a : Nat) (hx : x < 18446744073709551616) (hx0 : x ≠ 0) (hlow : x &&& (18446744073709551616 - x) = a) :
    IntKind.u64.wrap (bits BinOp.and IntKind.u64 (x : Int) (IntKind.u64.wrap (-(x : Int))) * 285870213051353865) / 288230376151711744 = ((a * 285870213051353865 % 18446744073709551616 / 288230376151711744 : Nat) : Int) := by
  have e1 : IntKind.u64.wrap (-(x : Int)) = ((18446744073709551616 - x : Nat) : Int) := by rw [IntKind.wrap_u64]; omega
  rw [e1, u64_and_nat x _ hx (by omega), hlow, IntKind.wrap_u64]
  omega

set_option maxHeartbeats 800000 in
theorem tz_any (x : Nat) (h0 : x ≠ 0) (h : x < 18446744073709551616) (w : World) (hT : Tab w) : Calls Tryd.prog 43 #[.int .u64 x] w fun e w' => e = .returned (.int .i64 (tz x : Int)) ∧ w' = w := by
  obtain ⟨hlow, hk⟩ := Go.Lib.lowest_bit 64 x h0 h
  obtain ⟨hi, htab⟩ := Go.Lib.deBruijn64_at _ hk
  have hc := hT _ hi
  rw [htab] at hc
  have key := tz_key x _ h h0 hlow
  have hz : ((x : Int) == 0) = false := by simp; omega
  have HK := hid (show tz x = Go.Lib.ctz 64 x from rfl)
  rw [HK.out]
  obtain ⟨k, hk'⟩ : ∃ k, Go.Lib.ctz 64 x = k := ⟨_, rfl⟩
  rw [hk'] at hk hi hc key ⊢
  obtain ⟨idx, hx⟩ : ∃ i, 2 ^ k * 285870213051353865 % 18446744073709551616 / 288230376151711744 = i := ⟨_, rfl⟩
  rw [hx] at hi hc key
  clear hlow htab HK hk' hx hT
  go_enter Tryd.func43, Tryd.ntmps43
  go_wp2_with (simp only [key])
  go_ret
  exact ⟨rfl, rfl⟩

theorem ieParts (v : Nat) : (fE v = 2047 → ieOk v = false ∧ ieM v = 0 ∧ ieE v = 0) ∧ (fM v = 0 → fE v ≠ 2047 → ieOk v = true ∧ ieM v = 0 ∧ ieE v = 0) ∧
    (fM v ≠ 0 → fE v ≠ 2047 → ieOk v = true ∧ ieM v = (if fS v = true then -((fM v / 2 ^ tz (fM v) : Nat) : Int) else ((fM v / 2 ^ tz (fM v) : Nat) : Int)) ∧ ieE v = fX v + (tz (fM v) : Int)) := by
  refine ⟨fun h => ?_, fun h h' => ?_, fun h h' => ?_⟩
  · simp [ieOk, ieM, ieA, ieE, h]
  · simp [ieOk, ieM, ieA, ieE, h, h']
  · have hn : ¬ (fE v = 2047 ∨ fM v = 0) := by intro q; rcases q with q | q <;> contradiction
    refine ⟨by simp [ieOk, h'], ?_, ?_⟩
    · unfold ieM ieA; simp only [if_neg hn]; rfl
    · unfold ieE; rw [if_neg hn]

set_option maxHeartbeats 1600000 in
theorem parts_any (v : Nat) (h : v < 18446744073709551616) (w : World) (hT : Tab w) : Calls Tryd.prog 38 #[.int .u64 v] w fun e w' => e = .returned (.tuple #[.int .i64 (ieM v), .int .i64 (ieE v), .bool (ieOk v)]) ∧ w' = w := by
  obtain ⟨r1, r2, r3⟩ := ieParts v
  have R1 := hid r1
  have R2 := hid r2
  have R3 := hid r3
  clear r1 r2 r3
  have HS := hid (show Calls Tryd.prog 41 #[.int .u64 v] w _ from split_any v h w)
  have HC := hid (show Calls Tryd.prog 42 #[.int .u64 v] w _ from class_any v h w)
  have HO := hid (or_mant v)
  have e0 := fE_lt v
  have f0 := fF_lt v
  have HT := hid hT
  clear hT
  by_cases c1 : fE v = 2047
  · obtain ⟨q1, q2, q3⟩ := R1.out c1
    rw [q1, q2, q3]
    have hc : clsV v = 3 ∨ clsV v = 4 := by unfold clsV; rw [if_pos c1]; split <;> simp
    clear q1 q2 q3 R1 R2 R3
    obtain ⟨c, hcc⟩ : ∃ c, clsV v = c := ⟨_, rfl⟩
    rw [hcc] at HC hc
    clear hcc
    rcases hc with rfl | rfl
    all_goals
      go_enter Tryd.func38, Tryd.ntmps38
      go_wp2_with (first | (go_at_call 41; refine HS.out.mono ?_; rintro e w' ⟨rfl, rfl⟩) | (go_at_call 42; refine HC.out.mono ?_; rintro e w' ⟨rfl, rfl⟩))
      go_ret3
      exact ⟨rfl, rfl⟩
  · by_cases c2 : fM v = 0
    · obtain ⟨q1, q2, q3⟩ := R2.out c2 c1
      rw [q1, q2, q3]
      have hc : clsV v = 0 := by
        unfold fM at c2; unfold clsV; rw [if_neg c1]
        split at c2
        · omega
        · rename_i q; rw [if_neg q, if_neg (by omega)]
      clear q1 q2 q3 R1 R2 R3
      rw [hc] at HC
      go_enter Tryd.func38, Tryd.ntmps38
      go_wp2_with (first | (go_at_call 41; refine HS.out.mono ?_; rintro e w' ⟨rfl, rfl⟩) | (go_at_call 42; refine HC.out.mono ?_; rintro e w' ⟨rfl, rfl⟩))
      go_ret3
      exact ⟨rfl, rfl⟩
    · obtain ⟨q1, q2, q3⟩ := R3.out c2 c1
      rw [q1, q2, q3]
      clear q1 q2 q3 R1 R2 R3
      have m0 := fM_lt v
      have t0 := tz_lt c2 m0
      have HX := hid (show fX v = (if 0 < fE v then (fE v : Int) else 1) - 1075 from rfl)
      have HM := hid (show fM v = (if 0 < fE v then fF v + 4503599627370496 else fF v) from rfl)
      have HZ := hid (show Calls Tryd.prog 43 #[.int .u64 (fM v : Int)] w _ from tz_any (fM v) c2 (by omega) w HT.out)
      have d0 : fM v / 2 ^ tz (fM v) < 9007199254740992 := Nat.lt_of_le_of_lt (Nat.div_le_self _ _) m0
      have HD := hid (show ((fM v : Nat) : Int) / 2 ^ tz (fM v) = ((fM v / 2 ^ tz (fM v) : Nat) : Int) by simp)
      obtain ⟨D, hD⟩ : ∃ D, fM v / 2 ^ tz (fM v) = D := ⟨_, rfl⟩
      rw [hD] at HD d0 ⊢
      clear hD
      obtain ⟨K, hK⟩ : ∃ K, tz (fM v) = K := ⟨_, rfl⟩
      rw [hK] at HD HZ t0 ⊢
      clear hK
      obtain ⟨M, hM⟩ : ∃ M, fM v = M := ⟨_, rfl⟩
      rw [hM] at HZ HD HM m0
      by_cases c3 : 0 < fE v
      · have hc : clsV v = 2 := by unfold clsV; rw [if_neg c1, if_pos c3]
        rw [hc] at HC
        have hm := HM.out
        rw [if_pos c3] at hm
        have ho := HO.out
        rw [← hm] at ho
        rw [show fX v = (fE v : Int) - 1075 by rw [HX.out, if_pos c3]]
        clear hm hM HM HX HO c2
        cases hs : fS v
        all_goals
          rw [hs] at HS
          have hd := HD.out
          clear HD
          go_enter Tryd.func38, Tryd.ntmps38
          go_wp2_with (first | (go_at_call 41; refine HS.out.mono ?_; rintro e w' ⟨rfl, rfl⟩) | (go_at_call 42; refine HC.out.mono ?_; rintro e w' ⟨rfl, rfl⟩) | (go_at_call 43; refine HZ.out.mono ?_; rintro e w' ⟨rfl, rfl⟩))
          go_ret3
          exact ⟨by simp, rfl⟩
      · have hm := HM.out
        rw [if_neg c3] at hm
        have hc : clsV v = 1 := by unfold clsV; rw [if_neg c1, if_neg c3, if_pos (by omega)]
        rw [hc] at HC
        rw [← hm] at HS
        rw [show fX v = -1074 by rw [HX.out, if_neg c3]; rfl]
        clear hm hM HM HX HO c2
        cases hs : fS v
        all_goals
          rw [hs] at HS
          have hd := HD.out
          clear HD
          go_enter Tryd.func38, Tryd.ntmps38
          go_wp2_with (first | (go_at_call 41; refine HS.out.mono ?_; rintro e w' ⟨rfl, rfl⟩) | (go_at_call 42; refine HC.out.mono ?_; rintro e w' ⟨rfl, rfl⟩) | (go_at_call 43; refine HZ.out.mono ?_; rintro e w' ⟨rfl, rfl⟩))
          go_ret3
          exact ⟨by simp, rfl⟩

set_option maxRecDepth 100000 in
set_option maxHeartbeats 1600000 in
theorem qparts_any (v : Nat) (h : v < 18446744073709551616) (w : World) : Calls Tryd.prog 40 #[.int .u64 v] w fun e w' => e = .returned (.tuple #[.int .i64 (ieM v), .int .i64 (ieE v), .bool (ieOk v)]) ∧ w' = w := by
  obtain ⟨r1, r2, r3⟩ := ieParts v
  have R1 := hid r1
  have R2 := hid r2
  have R3 := hid r3
  clear r1 r2 r3
  have HS := hid (show Calls Tryd.prog 45 #[.int .u64 v] w _ from fields_any v h w)
  have HC := hid (show Calls Tryd.prog 44 #[.int .u64 v] w _ from qclass_any v h w)
  have e0 := fE_lt v
  have f0 := fF_lt v
  obtain ⟨c, hcc⟩ : ∃ c, clsV v = c := ⟨_, rfl⟩
  rw [hcc] at HC
  by_cases c1 : fE v = 2047
  · obtain ⟨q1, q2, q3⟩ := R1.out c1
    rw [q1, q2, q3]
    have hc : 3 ≤ c := by rw [← hcc]; unfold clsV; rw [if_pos c1]; split <;> omega
    clear q1 q2 q3 R1 R2 R3 hcc
    go_enter Tryd.func40, Tryd.ntmps40
    go_wp2_with (first | (go_at_call 45; refine HS.out.mono ?_; rintro e w' ⟨rfl, rfl⟩) | (go_at_call 44; refine HC.out.mono ?_; rintro e w' ⟨rfl, rfl⟩))
    go_ret3
    exact ⟨rfl, rfl⟩
  · have hc : c ≤ 2 := by rw [← hcc, cls_le]; unfold ieOk; simpa using c1
    clear hcc
    have m0 := fM_lt v
    have HX := hid (show fX v = (if 0 < fE v then (fE v : Int) else 1) - 1075 from rfl)
    have HM := hid (show fM v = (if 0 < fE v then fF v + 4503599627370496 else fF v) from rfl)
    obtain ⟨M, hM⟩ : ∃ M, fM v = M := ⟨_, rfl⟩
    obtain ⟨X, hX⟩ : ∃ X, fX v = X := ⟨_, rfl⟩
    obtain ⟨E, hE⟩ : ∃ E, fE v = E := ⟨_, rfl⟩
    obtain ⟨F, hF⟩ : ∃ F, fF v = F := ⟨_, rfl⟩
    obtain ⟨S, hS⟩ : ∃ S, fS v = S := ⟨_, rfl⟩
    rw [hM] at HM m0 R2 R3
    rw [hX] at HX R3
    rw [hS] at HS R3
    rw [hE] at HX HM HS e0 c1 R2 R3
    rw [hF] at HM HS f0
    have hm : (0 < E ∧ (M : Int) = F + 4503599627370496 ∧ X = (E : Int) - 1075) ∨ (E = 0 ∧ (M : Int) = F ∧ X = -1074) := by
      have := HM.out; have := HX.out
      by_cases q : 0 < E
      · rw [if_pos q] at *; exact .inl ⟨q, by omega, by omega⟩
      · rw [if_neg q] at *; exact .inr ⟨by omega, by omega, by omega⟩
    clear HM HX hM hX hE hF hS
    have key : M ≠ 0 → Calls Tryd.prog 40 #[.int .u64 v] w fun e w' => e = .returned (.tuple #[.int .i64 (if S = true then -((M / 2 ^ tz M : Nat) : Int) else ((M / 2 ^ tz M : Nat) : Int)), .int .i64 (X + (tz M : Int)), .bool true]) ∧ w' = w := by
      intro h0
      have H0 := hid h0
      clear R1 R2 R3
      obtain ⟨T, hT⟩ : ∃ T, M / 2 ^ tz M = T := ⟨_, rfl⟩
      obtain ⟨K, hK⟩ : ∃ K, tz M = K := ⟨_, rfl⟩
      rw [hT, hK]
      have HT := hid hT
      have HK := hid hK
      clear hT hK
      have x1 : -1074 ≤ X ∧ X ≤ 1100 := by omega
      obtain ⟨x1, x2⟩ := x1
      rcases hm with ⟨e1, m1, y1⟩ | ⟨e1, m1, y1⟩
      · obtain ⟨q, hq⟩ : ∃ q : Int, (M : Int) = q := ⟨_, rfl⟩
        have HQ := hid hq
        have m2 : (F : Int) + 4503599627370496 = q := by omega
        have y2 := y1.symm
        clear m1 y1 hq
        go_enter Tryd.func40, Tryd.ntmps40
        go_wp2_with (first | (go_at_call 45; refine HS.out.mono ?_; rintro e w' ⟨rfl, hw⟩; obtain rfl := hw.symm) | (go_at_call 44; refine HC.out.mono ?_; rintro e w' ⟨rfl, hw⟩; obtain rfl := hw.symm))
        go_loopw [6, 7] (fun x f wr => ∃ (j g : Nat), x = .int .i64 (X + (j : Int)) ∧ f = .int .i64 (g : Int) ∧ M = 2 ^ j * g ∧ wr = w) (fun _ f _ => (intOf f).toNat)
        case atStart => rw [← HQ.out]; exact ⟨0, M, by simp, rfl, by simp, rfl⟩
        case round =>
          obtain ⟨j, g, rfl, rfl, hM, hwr⟩ := hrel
          obtain rfl := hwr.symm
          have hg : g ≠ 0 := by rintro rfl; simp at hM; exact h0 hM
          have hj : j < 53 := by
            by_cases q : j < 53
            · exact q
            · have : 2 ^ 53 ≤ 2 ^ j := Nat.pow_le_pow_right (by decide) (by omega)
              have h2 : 2 ^ j * 1 ≤ 2 ^ j * g := Nat.mul_le_mul_left _ (by omega)
              rw [← hM] at h2; omega
          have hgM : g ≤ M := by rw [hM]; exact Nat.le_mul_of_pos_left _ (two_pos _)
          have HMg := hid hM
          clear hM
          by_cases q : g % 2 = 0
          · have q' : ((g : Int) % 2 == 0) = true := by simp; omega
            go_wp2
            go_roundw
            case rel => exact ⟨j + 1, g / 2, by simp; omega, by simp, by simpa using halve_next HMg.out q⟩
            case measure => simp [intOf]; omega
          · have q' : ((g : Int) % 2 == 0) = false := by simp; omega
            obtain ⟨r1, r2⟩ := halve_end H0.out (by omega) HMg.out (by omega)
            have r3 : g = T := Eq.trans (show g = M / 2 ^ tz M from r1) HT.out
            have r4 : j = K := r2.trans HK.out
            subst r3 r4
            clear r1 r2 HMg H0
            cases hs : S
            all_goals
              go_wp2
              go_ret3
              exact ⟨by simp, rfl⟩
      · have m3 : M = F := by omega
        subst e1 m3 y1
        clear m1
        go_enter Tryd.func40, Tryd.ntmps40
        go_wp2_with (first | (go_at_call 45; refine HS.out.mono ?_; rintro e w' ⟨rfl, hw⟩; obtain rfl := hw.symm) | (go_at_call 44; refine HC.out.mono ?_; rintro e w' ⟨rfl, hw⟩; obtain rfl := hw.symm))
        go_loopw [6, 7] (fun x f wr => ∃ (j g : Nat), x = .int .i64 ((-1074) + (j : Int)) ∧ f = .int .i64 (g : Int) ∧ M = 2 ^ j * g ∧ wr = w) (fun _ f _ => (intOf f).toNat)
        case atStart => exact ⟨0, M, by simp, rfl, by simp, rfl⟩
        case round =>
          obtain ⟨j, g, rfl, rfl, hM, hwr⟩ := hrel
          obtain rfl := hwr.symm
          have hg : g ≠ 0 := by rintro rfl; simp at hM; exact h0 hM
          have hj : j < 53 := by
            by_cases q : j < 53
            · exact q
            · have : 2 ^ 53 ≤ 2 ^ j := Nat.pow_le_pow_right (by decide) (by omega)
              have h2 : 2 ^ j * 1 ≤ 2 ^ j * g := Nat.mul_le_mul_left _ (by omega)
              rw [← hM] at h2; omega
          have hgM : g ≤ M := by rw [hM]; exact Nat.le_mul_of_pos_left _ (two_pos _)
          have HMg := hid hM
          clear hM
          by_cases q : g % 2 = 0
          · have q' : ((g : Int) % 2 == 0) = true := by simp; omega
            go_wp2
            go_roundw
            case rel => exact ⟨j + 1, g / 2, by simp; omega, by simp, by simpa using halve_next HMg.out q⟩
            case measure => simp [intOf]; omega
          · have q' : ((g : Int) % 2 == 0) = false := by simp; omega
            obtain ⟨r1, r2⟩ := halve_end H0.out (by omega) HMg.out (by omega)
            have r3 : g = T := Eq.trans (show g = M / 2 ^ tz M from r1) HT.out
            have r4 : j = K := r2.trans HK.out
            subst r3 r4
            clear r1 r2 HMg H0
            cases hs : S
            all_goals
              go_wp2
              go_ret3
              exact ⟨by simp, rfl⟩
    by_cases h0 : M = 0
    · obtain ⟨q1, q2, q3⟩ := R2.out h0 c1
      rw [q1, q2, q3]
      obtain ⟨e1, m1⟩ : E = 0 ∧ F = 0 := by omega
      subst e1 m1
      clear R1 R2 R3 key hm
      go_enter Tryd.func40, Tryd.ntmps40
      go_wp2_with (first | (go_at_call 45; refine HS.out.mono ?_; rintro e w' ⟨rfl, hw⟩; obtain rfl := hw.symm) | (go_at_call 44; refine HC.out.mono ?_; rintro e w' ⟨rfl, hw⟩; obtain rfl := hw.symm))
      go_ret3
      exact ⟨rfl, rfl⟩
    · obtain ⟨q1, q2, q3⟩ := R3.out h0 c1
      rw [q1, q2, q3]
      exact key h0

theorem parts_anyI (x : Int) (h0 : 0 ≤ x ∧ x < 18446744073709551616) (w : World) (hT : Tab w) : Calls Tryd.prog 38 #[.int .u64 x] w fun e w' => e = .returned (.tuple #[.int .i64 (ieM x.toNat), .int .i64 (ieE x.toNat), .bool (ieOk x.toNat)]) ∧ w' = w := by
  obtain ⟨v, rfl⟩ := Int.eq_ofNat_of_zero_le h0.1
  simpa using parts_any v (by omega) w hT
theorem qparts_anyI (x : Int) (h0 : 0 ≤ x ∧ x < 18446744073709551616) (w : World) : Calls Tryd.prog 40 #[.int .u64 x] w fun e w' => e = .returned (.tuple #[.int .i64 (ieM x.toNat), .int .i64 (ieE x.toNat), .bool (ieOk x.toNat)]) ∧ w' = w := by
  obtain ⟨v, rfl⟩ := Int.eq_ofNat_of_zero_le h0.1
  simpa using qparts_any v (by omega) w
end Go.Proofs.YtgpblcddebhphaaDoor
