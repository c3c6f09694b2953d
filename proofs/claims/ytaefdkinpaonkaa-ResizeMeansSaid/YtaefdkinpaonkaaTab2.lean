/-
  Contracts: linear tables, in the program and in the reference.
-/
import Derived.Test.YtaefdkinpaonkaaTab1
namespace Go.Proofs.Ytaefdkinpaonkaa
open Go.RowKit
attribute [local go_sem ↓] Go.wp_at_zero Go.wp_at_succ
set_option linter.unusedVariables false
set_option linter.unusedSimpArgs false

/-- What a call answers with a table. -/
def TabPost (ts : Tbl) (code : Int) (W : World) (e : Ending) (w' : World) : Prop :=
  ∃ v, e = .returned (.tuple #[v, .int .i64 code]) ∧ OwnT W.heap.size w' v ts ∧ Below W.heap.size W w'
theorem tab_no {code : Int} {ts : Tbl} (ht : ts = []) {W w' : World} (hb : Below W.heap.size W w') : TabPost ts code W (.returned (.tuple #[.slice none 0 0, .int .i64 code])) w' := ⟨_, rfl, by rw [ht]; exact OwnT.nil _ _, hb⟩
theorem lnT_no {n m s : Int} (h : tgCode n m s ≠ 0) : lnT n m s = [] := by unfold lnT; rw [if_neg h]
theorem tg_8 {n m s : Int} (h : n < 1 ∨ 128 < n ∨ m < 1 ∨ 128 < m) : tgCode n m s = 8 := by unfold tgCode; rw [if_pos h]
theorem tg_2 {n m s : Int} (h : ¬ (n < 1 ∨ 128 < n ∨ m < 1 ∨ 128 < m)) (h2 : s < 0 ∨ 14 < s) : tgCode n m s = 2 := by unfold tgCode; rw [if_neg h, if_pos h2]
theorem tg_0 {n m s : Int} (h : ¬ (n < 1 ∨ 128 < n ∨ m < 1 ∨ 128 < m)) (h2 : ¬ (s < 0 ∨ 14 < s)) : tgCode n m s = 0 := by unfold tgCode; rw [if_neg h, if_neg h2]

set_option maxRecDepth 100000 in
set_option maxHeartbeats 6400000 in
theorem rlinear_any (n m s : Int) (W : World) : Calls Try.prog 25 #[.int .i64 n, .int .i64 m, .int .i64 s] W (TabPost (lnT n m s) (tgCode n m s) W) := by
  by_cases hc : n < 1 ∨ 128 < n ∨ m < 1 ∨ 128 < m
  · have HC := hid (tg_8 (s := s) hc)
    rw [HC.out, lnT_no (by rw [HC.out]; decide)]
    by_cases k1 : 1 ≤ n ∧ n ≤ 128
    · have k1' : decide (1 ≤ n ∧ n ≤ 128) = true := by simp; omega
      have k2' : decide (1 ≤ m ∧ m ≤ 128) = false := by simp; omega
      go_enter Try.func25, Try.ntmps25
      go_wp2_with (go_at_call 59; refine (r8side_any _ _).mono ?_; rintro e w' ⟨rfl, rfl⟩)
      all_goals (go_ret2; exact tab_no rfl (Below.refl _ _))
    · have k1' : decide (1 ≤ n ∧ n ≤ 128) = false := by simp; omega
      go_enter Try.func25, Try.ntmps25
      go_wp2_with (go_at_call 59; refine (r8side_any _ _).mono ?_; rintro e w' ⟨rfl, rfl⟩)
      all_goals (go_ret2; exact tab_no rfl (Below.refl _ _))
  have kn' : decide (1 ≤ n ∧ n ≤ 128) = true := by simp; omega
  have km' : decide (1 ≤ m ∧ m ≤ 128) = true := by simp; omega
  by_cases hs : s < 0 ∨ 14 < s
  · have HC := hid (tg_2 hc hs)
    rw [HC.out, lnT_no (by rw [HC.out]; decide)]
    rcases hs with hs | hs
    all_goals
      go_enter Try.func25, Try.ntmps25
      go_wp2_with (go_at_call 59; refine (r8side_any _ _).mono ?_; rintro e w' ⟨rfl, rfl⟩)
      all_goals (go_ret2; exact tab_no rfl (Below.refl _ _))
  have HC := hid (tg_0 hc hs)
  obtain ⟨n1, n2, m1, m2⟩ : 1 ≤ n ∧ n ≤ 128 ∧ 1 ≤ m ∧ m ≤ 128 := by omega
  obtain ⟨s1, s2⟩ : 0 ≤ s ∧ s ≤ 14 := by omega
  clear hc hs kn' km'
  obtain ⟨M, rfl⟩ : ∃ M : Nat, m = M := ⟨m.toNat, by omega⟩
  obtain ⟨S, hS⟩ : ∃ S, (2 : Int) ^ s.toNat = S := ⟨_, rfl⟩
  obtain ⟨S1, S2⟩ : 1 ≤ S ∧ S ≤ 16384 := by rw [← hS]; exact sh_bd ⟨s1, s2⟩
  have HS := hid hS
  have sw : IntKind.i64.wrap S = S := IntWalk.i64_in _ (by omega)
  obtain ⟨B, hB⟩ : ∃ B, W.heap.size = B := ⟨_, rfl⟩
  have HI0 := hid (St.init hB)
  rw [HC.out]
  go_enter Try.func25, Try.ntmps25
  go_wp2_with fail
  refine (r8side_any _ _).mono ?_
  rintro e w25 ⟨rfl, hsw⟩
  have hsw2 : W = w25 := by first | exact hsw | exact hsw.symm
  clear hsw
  subst hsw2
  rw [show decide (1 ≤ (n : Int) ∧ (n : Int) ≤ 128) = true by simp; omega]
  go_wp2_with fail
  refine (r8side_any _ _).mono ?_
  rintro e w26 ⟨rfl, hsw⟩
  have hsw2 : W = w26 := by first | exact hsw | exact hsw.symm
  clear hsw
  subst hsw2
  rw [show decide (1 ≤ ((M : Int) : Int) ∧ ((M : Int) : Int) ≤ 128) = true by simp; omega]
  go_wp2_with fail
  have H27 := hid (HI0.out.arrNilE 32 2)
  go_loopw [9, 8] (fun i v wr => ∃ (j : Nat) (ga : Option Addr) (gc : Nat) (tp : List (Int × Ro)) (Rs : List Ro), j ≤ M ∧ tp.length = j ∧ tapD tp = lnTo n M s j ∧ TQ B Rs tp ∧ i = .int .i64 j ∧ v = .slice ga tp.length gc ∧ St B W [.arr (32) 2 (.slice ga tp.length gc) (tp.length) (tapV tp)] Rs wr) (fun i _ _ => M - (intOf i).toNat)
  case atStart => exact ⟨0, _, _, [], _, by omega, rfl, rfl, TQ.nil _ _, rfl, rfl, H27.out⟩
  case round =>
    obtain ⟨j, ga, gc, tp, Rs, hj, htl, htd, htq, rfl, rfl, hst⟩ := hrel
    obtain ⟨u28, rfl⟩ : ∃ u28 : World, u28 = wr := ⟨_, rfl⟩
    have H29 := hid hst
    clear hst
    have HTD := hid htd
    have HTQ := hid htq
    have htl2 : tp.length ≤ 1000000 := by omega
    have HTL := hid htl
    clear htd htq htl
    by_cases hjn : j < M
    · skip
      have hjn' : (j : Int) < M := by omega
      obtain ⟨x1, x2, r1, r2, q1, q2, hk, hr⟩ := ln_facts (n := n) (m := (M : Int)) (i := j) ⟨n1, n2⟩ ⟨m1, m2⟩ (by omega)
      obtain ⟨y1, y2, w1, w2⟩ := lnW_bd (n := n) (m := (M : Int)) (s := s) (i := j) ⟨m1, m2⟩ ⟨s1, s2⟩
      obtain ⟨R1, R2⟩ := lnR_bd n (m := (M : Int)) j m1
      have HW0 := hid (lnW_ref n (M : Int) s j m1)
      have HWD := hid (show lnW n (M : Int) s j = (lnR n (M : Int) j * 2 ^ s.toNat + M) / (2 * M) from rfl)
      have HPD := hid (show lnP n (M : Int) j = (2 * (j : Int) + 1) * n - M from rfl)
      have HTP := hid (show lnTap n (M : Int) s j = (lnK n M j, [2 ^ s.toNat - lnW n M s j, lnW n M s j]) from rfl)
      obtain ⟨K, hK⟩ : ∃ K, lnK n (M : Int) j = K := ⟨_, rfl⟩
      obtain ⟨R, hR⟩ : ∃ K, lnR n (M : Int) j = K := ⟨_, rfl⟩
      obtain ⟨ww, hW⟩ : ∃ K, lnW n (M : Int) s j = K := ⟨_, rfl⟩
      obtain ⟨P, hP⟩ : ∃ K, lnP n (M : Int) j = K := ⟨_, rfl⟩
      rw [hS] at HW0 HWD HTP y1 y2 w2
      rw [hK] at hk HTP
      rw [hR] at hr HW0 HWD y1 y2 R1 R2
      rw [hW] at HW0 HWD HTP w1 w2
      rw [hP] at hk hr HPD r1 r2 q1 q2
      clear hK hR hW hP
      obtain ⟨X, hX⟩ : ∃ X, (2 * (j : Int) + 1) * n = X := ⟨_, rfl⟩
      rw [hX] at x1 x2 HPD
      have hXP : X - (M : Int) = P := HPD.out.symm
      obtain ⟨q, hq⟩ : ∃ q, Int.tdiv P (2 * (M : Int)) = q := ⟨_, rfl⟩
      obtain ⟨r, hrr⟩ : ∃ q, Int.tmod P (2 * (M : Int)) = q := ⟨_, rfl⟩
      have HE := hid (Int.mul_tdiv_add_tmod P (2 * (M : Int)))
      rw [hq, hrr] at HE
      rw [hq] at hk q1 q2
      rw [hrr] at hk hr r1 r2
      have HK := hid hk
      have HR := hid hr
      clear hk hr
      have dm0 : ¬ (2 * (M : Int) = 0) := by omega
      have dm1 : ¬ (M = 0) := by omega
      have wq : IntKind.i64.wrap q = q := IntWalk.i64_in _ (by omega)
      have wr : IntKind.i64.wrap r = r := IntWalk.i64_in _ (by omega)
      have wm : IntKind.i64.wrap (2 * (M : Int)) = 2 * (M : Int) := IntWalk.i64_in _ (by omega)
      obtain ⟨QQ, hQQ⟩ : ∃ x, q * (2 * (M : Int)) = x := ⟨_, rfl⟩
      have hEQ : QQ + r = P := by have := HE.out; rw [← hQQ, Int.mul_comm]; exact this
      have wQ : IntKind.i64.wrap QQ = QQ := IntWalk.i64_in _ (by omega)
      have p1 : -128 ≤ P ∧ P ≤ 32640 := by omega
      obtain ⟨p1, p2⟩ := p1
      by_cases hneg : P < QQ
      · skip
        have hqK : q - 1 = K := by have := HK.out; rw [if_pos (by omega)] at this; exact this.symm
        have hrR : r + 2 * (M : Int) = R := by have := HR.out; rw [if_pos (by omega)] at this; exact this.symm
        obtain ⟨KM, hKM⟩ : ∃ x, K * (2 * (M : Int)) = x := ⟨_, rfl⟩
        have hKQ : KM = QQ - 2 * (M : Int) := by rw [← hKM, ← hqK, Int.sub_mul, Int.one_mul, hQQ]
        have hPR : P - KM = R := by omega
        have wK : IntKind.i64.wrap KM = KM := IntWalk.i64_in _ (by omega)
        obtain ⟨km1, km2⟩ : -100000 ≤ KM ∧ KM ≤ 100000 := by omega
        clear hKQ hrR
        obtain ⟨Z, hZ⟩ : ∃ Z, 2 * R * S = Z := ⟨_, rfl⟩
        obtain ⟨z1, z2⟩ : 0 ≤ Z ∧ Z ≤ 8388608 := by rw [← hZ, Int.mul_assoc]; omega
        rw [hZ] at HW0
        have tw : Int.tdiv (Z + 2 * (M : Int)) (2 * (2 * (M : Int))) = ww := by rw [Int.tdiv_eq_ediv_of_nonneg (by omega)]; exact HW0.out
        have tw2 : (Z + 2 * (M : Int)) / (2 * (2 * (M : Int))) = ww := HW0.out
        have wZ : IntKind.i64.wrap Z = Z := IntWalk.i64_in _ (by omega)
        have dm2 : ¬ (2 * (2 * (M : Int)) = 0) := by omega
        obtain ⟨D30, hD30⟩ : ∃ D, u28.heap.size = D := ⟨_, rfl⟩
        have H31 := hid (show St B W [.cells (D30 + 1) #[.int .i64 K, .slice (some ⟨D30, 0, none⟩) 2 2] 32, .cells D30 #[.int .i64 (S - ww), .int .i64 ww] 3, .arr (32) 2 (.slice ga tp.length gc) (tp.length) (tapV tp)] Rs ((u28.alloc (.cells #[.int .i64 (S - ww), .int .i64 ww] 3)).alloc (.cells #[.int .i64 K, .slice (some ⟨D30, 0, none⟩) 2 2] 32)) from ((H29.out.alloc #[.int .i64 (S - ww), .int .i64 ww] 3 hD30).alloc #[.int .i64 K, .slice (some ⟨D30, 0, none⟩) 2 2] 32 (by first | exact hD30 | simp [hD30])))
        go_upto_region 8 with (at_builtin; refine append_vals rfl _ _ 25 32 2 32 (.agg #[.int .i64 0, .slice none 0 0]) Try.underlying25 info_tap rfl (by decide) (by decide) rfl B _ _ _ (D30 + 1) 1 1 [.int .i64 K, .slice (some ⟨D30, 0, none⟩) 2 2] rfl rfl rfl (H31.out.arrOfT 2 rfl) (lit_news H31.out 0 [.int .i64 K, .slice (some ⟨D30, 0, none⟩) 2 2] rfl) (by intro u hu; simp at hu; rcases hu with rfl | rfl <;> rfl) (by omega) H31.out.size ?_; intro v33 w34 ho hg hv; have H32 := hid (H31.out.appendE 2 rfl ho hg hv); clear ho hg hv)
        clear H31
        obtain ⟨g35, c36, hva⟩ := arr_posT (H32.out.arrOfT 2 rfl) (by omega)
        subst hva
        clear hD30
        go_wp2_with fail
        have H37 := H32.out.pick (l' := [.cells D30 #[.int .i64 (S - ww), .int .i64 ww] 3, .arr (32) 2 (.slice (some ⟨g35, 0, none⟩) (tp.length + 1) c36) (tp.length + 1) (tapV tp ++ [.int .i64 K, .slice (some ⟨D30, 0, none⟩) 2 2])]) [1, 2] rfl (by decide)
        obtain ⟨hLY, hNW⟩ := H37.layLit 0 [S - ww, ww] rfl (by simp)
        simp only [List.eraseIdx] at hLY
        rw [show tapV tp ++ [.int .i64 K, .slice (some ⟨D30, 0, none⟩) 2 2] = tapV (tp ++ [(K, ⟨some ⟨D30, 0, none⟩, 2, 2, [S - ww, ww]⟩)]) from by rw [tapV_app]; rfl] at hLY
        go_roundw
        case rel => exact ⟨j + 1, _, _, tp ++ [(K, ⟨some ⟨D30, 0, none⟩, 2, 2, [S - ww, ww]⟩)], _, by omega, by rw [List.length_append, HTL.out]; rfl, by rw [tapD_app, HTD.out]; unfold lnTo; rw [range_snoc, HTP.out]; rfl, HTQ.out.snoc hNW, by go_num, by rw [List.length_append]; rfl, by rw [List.length_append]; exact hLY⟩
        case measure => first | (simp [intOf]; omega) | (simp [intOf]; done)
      · skip
        obtain rfl : K = q := by have h3 := HK.out; rw [if_neg (by omega)] at h3; exact h3
        obtain rfl : R = r := by have h2 := HR.out; rw [if_neg (by omega)] at h2; exact h2
        have hPR : P - QQ = R := by omega
        obtain ⟨Z, hZ⟩ : ∃ Z, 2 * R * S = Z := ⟨_, rfl⟩
        obtain ⟨z1, z2⟩ : 0 ≤ Z ∧ Z ≤ 8388608 := by rw [← hZ, Int.mul_assoc]; omega
        rw [hZ] at HW0
        have tw : Int.tdiv (Z + 2 * (M : Int)) (2 * (2 * (M : Int))) = ww := by rw [Int.tdiv_eq_ediv_of_nonneg (by omega)]; exact HW0.out
        have tw2 : (Z + 2 * (M : Int)) / (2 * (2 * (M : Int))) = ww := HW0.out
        have wZ : IntKind.i64.wrap Z = Z := IntWalk.i64_in _ (by omega)
        have dm2 : ¬ (2 * (2 * (M : Int)) = 0) := by omega
        obtain ⟨D38, hD38⟩ : ∃ D, u28.heap.size = D := ⟨_, rfl⟩
        have H39 := hid (show St B W [.cells (D38 + 1) #[.int .i64 K, .slice (some ⟨D38, 0, none⟩) 2 2] 32, .cells D38 #[.int .i64 (S - ww), .int .i64 ww] 3, .arr (32) 2 (.slice ga tp.length gc) (tp.length) (tapV tp)] Rs ((u28.alloc (.cells #[.int .i64 (S - ww), .int .i64 ww] 3)).alloc (.cells #[.int .i64 K, .slice (some ⟨D38, 0, none⟩) 2 2] 32)) from ((H29.out.alloc #[.int .i64 (S - ww), .int .i64 ww] 3 hD38).alloc #[.int .i64 K, .slice (some ⟨D38, 0, none⟩) 2 2] 32 (by first | exact hD38 | simp [hD38])))
        go_upto_region 8 with (at_builtin; refine append_vals rfl _ _ 25 32 2 32 (.agg #[.int .i64 0, .slice none 0 0]) Try.underlying25 info_tap rfl (by decide) (by decide) rfl B _ _ _ (D38 + 1) 1 1 [.int .i64 K, .slice (some ⟨D38, 0, none⟩) 2 2] rfl rfl rfl (H39.out.arrOfT 2 rfl) (lit_news H39.out 0 [.int .i64 K, .slice (some ⟨D38, 0, none⟩) 2 2] rfl) (by intro u hu; simp at hu; rcases hu with rfl | rfl <;> rfl) (by omega) H39.out.size ?_; intro v41 w42 ho hg hv; have H40 := hid (H39.out.appendE 2 rfl ho hg hv); clear ho hg hv)
        clear H39
        obtain ⟨g43, c44, hva⟩ := arr_posT (H40.out.arrOfT 2 rfl) (by omega)
        subst hva
        clear hD38
        go_wp2_with fail
        have H45 := H40.out.pick (l' := [.cells D38 #[.int .i64 (S - ww), .int .i64 ww] 3, .arr (32) 2 (.slice (some ⟨g43, 0, none⟩) (tp.length + 1) c44) (tp.length + 1) (tapV tp ++ [.int .i64 K, .slice (some ⟨D38, 0, none⟩) 2 2])]) [1, 2] rfl (by decide)
        obtain ⟨hLY, hNW⟩ := H45.layLit 0 [S - ww, ww] rfl (by simp)
        simp only [List.eraseIdx] at hLY
        rw [show tapV tp ++ [.int .i64 K, .slice (some ⟨D38, 0, none⟩) 2 2] = tapV (tp ++ [(K, ⟨some ⟨D38, 0, none⟩, 2, 2, [S - ww, ww]⟩)]) from by rw [tapV_app]; rfl] at hLY
        go_roundw
        case rel => exact ⟨j + 1, _, _, tp ++ [(K, ⟨some ⟨D38, 0, none⟩, 2, 2, [S - ww, ww]⟩)], _, by omega, by rw [List.length_append, HTL.out]; rfl, by rw [tapD_app, HTD.out]; unfold lnTo; rw [range_snoc, HTP.out]; rfl, HTQ.out.snoc hNW, by go_num, by rw [List.length_append]; rfl, by rw [List.length_append]; exact hLY⟩
        case measure => first | (simp [intOf]; omega) | (simp [intOf]; done)
    · skip
      have hjn' : ¬ ((j : Int) < M) := by omega
      have HJM := hid (show j = M by omega)
      go_wp2_with fail
      go_ret2
      exact ⟨_, rfl, by rw [hB, show lnT n M s = tapD tp from by unfold lnT; rw [if_pos HC.out, HTD.out, HJM.out]; rfl]; exact H29.out.outT 0 rfl HTQ.out, by first | exact H29.out.below | exact H29.out.below'⟩
end Go.Proofs.Ytaefdkinpaonkaa
