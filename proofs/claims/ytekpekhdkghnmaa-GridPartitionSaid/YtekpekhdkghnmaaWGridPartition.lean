/-
  The walk of GridPartition: each point of a plane is in just one tile, that of Of, and the areas of the tiles add up to the plane.
-/
import Derived.Test.YtekpekhdkghnmaaAgrees
import Derived.Test.YtekpekhdkghnmaaPartPlain
import Derived.Test.YtekpekhdkghnmaaBorder
import Derived.Test.YtekpekhdkghnmaaFrame
import Derived.Deep.QuietTactic
import Derived.BigQuiet
namespace Go.Proofs.Ytekpekhdkghnmaa
open Go.RowKit
set_option linter.unusedVariables false

set_option maxRecDepth 100000 in
set_option maxHeartbeats 1600000 in
theorem walk_GridPartition (w h tw th at' : Int) (W : World) (_ : I64 w) (_ : I64 h) (_ : I64 tw) (_ : I64 th) (_ : I64 at') :
    Calls Try.prog 10 #[.int .i64 w, .int .i64 h, .int .i64 tw, .int .i64 th, .int .i64 at'] W fun e w' => e = .returned (.bool true) ∧ Below W.heap.size W w' := by
  have a1 := Int.emod_nonneg w (b := 30) (by omega)
  have a2 := Int.emod_lt_of_pos w (b := 30) (by omega)
  have a3 := Int.emod_nonneg h (b := 30) (by omega)
  have a4 := Int.emod_lt_of_pos h (b := 30) (by omega)
  have a5 := Int.emod_nonneg tw (b := 9) (by omega)
  have a6 := Int.emod_lt_of_pos tw (b := 9) (by omega)
  have a7 := Int.emod_nonneg th (b := 9) (by omega)
  have a8 := Int.emod_lt_of_pos th (b := 9) (by omega)
  obtain ⟨a, ha, ha1, ha2⟩ : ∃ a, 1 + w % 30 = a ∧ 1 ≤ a ∧ a ≤ 30 := ⟨_, rfl, by omega, by omega⟩
  obtain ⟨b, hb, hb1, hb2⟩ : ∃ b, 1 + h % 30 = b ∧ 1 ≤ b ∧ b ≤ 30 := ⟨_, rfl, by omega, by omega⟩
  obtain ⟨c, hc, hc1, hc2⟩ : ∃ c, 1 + tw % 9 = c ∧ 1 ≤ c ∧ c ≤ 9 := ⟨_, rfl, by omega, by omega⟩
  obtain ⟨d, hd, hd1, hd2⟩ : ∃ d, 1 + th % 9 = d ∧ 1 ≤ d ∧ d ≤ 9 := ⟨_, rfl, by omega, by omega⟩
  have ab1 : 1 ≤ a * b := by have := Int.mul_le_mul ha1 hb1 (by omega) (by omega); omega
  have ab2 : a * b ≤ 30 * 30 := Int.mul_le_mul ha2 hb2 (by omega) (by omega)
  have hg : gOk a b c d = true := gOk_iff.2 (by omega)
  have HG := hid hg
  clear hg
  go_enter Try.func10, Try.ntmps10
  go_wp2_with (first
    | (go_at_call 12; refine (mod_any _ _ _ (by omega) (by omega)).mono ?_; rintro e w' ⟨rfl, rfl⟩))
  have z1 := Int.emod_nonneg at' (b := a * b) (by omega)
  have z2 := Int.emod_lt_of_pos at' (b := a * b) (by omega)
  have an : a ≠ 0 := by omega
  have r1 : 0 ≤ at' % a := Int.emod_nonneg _ an
  have r2 : at' % a < a := Int.emod_lt_of_pos _ (by omega)
  have r3 : 0 ≤ at' % (a * b) / a := Int.ediv_nonneg z1 (by omega)
  have r4 : at' % (a * b) / a < b := Int.ediv_lt_of_lt_mul (by omega) (by have e := Int.mul_comm a b; generalize at' % (a * b) = q at *; omega)
  have m0 : IntKind.i64.wrap (a * b) = a * b := IntWalk.i64_in _ (by omega)
  have m1 : (at' % (a * b)).tmod a = at' % a := by rw [Int.tmod_eq_emod_of_nonneg z1]; exact Int.emod_emod_of_dvd _ (Int.dvd_mul_right a b)
  have m2 : (at' % (a * b)).tdiv a = at' % (a * b) / a := Int.tdiv_eq_ediv_of_nonneg z1
  have m3 : IntKind.i64.wrap (at' % a) = at' % a := IntWalk.i64_in _ (by omega)
  have m4 : IntKind.i64.wrap (at' % (a * b) / a) = at' % (a * b) / a := IntWalk.i64_in _ (by omega)
  go_quiet ((go_at_call 12; exact Calls.quiet_of_same ((mod_any _ _ _ (by omega) (by omega)).mono fun _ _ h => ⟨h.1, h.2.symm⟩)))
  clear m0 m1 m2 m3 m4
  obtain ⟨x, hx⟩ : ∃ x, at' % a = x := ⟨_, rfl⟩
  obtain ⟨y, hy⟩ : ∃ y, at' % (a * b) / a = y := ⟨_, rfl⟩
  rw [hx] at r1 r2 ⊢
  rw [hy] at r3 r4 ⊢
  clear hx hy z1 z2 an
  have ok : gOfOk a b c d x y = true := gOfOk_iff.2 ⟨HG.out, r1, r2, r3, r4⟩
  have OK := hid ok
  obtain ⟨o1, o2⟩ := of_lt ok
  obtain ⟨n1, n2, n3, n4, _, _, _, _⟩ := gN_bd HG.out
  have p1 : gNx a b c d * gNy a b c d ≤ 128 * 128 := Int.mul_le_mul n2 n4 (by omega) (by omega)
  clear ok
  go_wp2_with (first
    | (go_at_call 24; refine (count_any _ _ _ _ _).mono ?_; rintro e w' ⟨rfl, rfl⟩))
  refine (of_any _ _ _ _ _ _ _).mono ?_
  rintro e w1 ⟨rfl, m, rfl⟩
  rw [OK.out]
  obtain ⟨n, hn⟩ : ∃ n, gOf a b c d x y = n := ⟨_, rfl⟩
  rw [hn] at o1 o2 ⊢
  have HN := hid hn
  clear hn
  go_wp2_with fail
  go_loopw [21, 22, 23] (fun u v j wr => ∃ k : Int, 0 ≤ k ∧ k ≤ gNx a b c d * gNy a b c d ∧ u = .int .i64 (pArea a b c d k) ∧ v = .int .i64 (if n < k then 1 else 0) ∧ j = .int .i64 k ∧ 0 ≤ pArea a b c d k ∧ pArea a b c d k ≤ 30 * 30 * k ∧ Since W.heap.size W wr) (fun _ _ j _ => (20000 - intOf j).toNat)
  case atStart => exact ⟨0, by omega, by omega, by rw [pArea_zero HG.out], by rw [if_neg (by omega)], rfl, by rw [pArea_zero HG.out]; omega, by rw [pArea_zero HG.out]; omega, (Since.self rfl).drewN _⟩
  case round =>
    obtain ⟨k, k0, k1, rfl, rfl, rfl, q0, q1, hs⟩ := hrel
    have HS := hid hs
    clear hs
    obtain ⟨z, hz, hz0, hz1⟩ : ∃ z, (if n < k then (1 : Int) else 0) = z ∧ 0 ≤ z ∧ z ≤ 1 := ⟨_, rfl, by split <;> omega, by split <;> omega⟩
    rw [hz]
    have HZ := hid hz
    clear hz
    by_cases hk : k < gNx a b c d * gNy a b c d
    · have ht : gTok a b c d k = true := gTok_iff.2 ⟨HG.out, k0, hk⟩
      obtain ⟨e1, e2, e3, e4, e5, e6, e7, e8, e9, e10, e11⟩ := part_round ht
      have C := contains_iff ht r1 r2 r3 r4
      rw [HN.out] at C
      have HT := hid ht
      go_wp2_with fail
      refine (tile_any _ _ _ _ _ _ (by omega)).mono ?_
      rintro e w2 ⟨rfl, hb⟩
      rw [HT.out]
      have S2 := hid (HS.out.call hb)
      clear hb ht
      generalize gT0 a b c d k = t0 at *
      generalize gT1 a b c d k = t1 at *
      generalize gT2 a b c d k = t2 at *
      generalize gT3 a b c d k = t3 at *
      have E1 := hid e1
      have E4 := hid e4
      have E11 := hid e11
      have HC := hid C
      clear e1 e4 e11 C
      obtain ⟨R, hR⟩ : ∃ R, w2.heap.size = R := ⟨_, rfl⟩
      go_wp2_with fail
      refine (qinside_any _ _ _ _ _ _ _ _ _).mono ?_
      rintro e w3 ⟨rfl, hb⟩
      rw [E1.out]
      have S3 := hid ((S2.out.alloc _).call hb)
      obtain ⟨K3, c30, c31, c32, c33⟩ := kept4 hb (alloc_at _ hR)
      have HK3 := hid K3
      clear hb K3
      go_wp2_with fail
      clear c30 c31 c32 c33
      refine (qarea_any _ _ _ _ _ (fun _ => by omega)).mono ?_
      rintro e w4 ⟨rfl, hb⟩
      have S4 := hid (S3.out.call hb)
      obtain ⟨K4, c40, c41, c42, c43⟩ := kept4 hb HK3.out
      have HK4 := hid K4
      clear hb K4
      have ar : rArea t0 t1 t2 t3 = (t2 - t0) * (t3 - t1) := by simp [rArea, E4.out]
      have p2 : 0 ≤ (t2 - t0) * (t3 - t1) := Int.mul_nonneg (by omega) (by omega)
      have p3 : (t2 - t0) * (t3 - t1) ≤ 30 * 30 := Int.mul_le_mul (by omega) (by omega) (by omega) (by omega)
      rw [ar]
      have HE : Hid (pArea a b c d (k + 1) = pArea a b c d k + (t2 - t0) * (t3 - t1)) := E11.out
      clear ar
      obtain ⟨v, hv⟩ : ∃ v, (t2 - t0) * (t3 - t1) = v := ⟨_, rfl⟩
      rw [hv] at p2 p3 HE ⊢
      clear hv
      go_wp2_with fail
      refine (qcontains_any _ _ _ _ _ _ _).mono ?_
      rintro e w5 ⟨rfl, hb⟩
      have S5 := hid (S4.out.call hb)
      clear hb c40 c41 c42 c43
      by_cases hkn : k = n
      · have CT : rContains t0 t1 t2 t3 x y = true := HC.out.2 hkn
        rw [CT]
        clear CT
        subst hkn
        go_wp2_with fail
        go_roundw
        case rel => exact ⟨k + 1, by omega, by omega, by rw [HE.out], by have h := HZ.out; rw [if_neg (by omega)] at h; rw [if_pos (by omega)]; subst h; rfl, by go_num, by rw [HE.out]; omega, by rw [HE.out]; omega, S5.out⟩
        case measure => simp [intOf]; omega
      · have CT : rContains t0 t1 t2 t3 x y = false := by rw [← Bool.not_eq_true, HC.out]; exact hkn
        rw [CT]
        clear CT
        go_wp2_with fail
        go_roundw
        case rel => exact ⟨k + 1, by omega, by omega, by rw [HE.out], by rw [← HZ.out]; congr 1; (repeat' split) <;> omega, by go_num, by rw [HE.out]; omega, by rw [HE.out]; omega, S5.out⟩
        case measure => simp [intOf]; omega
    · have ek : k = gNx a b c d * gNy a b c d := by omega
      have f1 : z = 1 := by rw [← HZ.out]; exact if_pos (by omega)
      have pe : pArea a b c d k = a * b := by rw [ek]; exact pArea_end HG.out
      rw [f1, pe]
      clear f1 pe ek q0 q1
      go_wp2_with (first | (go_at_call 25; refine (sane5 _).mono ?_; rintro e w' ⟨rfl, hb⟩))
      go_ret
      exact ⟨rfl, (HS.out.call hb).below⟩
end Go.Proofs.Ytekpekhdkghnmaa
