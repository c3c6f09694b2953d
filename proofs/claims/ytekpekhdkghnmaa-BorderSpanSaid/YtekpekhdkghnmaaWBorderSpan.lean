/-
  The walk of BorderSpan: the bounds of a range are attained, and no coordinate of the range is mapped beyond them.
-/
import Derived.Test.YtekpekhdkghnmaaBorder3
import Derived.Test.YtekpekhdkghnmaaFrame
import Derived.Deep.Light
namespace Go.Proofs.Ytekpekhdkghnmaa
open Go.RowKit
set_option linter.unusedVariables false

/-- What the loop has seen of a .. k - 1. -/
structure Spanned (a k n p lo hi : Int) (low high any : Bool) : Prop where
  low : low = true ↔ ∃ i, a ≤ i ∧ i < k ∧ bOk i n p = true ∧ bIdx i n p = lo
  high : high = true ↔ ∃ i, a ≤ i ∧ i < k ∧ bOk i n p = true ∧ bIdx i n p = hi
  any : any = true ↔ ∃ i, a ≤ i ∧ i < k ∧ bOk i n p = true

theorem ex_step {a k : Int} {P : Int → Prop} {b : Bool} (h : b = true ↔ ∃ i, a ≤ i ∧ i < k ∧ P i) (hk : a ≤ k) (c : Bool) (hc : c = true ↔ (b = true ∨ P k)) : c = true ↔ ∃ i, a ≤ i ∧ i < k + 1 ∧ P i := by
  rw [hc, h]
  constructor
  · rintro (⟨i, h1, h2, h3⟩ | h)
    · exact ⟨i, h1, by omega, h3⟩
    · exact ⟨k, hk, by omega, h⟩
  · rintro ⟨i, h1, h2, h3⟩
    by_cases e : i = k
    · subst e; exact .inr h3
    · exact .inl ⟨i, h1, by omega, h3⟩

theorem Spanned.start (a n p lo hi : Int) : Spanned a a n p lo hi false false false :=
  ⟨⟨fun h => by simp at h, fun ⟨i, h1, h2, _⟩ => by omega⟩, ⟨fun h => by simp at h, fun ⟨i, h1, h2, _⟩ => by omega⟩, ⟨fun h => by simp at h, fun ⟨i, h1, h2, _⟩ => by omega⟩⟩

theorem Spanned.skip {a k n p lo hi : Int} {low high any : Bool} (h : Spanned a k n p lo hi low high any) (hk : a ≤ k) (ho : bOk k n p = false) : Spanned a (k + 1) n p lo hi low high any :=
  ⟨ex_step h.low hk _ (by simp [ho]), ex_step h.high hk _ (by simp [ho]), ex_step h.any hk _ (by simp [ho])⟩
theorem Spanned.take {a k n p lo hi : Int} {low high any low' high' : Bool} (h : Spanned a k n p lo hi low high any) (hk : a ≤ k) (ho : bOk k n p = true) (hl : low' = true ↔ (low = true ∨ bIdx k n p = lo)) (hh : high' = true ↔ (high = true ∨ bIdx k n p = hi)) : Spanned a (k + 1) n p lo hi low' high' true :=
  ⟨ex_step h.low hk _ (by simp [ho, hl]), ex_step h.high hk _ (by simp [ho, hh]), ex_step h.any hk _ (by simp [ho])⟩

theorem Spanned.fin {a b n p lo hi : Int} {low high any ok : Bool} (h : Spanned a b n p lo hi low high any) (r : IsRange a b n p lo hi ok) : any = ok ∧ (ok = true → low = true ∧ high = true) := by
  cases ok with
  | true =>
    obtain ⟨⟨i, i1, i2, i3, i4⟩, ⟨j, j1, j2, j3, j4⟩⟩ := r.yes rfl
    exact ⟨h.any.2 ⟨i, i1, i2, i3⟩, fun _ => ⟨h.low.2 ⟨i, i1, i2, i3, i4⟩, h.high.2 ⟨j, j1, j2, j3, j4⟩⟩⟩
  | false =>
    refine ⟨?_, fun h => by simp at h⟩
    cases any with
    | false => rfl
    | true =>
      obtain ⟨i, i1, i2, i3⟩ := h.any.1 rfl
      exact absurd (r.all i i1 i2 i3).1 (by simp)

set_option maxRecDepth 100000 in
set_option maxHeartbeats 1600000 in
theorem walk_BorderSpan (from' len n pol : Int) (W : World) (_ : I64 from') (_ : I64 len) (_ : I64 n) (_ : I64 pol) :
    Calls Try.prog 7 #[.int .i64 from', .int .i64 len, .int .i64 n, .int .i64 pol] W fun e w' => e = .returned (.bool true) ∧ Below W.heap.size W w' := by
  have b1 := Int.emod_nonneg n (b := 20) (by omega)
  have b2 := Int.emod_lt_of_pos n (b := 20) (by omega)
  have b3 := Int.emod_nonneg from' (b := 300) (by omega)
  have b4 := Int.emod_lt_of_pos from' (b := 300) (by omega)
  have b5 := Int.emod_nonneg len (b := 50) (by omega)
  have b6 := Int.emod_lt_of_pos len (b := 50) (by omega)
  have b7 := Int.emod_nonneg pol (b := 4) (by omega)
  have b8 := Int.emod_lt_of_pos pol (b := 4) (by omega)
  go_enter Try.func7, Try.ntmps7
  go_wp2_with (first
    | (go_at_call 12; refine (mod_any _ _ _ (by omega) (by omega)).mono ?_; rintro e w' ⟨rfl, rfl⟩)
    | (go_at_call 21; refine (range_any _ _ _ _ _).mono ?_; rintro e w' ⟨lo, hi, ok, rfl, hR, rfl⟩; have HR := hid hR; clear hR))
  have HI : Hid (IsRange (from' % 300 - 150) (from' % 300 - 150 + 1 + len % 50) (1 + n % 20) (pol % 4) lo hi ok) := HR.out.ins (by unfold inC; omega)
  clear HR
  go_loop [16, 17, 18, 19] (fun l h y j => ∃ (low high any : Bool) (k : Int), l = .bool low ∧ h = .bool high ∧ y = .bool any ∧ j = .int .i64 k ∧ from' % 300 - 150 ≤ k ∧ k ≤ from' % 300 - 150 + 1 + len % 50 ∧
      Spanned (from' % 300 - 150) k (1 + n % 20) (pol % 4) lo hi low high any) (fun _ _ _ j => (200 - intOf j).toNat)
  case atStart => exact ⟨false, false, false, from' % 300 - 150, rfl, rfl, rfl, rfl, by omega, by omega, .start _ _ _ _ _⟩
  case round =>
    obtain ⟨low, high, any, k, rfl, rfl, rfl, rfl, hk1, hk2, hs⟩ := hrel
    have HS := hid hs
    clear hs
    by_cases hk : k < from' % 300 - 150 + 1 + len % 50
    · have HA := hid (HI.out.all k hk1 hk)
      cases ho : bOk k (1 + n % 20) (pol % 4) with
      | false =>
        have HO := hid ho
        go_wp2_with (first | (go_at_call 13; refine (index_any _ _ _ _).mono ?_; rintro e w' ⟨rfl, rfl⟩))
        go_round
        case rel => exact ⟨low, high, any, k + 1, rfl, rfl, rfl, by go_num, by omega, by omega, HS.out.skip hk1 HO.out⟩
        case measure => simp [intOf]; omega
      | true =>
        have HO := hid ho
        obtain ⟨e1, e2, e3⟩ := HA.out ho
        clear e1
        cases low <;> cases high
        all_goals
          go_wp2_with (first | (go_at_call 13; refine (index_any _ _ _ _).mono ?_; rintro e w' ⟨rfl, rfl⟩))
          go_round
          case rel => exact ⟨_, _, true, k + 1, rfl, rfl, rfl, by go_num, by omega, by omega, HS.out.take hk1 HO.out (by simp) (by simp)⟩
          case measure => simp [intOf]; omega
    · have hk' : Hid (from' % 300 - 150 + 1 + len % 50 = k) := (by omega : from' % 300 - 150 + 1 + len % 50 = k)
      have hf := HI.out
      rw [hk'.out] at hf
      have F := HS.out.fin hf
      clear hf
      obtain ⟨rfl, F2⟩ := F
      cases any with
      | false =>
        clear F2
        go_wp2_with (first | (go_at_call 14; refine (sane3 _).mono ?_; rintro e w' ⟨rfl, hb⟩))
        go_ret
        exact ⟨rfl, hb⟩
      | true =>
        obtain ⟨rfl, rfl⟩ := F2 rfl
        go_wp2_with (first | (go_at_call 14; refine (sane3 _).mono ?_; rintro e w' ⟨rfl, hb⟩))
        go_ret
        exact ⟨rfl, hb⟩
end Go.Proofs.Ytekpekhdkghnmaa
