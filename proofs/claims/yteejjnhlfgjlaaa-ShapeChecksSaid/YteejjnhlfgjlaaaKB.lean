/-
 Contracts of package rect and of its reference. Contracts: one rectangle inside another, and full rectangles. Contracts: products with a limit, and the areas of planes. Contracts: which planes are valid, in the program and in the reference. Contract: new planes, in the reference. Contracts: which edges are valid, in the program and in the reference. Contracts: products with a limit, for all integers. Contracts: how great the pixels of an integral plane may be, in the program and in the reference. Contracts: the bin of a pixel. Contract: the histogram of a rectangle of a plane, in the program. Contracts: the rectangle that a plane covers. Contracts: numbers beyond a limit; the sum of a rectangle out of an integral plane, in the program and in the reference. Contracts: equal rows and equal planes, in the reference; the tape's Plane and Edge.
-/
import Derived.Test.YteejjnhlfgjlaaaProg
import Derived.Test.YteejjnhlfgjlaaaKA
import Derived.WalkLawsBesides
import Derived.WalkSpells
import Derived.Deep.Light
import Derived.Deep.QuietTactic
import Derived.BigQuiet
import Derived.Deep.RegionHeld3
namespace Go.Proofs.Yteejjnhlfgjlaaa
section
open Go.RowKit
end

section
open Go.RowKit
set_option linter.unusedVariables false
end

section
open Go.RowKit
set_option linter.unusedVariables false
set_option linter.unusedSimpArgs false

theorem qsize_any (a b mx : Int) (w : World) :
    Calls Try.prog 35 #[.int .i64 a, .int .i64 b, .int .i64 mx] w fun e w' => e = .returned (.bool (pOk a b mx)) ∧ w' = w := by
  by_cases h : 1 ≤ a ∧ a ≤ 128 ∧ 1 ≤ b ∧ b ≤ 128
  · obtain ⟨a1, a2, b1, b2⟩ := h
    have p1 : a * b ≤ 128 * 128 := Int.mul_le_mul a2 b2 (by omega) (by omega); have p2 : 0 ≤ a * b := Int.mul_nonneg (by omega) (by omega); have e : pOk a b mx = decide (a * b ≤ 4096 ∧ 1 ≤ mx ∧ mx ≤ 4294967296) := bool_of_iff (by rw [pOk_iff, decide_eq_true_eq]; omega); rw [e]; clear e
    go_enter Try.func35, Try.ntmps35
    go_wp2
    all_goals (go_ret; refine ⟨ret_b (bool_of_iff ?_), rfl⟩; simp only [decide_eq_true_eq, Bool.false_eq_true, false_iff, true_iff, Bool.and_eq_true, iff_false, iff_true] <;> omega)
  · have e1 : pOk a b mx = false := by rw [← Bool.not_eq_true, pOk_iff]; omega
    rw [e1]; clear e1
    go_enter Try.func35, Try.ntmps35
    go_wp2
    all_goals first
      | (go_ret; exact ⟨rfl, rfl⟩)
      | (exfalso; omega)
end

section
open Go.RowKit
set_option linter.unusedVariables false
end

section
open Go.RowKit
set_option linter.unusedVariables false
set_option linter.unusedSimpArgs false
end

section
open Go.RowKit

set_option maxHeartbeats 400000 in
theorem bvalid_any (p f m : Int) (w : World) :
    Calls Try.prog 27 #[.agg #[.int .i64 p, .int .i64 f], .int .i64 m] w fun e w' => e = .returned (.bool (bValid p f m)) ∧ Below w.heap.size w w' := by
  go_enter Try.func27, Try.ntmps27
  go_wp2
  all_goals go_ret
  all_goals refine ⟨ret_b ?_, (Below.refl _ _).alloc (Nat.le_refl _) _⟩
  all_goals simp only [beq_iff_eq, beq_eq_false_iff_ne, ne_eq] at *
  all_goals go_light
  all_goals unfold bValid
  all_goals (repeat' split)
  all_goals (first | rfl | omega | (rw [Bool.eq_iff_iff]; simp; omega) | (simp; omega))

set_option maxHeartbeats 400000 in
theorem rbvalid_any (p f m : Int) (w : World) :
    Calls Try.prog 31 #[.agg #[.int .i64 p, .int .i64 f], .int .i64 m] w fun e w' => e = .returned (.bool (bValid p f m)) ∧ Below w.heap.size w w' := by
  go_enter Try.func31, Try.ntmps31
  go_wp2
  all_goals go_ret
  all_goals refine ⟨ret_b ?_, (Below.refl _ _).alloc (Nat.le_refl _) _⟩
  all_goals simp only [beq_iff_eq, beq_eq_false_iff_ne, ne_eq] at *
  all_goals go_light
  all_goals unfold bValid
  all_goals (repeat' split)
  all_goals (first | rfl | omega | (rw [Bool.eq_iff_iff]; simp; omega) | (simp; omega))
end

section
open Go.RowKit
set_option linter.unusedVariables false
set_option linter.unusedSimpArgs false

theorem mulAny (a b l : Int) (w : World) (hl : l ≤ 9223372036854775807) :
    Calls Try.prog 34 #[.int .i64 a, .int .i64 b, .int .i64 l] w fun e w' => e = .returned (.tuple #[.int .i64 (mVal a b l), .bool (mOk a b l)]) ∧ w' = w := by
  by_cases h0 : 0 ≤ a ∧ 0 ≤ b ∧ 0 ≤ l
  · obtain ⟨a0, b0, l0⟩ := h0
    by_cases hb : b = 0
    · subst hb
      have hm : mOk a 0 l = true := mOk_iff.2 ⟨a0, b0, l0, by omega⟩; have hv : mVal a 0 l = 0 := by simp [mVal]
      rw [hm, hv]; clear hm hv
      go_enter Try.func34, Try.ntmps34
      go_wp2
      all_goals (go_ret2; exact ⟨rfl, rfl⟩)
    · have b1 : 0 < b := by omega
      have d0 : 0 ≤ l / b := Int.ediv_nonneg l0 (by omega); have d1 : l / b ≤ l := Int.ediv_le_self b l0; have m2 : l.tdiv b = l / b := Int.tdiv_eq_ediv_of_nonneg l0; have m4 : IntKind.i64.wrap (l / b) = l / b := IntWalk.i64_in _ (by omega); by_cases hc : l / b < a
      · have hm : mOk a b l = false := by rw [← Bool.not_eq_true, mOk_iff]; have := (mul_div b1).1 hc; omega
        have hv : mVal a b l = 0 := by simp [mVal, hm]
        rw [hm, hv]; clear hm hv
        go_enter Try.func34, Try.ntmps34
        go_wp2
        all_goals (go_ret2; exact ⟨rfl, rfl⟩)
      · have hle : a * b ≤ l := by have := (not_congr (mul_div (a := a) (l := l) b1)).1 hc; omega
        have hm : mOk a b l = true := mOk_iff.2 ⟨a0, b0, l0, hle⟩; have hv : mVal a b l = a * b := by simp [mVal, hm]
        have p0 : 0 ≤ a * b := Int.mul_nonneg a0 b0; have m5 : IntKind.i64.wrap (a * b) = a * b := IntWalk.i64_in _ (by omega); rw [hm, hv]; clear hm hv
        go_enter Try.func34, Try.ntmps34
        go_wp2
        all_goals (go_ret2; exact ⟨rfl, rfl⟩)
  · have hm : mOk a b l = false := by rw [← Bool.not_eq_true, mOk_iff]; omega
    have hv : mVal a b l = 0 := by simp [mVal, hm]
    rw [hm, hv]; clear hm hv
    go_enter Try.func34, Try.ntmps34
    go_wp2
    all_goals (go_ret2; exact ⟨rfl, rfl⟩)
theorem qmulAny (a b l : Int) (w : World) (hl : l ≤ 9223372036854775807) :
    Calls Try.prog 68 #[.int .i64 a, .int .i64 b, .int .i64 l] w fun e w' => e = .returned (.tuple #[.int .i64 (mVal a b l), .bool (mOk a b l)]) ∧ w' = w := by
  by_cases h0 : 0 ≤ a ∧ 0 ≤ b ∧ 0 ≤ l
  · obtain ⟨a0, b0, l0⟩ := h0
    by_cases hb : b = 0
    · subst hb
      have hm : mOk a 0 l = true := mOk_iff.2 ⟨a0, b0, l0, by omega⟩; have hv : mVal a 0 l = 0 := by simp [mVal]
      rw [hm, hv]; clear hm hv
      go_enter Try.func68, Try.ntmps68
      go_wp2
      all_goals (go_ret2; exact ⟨rfl, rfl⟩)
    · have b1 : 0 < b := by omega
      have d0 : 0 ≤ l / b := Int.ediv_nonneg l0 (by omega); have d1 : l / b ≤ l := Int.ediv_le_self b l0; have m2 : l.tdiv b = l / b := Int.tdiv_eq_ediv_of_nonneg l0; have m4 : IntKind.i64.wrap (l / b) = l / b := IntWalk.i64_in _ (by omega); by_cases hc : l / b < a
      · have hm : mOk a b l = false := by rw [← Bool.not_eq_true, mOk_iff]; have := (mul_div b1).1 hc; omega
        have hv : mVal a b l = 0 := by simp [mVal, hm]
        rw [hm, hv]; clear hm hv
        go_enter Try.func68, Try.ntmps68
        go_wp2
        all_goals (go_ret2; exact ⟨rfl, rfl⟩)
      · have hle : a * b ≤ l := by have := (not_congr (mul_div (a := a) (l := l) b1)).1 hc; omega
        have hm : mOk a b l = true := mOk_iff.2 ⟨a0, b0, l0, hle⟩; have hv : mVal a b l = a * b := by simp [mVal, hm]
        have p0 : 0 ≤ a * b := Int.mul_nonneg a0 b0; have m5 : IntKind.i64.wrap (a * b) = a * b := IntWalk.i64_in _ (by omega); rw [hm, hv]; clear hm hv
        go_enter Try.func68, Try.ntmps68
        go_wp2
        all_goals (go_ret2; exact ⟨rfl, rfl⟩)
  · have hm : mOk a b l = false := by rw [← Bool.not_eq_true, mOk_iff]; omega
    have hv : mVal a b l = 0 := by simp [mVal, hm]
    rw [hm, hv]; clear hm hv
    go_enter Try.func68, Try.ntmps68
    go_wp2
    all_goals (go_ret2; exact ⟨rfl, rfl⟩)
end

section
open Go.RowKit
set_option linter.unusedVariables false
set_option linter.unusedSimpArgs false

theorem iOk_no1 {w h mx : Int} (e : ¬ (1 ≤ w ∧ 1 ≤ h ∧ 1 ≤ mx)) : iOk w h mx = false := by rw [← Bool.not_eq_true, iOk_iff]; omega
theorem iVal_no {w h mx : Int} (e : iOk w h mx = false) : iVal w h mx = 0 := by unfold iVal; rw [e]; simp
theorem iVal_yes {w h mx : Int} (e : iOk w h mx = true) : iVal w h mx = w * h * mx := by unfold iVal; rw [if_pos e]

set_option maxRecDepth 100000 in
set_option maxHeartbeats 1600000 in
theorem greatest_any (w h mx : Int) (W : World) :
    Calls Try.prog 58 #[.agg #[.int .i64 w, .int .i64 h, .int .i64 mx]] W fun e w' => e = .returned (.tuple #[.int .i64 (iVal w h mx), .bool (iOk w h mx)]) ∧ Below W.heap.size W w' := by
  obtain ⟨B, hB⟩ : ∃ B, W.heap.size = B := ⟨_, rfl⟩; have H0 := hid ((St.init hB).alloc #[.int .i64 w, .int .i64 h, .int .i64 mx] 24 hB); by_cases hp : 1 ≤ w ∧ 1 ≤ h ∧ 1 ≤ mx
  · obtain ⟨h1, h2, h3⟩ := hp
    have hm := iOk_mul h1 h2 h3; cases m1 : mOk w h 4294967296 with
    | false =>
      have e0 : iOk w h mx = false := by rw [hm, m1]; rfl
      have e1 : mVal w h 4294967296 = 0 := by simp [mVal, m1]
      rw [e0, iVal_no e0]; clear hm e0
      go_enter Try.func58, Try.ntmps58
      go_wp2_with (first | (go_at_call 34; refine (mulAny _ _ _ _ (by omega)).mono ?_; rintro e w' ⟨rfl, rfl⟩))
      all_goals (go_ret2; exact ⟨rfl, H0.out.bl⟩)
    | true =>
      have e1 : mVal w h 4294967296 = w * h := by simp [mVal, m1]
      cases m2 : mOk (w * h) mx 4294967296 with
      | false =>
        have e0 : iOk w h mx = false := by rw [hm, m1, m2]; rfl
        have e2 : mVal (w * h) mx 4294967296 = 0 := by simp [mVal, m2]
        rw [e0, iVal_no e0]; clear hm e0
        go_enter Try.func58, Try.ntmps58
        go_wp2_with (first | (go_at_call 34; refine (mulAny _ _ _ _ (by omega)).mono ?_; rintro e w' ⟨rfl, rfl⟩))
        all_goals (go_ret2; exact ⟨rfl, H0.out.bl⟩)
      | true =>
        have e0 : iOk w h mx = true := by rw [hm, m1, m2]; rfl
        have e2 : mVal (w * h) mx 4294967296 = w * h * mx := by simp [mVal, m2]
        rw [e0, iVal_yes e0]; clear hm e0
        go_enter Try.func58, Try.ntmps58
        go_wp2_with (first | (go_at_call 34; refine (mulAny _ _ _ _ (by omega)).mono ?_; rintro e w' ⟨rfl, rfl⟩))
        all_goals (go_ret2; exact ⟨rfl, H0.out.bl⟩)
  · have e0 := iOk_no1 hp
    rw [e0, iVal_no e0]; clear e0
    go_enter Try.func58, Try.ntmps58
    go_wp2_with (first | (go_at_call 34; refine (mulAny _ _ _ _ (by omega)).mono ?_; rintro e w' ⟨rfl, rfl⟩))
    all_goals first
      | (go_ret2; exact ⟨rfl, H0.out.bl⟩)
      | (exfalso; omega)

set_option maxRecDepth 100000 in
set_option maxHeartbeats 1600000 in
theorem qmost_any (w h mx : Int) (W : World) :
    Calls Try.prog 49 #[.agg #[.int .i64 w, .int .i64 h, .int .i64 mx]] W fun e w' => e = .returned (.tuple #[.int .i64 (iVal w h mx), .bool (iOk w h mx)]) ∧ Below W.heap.size W w' := by
  obtain ⟨B, hB⟩ : ∃ B, W.heap.size = B := ⟨_, rfl⟩; have H0 := hid ((St.init hB).alloc #[.int .i64 w, .int .i64 h, .int .i64 mx] 24 hB); by_cases hp : 1 ≤ w ∧ 1 ≤ h ∧ 1 ≤ mx
  · obtain ⟨h1, h2, h3⟩ := hp
    have hm := iOk_mul h1 h2 h3; cases m1 : mOk w h 4294967296 with
    | false =>
      have e0 : iOk w h mx = false := by rw [hm, m1]; rfl
      have e1 : mVal w h 4294967296 = 0 := by simp [mVal, m1]
      rw [e0, iVal_no e0]; clear hm e0
      go_enter Try.func49, Try.ntmps49
      go_wp2_with (first | (go_at_call 68; refine (qmulAny _ _ _ _ (by omega)).mono ?_; rintro e w' ⟨rfl, rfl⟩))
      all_goals (go_ret2; exact ⟨rfl, H0.out.bl⟩)
    | true =>
      have e1 : mVal w h 4294967296 = w * h := by simp [mVal, m1]
      cases m2 : mOk (w * h) mx 4294967296 with
      | false =>
        have e0 : iOk w h mx = false := by rw [hm, m1, m2]; rfl
        have e2 : mVal (w * h) mx 4294967296 = 0 := by simp [mVal, m2]
        rw [e0, iVal_no e0]; clear hm e0
        go_enter Try.func49, Try.ntmps49
        go_wp2_with (first | (go_at_call 68; refine (qmulAny _ _ _ _ (by omega)).mono ?_; rintro e w' ⟨rfl, rfl⟩))
        all_goals (go_ret2; exact ⟨rfl, H0.out.bl⟩)
      | true =>
        have e0 : iOk w h mx = true := by rw [hm, m1, m2]; rfl
        have e2 : mVal (w * h) mx 4294967296 = w * h * mx := by simp [mVal, m2]
        rw [e0, iVal_yes e0]; clear hm e0
        go_enter Try.func49, Try.ntmps49
        go_wp2_with (first | (go_at_call 68; refine (qmulAny _ _ _ _ (by omega)).mono ?_; rintro e w' ⟨rfl, rfl⟩))
        all_goals (go_ret2; exact ⟨rfl, H0.out.bl⟩)
  · have e0 := iOk_no1 hp
    rw [e0, iVal_no e0]; clear e0
    go_enter Try.func49, Try.ntmps49
    go_wp2_with (first | (go_at_call 68; refine (qmulAny _ _ _ _ (by omega)).mono ?_; rintro e w' ⟨rfl, rfl⟩))
    all_goals first
      | (go_ret2; exact ⟨rfl, H0.out.bl⟩)
      | (exfalso; omega)

set_option maxRecDepth 100000 in
theorem icheck_any (w h mx : Int) (W : World) :
    Calls Try.prog 43 #[.agg #[.int .i64 w, .int .i64 h, .int .i64 mx]] W fun e w' => e = .returned (.int .i64 (iCode w h mx)) ∧ Below W.heap.size W w' := by
  obtain ⟨B, hB⟩ : ∃ B, W.heap.size = B := ⟨_, rfl⟩; have H0 := hid ((St.init hB).alloc #[.int .i64 w, .int .i64 h, .int .i64 mx] 24 hB)
  go_enter Try.func43, Try.ntmps43
  go_wp2_with fail
  refine (greatest_any _ _ _ _).mono ?_; rintro e w1 ⟨rfl, hb⟩; have H1 := hid (H0.out.call hb); clear hb; cases hk : iOk w h mx with
  | false =>
    have HC := hid (show iCode w h mx = 11 by simp [iCode, hk]); clear hk; go_wp2_with fail
    go_ret
    exact ⟨ret_i HC.out.symm, H1.out.bl⟩
  | true =>
    have HC := hid (show iCode w h mx = 0 by simp [iCode, hk]); clear hk; go_wp2_with fail
    go_ret
    exact ⟨ret_i HC.out.symm, H1.out.bl⟩
end

section
open Go.RowKit
set_option linter.unusedVariables false

theorem qbins_any (n : Int) (w : World) :
    Calls Try.prog 48 #[.int .i64 n] w fun e w' => e = .returned (.bool (decide (1 ≤ n ∧ n ≤ 128))) ∧ w' = w := by
  go_enter Try.func48, Try.ntmps48
  go_wp2
  all_goals go_ret
  all_goals refine ⟨ret_b ?_, rfl⟩
  all_goals (refine bool_of_iff ?_; simp; try omega)
end

section
open Go.RowKit
set_option linter.unusedVariables false

section
variable {B : Nat} {w h mx : Int} {a : Option Addr} {n c : Nat} {zs : List Int} {r0 r1 r2 r3 : Int} {W w1 w' : World}
end
end

section
open Go.RowKit
set_option linter.unusedVariables false
end

section
open Go.RowKit
set_option linter.unusedVariables false
set_option linter.unusedSimpArgs false
end

section
open Go.RowKit
set_option linter.unusedVariables false
set_option linter.unusedSimpArgs false

theorem ne_of_getD {xs ys : List Int} {j : Nat} (hx : j < xs.length) (hy : j < ys.length) (h : xs.getD j 0 ≠ ys.getD j 0) : xs ≠ ys := fun e => h (by rw [e])
theorem eq_of_getD {xs ys : List Int} (hl : xs.length = ys.length) (h : ∀ i, i < xs.length → xs.getD i 0 = ys.getD i 0) : xs = ys := by
 refine List.ext_getElem hl fun i h1 h2 => ?_
 have := h i h1
 rwa [List.getD_eq_getElem?_getD, List.getD_eq_getElem?_getD, List.getElem?_eq_getElem h1, List.getElem?_eq_getElem h2] at this

def lEq (xs ys : List Int) : Bool := decide (xs = ys)
set_option maxRecDepth 100000 in
set_option maxHeartbeats 1600000 in
theorem qsame_any (a : Option Addr) (n c : Nat) (xs : List Int) (a' : Option Addr) (n' c' : Nat) (ys : List Int) (W : World) (hx : Slc W a n c xs) (hy : Slc W a' n' c' ys) :
    Calls Try.prog 13 #[.slice a n c, .slice a' n' c'] W fun e w' => e = .returned (.bool (lEq xs ys)) ∧ ∃ m, w' = W.drewN m := by
  have HX := hid hx; have HY := hid hy; have LX := hid hx.len; have LY := hid hy.len; obtain ⟨nc1, nc2⟩ := And.intro hx.nc hx.cap; have nm : (n : Int) ≤ 9223372036854775807 := by omega
  clear hx hy nc1 nc2; by_cases hn : n = n'
  · subst hn
    go_enter Try.func13, Try.ntmps13
    go_wp2_with fail
    go_loopw [5] (fun i wr => ∃ j : Nat, j ≤ n ∧ i = .int .i64 j ∧ (∀ i, i < j → xs.getD i 0 = ys.getD i 0) ∧ ∃ m, wr = W.drewN m) (fun i _ => n - (intOf i).toNat)
    case atStart => exact ⟨0, by omega, rfl, fun i hi => by omega, 0, rfl⟩
    case round =>
      obtain ⟨j, hj, rfl, ha, m, hm⟩ := hrel; obtain ⟨w1, rfl⟩ : ∃ w1 : World, w1 = wr := ⟨_, rfl⟩; have HA := hid ha; have HM := hid hm; have HX1 := hid (show Slc w1 a n c xs by rw [hm]; exact HX.out.drewN m); have HY1 := hid (show Slc w1 a' n c' ys by rw [hm]; exact HY.out.drewN m); clear ha hm; by_cases hjn : j < n
      · obtain ⟨b, o, rfl⟩ := row_at HX1.out.row (by omega)
        obtain ⟨b', o', rfl⟩ := row_at HY1.out.row (by omega); have cx := row_cell HX1.out.row hjn; have cy := row_cell HY1.out.row hjn; have hjn' : (j : Int) < n := by omega
        have HB := hid (fun h : xs.getD j 0 ≠ ys.getD j 0 => ne_of_getD (by have := LX.out; omega) (by have := LY.out; omega) h)
        have HI := hid (show xs.getD j 0 = ys.getD j 0 → ∀ i, i < j + 1 → xs.getD i 0 = ys.getD i 0 from fun hg i hi => by
          rcases Nat.lt_or_ge i j with h' | h'
          · exact HA.out i h'
          · obtain rfl : i = j := by omega
            exact hg)
        generalize xs.getD j 0 = x at *; generalize ys.getD j 0 = y at *; by_cases hxy : x = y
        · have h1 : (x != y) = false := by simp [hxy]
          have HXY := hid hxy; clear hxy; go_wp2_with fail
          go_quiet (fail)
          go_wp2_with fail
          go_roundw
          case rel => exact ⟨j + 1, by omega, by go_num, HI.out HXY.out, _, by rw [HM.out, World.drewN_drewN]⟩
          case measure => simp [intOf]; omega
        · have h1 : (x != y) = true := by simp [hxy]
          have h2 : (x == y) = false := by simp [hxy]
          go_wp2_with fail
          go_quiet (fail)
          go_wp2_with fail
          go_ret
          exact ⟨ret_b (by unfold lEq; rw [eq_comm, decide_eq_false_iff_not]; exact HB.out hxy), _, by rw [HM.out, World.drewN_drewN]⟩
      · obtain rfl : n = j := by omega
        go_wp2_with fail
        go_ret
        exact ⟨ret_b (by unfold lEq; rw [eq_comm, decide_eq_true_eq]; exact eq_of_getD (by rw [LX.out, LY.out]) (fun i hi => HA.out i (by rw [LX.out] at hi; exact hi))), m, HM.out⟩
  · have h1 : ((n : Int) != (n' : Int)) = true := by simp; omega
    have h2 : ((n : Int) == (n' : Int)) = false := by simp; omega
    go_enter Try.func13, Try.ntmps13
    go_wp2_with fail
    go_ret
    exact ⟨ret_b (by unfold lEq; rw [eq_comm, decide_eq_false_iff_not]; exact fun e => hn (by rw [← LX.out, ← LY.out, e])), 0, rfl⟩
end
end Go.Proofs.Yteejjnhlfgjlaaa
