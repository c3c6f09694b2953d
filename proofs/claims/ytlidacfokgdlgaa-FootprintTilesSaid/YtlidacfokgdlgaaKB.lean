/-
  Contracts of package rect and of its reference. Contracts: one rectangle inside another, and full rectangles. Contracts: products with a limit, and the areas of planes. Contracts: which planes are valid, in the program and in the reference. Contract: new planes, in the reference. Contracts: which edges are valid, in the program and in the reference. Contracts: products with a limit, for all integers. Contracts: how great the pixels of an integral plane may be, in the program and in the reference. Contracts: the bin of a pixel. Contract: the histogram of a rectangle of a plane, in the program. Contracts: the rectangle that a plane covers. Contracts: numbers beyond a limit; the sum of a rectangle out of an integral plane, in the program and in the reference. Contracts: equal rows and equal planes, in the reference; the tape's Plane and Edge.
-/
import Derived.Test.YtlidacfokgdlgaaProg
import Derived.Test.YtlidacfokgdlgaaKA
import Derived.WalkLawsBesides
import Derived.WalkSpells
import Derived.Deep.Light
import Derived.Deep.QuietTactic
import Derived.BigQuiet
import Derived.Deep.RegionHeld3
namespace Go.Proofs.Ytlidacfokgdlgaa
section
open Go.RowKit

set_option maxHeartbeats 400000 in
theorem rcoord_any (v : Int) (w : World) :
    Calls Try.prog 47 #[.int .i64 v] w fun e w' => e = .returned (.bool (rIn v)) ∧ w = w' := by
  go_enter Try.func47, Try.ntmps47
  go_wp2
  all_goals go_ret
  all_goals refine ⟨ret_b ?_, rfl⟩
  all_goals go_light
  all_goals (unfold rIn; simp; try omega)

set_option maxHeartbeats 800000 in
theorem qvalid_any (x0 y0 x1 y1 : Int) (w : World) :
    Calls Try.prog 32 #[.agg #[.int .i64 x0, .int .i64 y0, .int .i64 x1, .int .i64 y1]] w fun e w' => e = .returned (.bool (rValid x0 y0 x1 y1)) ∧ Below w.heap.size w w' := by
  go_enter Try.func32, Try.ntmps32
  go_wp2_with (first
      | (go_at_call 47; refine (rcoord_any _ _).mono ?_; rintro e w' ⟨rfl, rfl⟩))
  all_goals go_ret
  all_goals refine ⟨ret_b ?_, below_self _ _⟩
  all_goals go_light
  all_goals (try simp only [rIn, decide_eq_true_eq] at *)
  all_goals (refine bool_of_iff ?_; rw [rValid_iff]; simp; try omega)
end

section
open Go.RowKit
set_option linter.unusedVariables false

def rFull (a0 a1 a2 a3 : Int) : Bool := rValid a0 a1 a2 a3 && !rEmpty a0 a1 a2 a3
end

section
open Go.RowKit
set_option linter.unusedVariables false
set_option linter.unusedSimpArgs false
end

section
open Go.RowKit
set_option linter.unusedVariables false
end

section
open Go.RowKit
set_option linter.unusedVariables false
set_option linter.unusedSimpArgs false

def nIf (w h mx x : Int) : Int := if pOk w h mx = true then x else 0
def nList (w h mx : Int) : List Int := if pOk w h mx = true then List.replicate (w * h).toNat 0 else []
def NewPost (w h mx : Int) (W : World) (e : Ending) (w' : World) : Prop :=
  ∃ v, e = .returned (.tuple #[.agg #[.int .i64 (nIf w h mx w), .int .i64 (nIf w h mx h), .int .i64 (nIf w h mx mx), v], .bool (pOk w h mx)]) ∧ Own W.heap.size w' v (nList w h mx) ∧ Below W.heap.size W w'
end

section
open Go.RowKit
end

section
open Go.RowKit
set_option linter.unusedVariables false
set_option linter.unusedSimpArgs false
end

section
open Go.RowKit
set_option linter.unusedVariables false
set_option linter.unusedSimpArgs false

def kVal (w h mx : Int) (zs : List Int) : Int := if pValid w h mx zs = true then iVal w h mx else 0
def kCode (w h mx : Int) (zs : List Int) : Int := if pValid w h mx zs = true then iCode w h mx else 1
theorem iOk_no1 {w h mx : Int} (e : ¬ (1 ≤ w ∧ 1 ≤ h ∧ 1 ≤ mx)) : iOk w h mx = false := by rw [← Bool.not_eq_true, iOk_iff]; omega
theorem iVal_no {w h mx : Int} (e : iOk w h mx = false) : iVal w h mx = 0 := by unfold iVal; rw [e]; simp
theorem iVal_yes {w h mx : Int} (e : iOk w h mx = true) : iVal w h mx = w * h * mx := by unfold iVal; rw [if_pos e]
end

section
open Go.RowKit
set_option linter.unusedVariables false
end

section
open Go.RowKit
set_option linter.unusedVariables false

section
variable {B : Nat} {w h mx : Int} {a : Option Addr} {n c : Nat} {zs : List Int} {r0 r1 r2 r3 : Int} {W w1 w' : World}
end

def PartialPost (w h mx : Int) (zs : List Int) (bins r0 r1 r2 r3 : Int) (W : World) (e : Ending) (w' : World) : Prop :=
  ∃ v, e = .returned (.tuple #[v, .int .i64 (hOk w h mx zs bins r0 r1 r2 r3)]) ∧ Own W.heap.size w' v (hList w h mx zs bins r0 r1 r2 r3) ∧ Below W.heap.size W w'
theorem partial_no {w h mx : Int} {zs : List Int} {bins r0 r1 r2 r3 : Int} {W w' : World} {k : Int} (hk : hOk w h mx zs bins r0 r1 r2 r3 = k) (h0 : k ≠ 0) (hb : Below W.heap.size W w') :
    PartialPost w h mx zs bins r0 r1 r2 r3 W (.returned (.tuple #[.slice none 0 0, .int .i64 k])) w' := by
  refine ⟨_, by rw [hk], ?_, hb⟩
  have : hList w h mx zs bins r0 r1 r2 r3 = [] := by unfold hList; rw [hk, if_neg h0]
  rw [this]; exact Own.nil _ _
end

section
open Go.RowKit
set_option linter.unusedVariables false
end

section
open Go.RowKit
set_option linter.unusedVariables false
set_option linter.unusedSimpArgs false

def qAt (w : Int) (zs : List Int) (x y : Int) : Int := if x < 0 ∨ y < 0 then 0 else zs.getD (y * w + x).toNat 0
theorem qAt_no {w : Int} {zs : List Int} {x y : Int} (h : x < 0 ∨ y < 0) : qAt w zs x y = 0 := by unfold qAt; rw [if_pos h]
theorem qAt_yes {w : Int} {zs : List Int} {x y : Int} (h : ¬ (x < 0 ∨ y < 0)) : qAt w zs x y = zs.getD (y * w + x).toNat 0 := by unfold qAt; rw [if_neg h]
theorem qAt_bd {w h mx : Int} {zs : List Int} (hv : pValid w h mx zs = true) (x y : Int) : 0 ≤ qAt w zs x y ∧ qAt w zs x y ≤ mx := by
  have hm := (pOk_iff.1 (pValid_iff.1 hv).1).2.2.2.2.2.1
  unfold qAt
  split
  · omega
  · rcases Nat.lt_or_ge (y * w + x).toNat zs.length with h' | h'
    · rw [List.getD_eq_getElem?_getD, List.getElem?_eq_getElem h']
      exact (pValid_iff.1 hv).2.2 _ (List.getElem_mem h')
    · rw [List.getD_eq_getElem?_getD, List.getElem?_eq_none h']
      show (0 : Int) ≤ 0 ∧ (0 : Int) ≤ mx
      omega
/-- The place of a pixel. -/
theorem pix_at {w h x y : Int} (h1 : 1 ≤ w) (h2 : w ≤ 128) (h3 : h ≤ 128) (x0 : 0 ≤ x) (x1 : x < w) (y0 : 0 ≤ y) (y1 : y < h) : 0 ≤ y * w ∧ y * w ≤ 128 * 128 ∧ 0 ≤ y * w + x ∧ y * w + x < w * h := by
  have p0 : 0 ≤ y * w := Int.mul_nonneg y0 (by omega)
  have p1 : y * w ≤ 128 * 128 := Int.mul_le_mul (by omega) h2 (by omega) (by omega)
  have p2 : y * w ≤ (h - 1) * w := Int.mul_le_mul_of_nonneg_right (by omega) (by omega)
  rw [Int.sub_mul, Int.one_mul, Int.mul_comm h w] at p2
  omega
end

section
open Go.RowKit
set_option linter.unusedVariables false
set_option linter.unusedSimpArgs false

theorem ne_of_getD {xs ys : List Int} {j : Nat} (hx : j < xs.length) (hy : j < ys.length) (h : xs.getD j 0 ≠ ys.getD j 0) : xs ≠ ys := fun e => h (by rw [e])
theorem eq_of_getD {xs ys : List Int} (hl : xs.length = ys.length) (h : ∀ i, i < xs.length → xs.getD i 0 = ys.getD i 0) : xs = ys := by
  refine List.ext_getElem hl fun i h1 h2 => ?_
  have := h i h1
  rwa [List.getD_eq_getElem?_getD, List.getD_eq_getElem?_getD, List.getElem?_eq_getElem h1, List.getElem?_eq_getElem h2] at this

def lEq (xs ys : List Int) : Bool := decide (xs = ys)
set_option maxRecDepth 100000 in
set_option maxHeartbeats 1600000 in
theorem qsame_any (a : Option Addr) (n c : Nat) (xs : List Int) (a' : Option Addr) (n' c' : Nat) (ys : List Int) (W : World) (hx : Slc W a n c xs) (hy : Slc W a' n' c' ys) :
    Calls Try.prog 11 #[.slice a n c, .slice a' n' c'] W fun e w' => e = .returned (.bool (lEq xs ys)) ∧ ∃ m, w' = W.drewN m := by
  have HX := hid hx
  have HY := hid hy
  have LX := hid hx.len
  have LY := hid hy.len
  obtain ⟨nc1, nc2⟩ := And.intro hx.nc hx.cap
  have nm : (n : Int) ≤ 9223372036854775807 := by omega
  clear hx hy nc1 nc2
  by_cases hn : n = n'
  · subst hn
    go_enter Try.func11, Try.ntmps11
    go_wp2_with fail
    go_loopw [5] (fun i wr => ∃ j : Nat, j ≤ n ∧ i = .int .i64 j ∧ (∀ i, i < j → xs.getD i 0 = ys.getD i 0) ∧ ∃ m, wr = W.drewN m) (fun i _ => n - (intOf i).toNat)
    case atStart => exact ⟨0, by omega, rfl, fun i hi => by omega, 0, rfl⟩
    case round =>
      obtain ⟨j, hj, rfl, ha, m, hm⟩ := hrel
      obtain ⟨w1, rfl⟩ : ∃ w1 : World, w1 = wr := ⟨_, rfl⟩
      have HA := hid ha
      have HM := hid hm
      have HX1 := hid (show Slc w1 a n c xs by rw [hm]; exact HX.out.drewN m)
      have HY1 := hid (show Slc w1 a' n c' ys by rw [hm]; exact HY.out.drewN m)
      clear ha hm
      by_cases hjn : j < n
      · obtain ⟨b, o, rfl⟩ := row_at HX1.out.row (by omega)
        obtain ⟨b', o', rfl⟩ := row_at HY1.out.row (by omega)
        have cx := row_cell HX1.out.row hjn
        have cy := row_cell HY1.out.row hjn
        have hjn' : (j : Int) < n := by omega
        have HB := hid (fun h : xs.getD j 0 ≠ ys.getD j 0 => ne_of_getD (by have := LX.out; omega) (by have := LY.out; omega) h)
        have HI := hid (show xs.getD j 0 = ys.getD j 0 → ∀ i, i < j + 1 → xs.getD i 0 = ys.getD i 0 from fun hg i hi => by
          rcases Nat.lt_or_ge i j with h' | h'
          · exact HA.out i h'
          · obtain rfl : i = j := by omega
            exact hg)
        generalize xs.getD j 0 = x at *
        generalize ys.getD j 0 = y at *
        by_cases hxy : x = y
        · have h1 : (x != y) = false := by simp [hxy]
          have HXY := hid hxy
          clear hxy
          go_wp2_with fail
          go_quiet (fail)
          go_wp2_with fail
          go_roundw
          case rel => exact ⟨j + 1, by omega, by go_num, HI.out HXY.out, _, by rw [HM.out, World.drewN_drewN]⟩
          case measure => simp [intOf]; omega
        · have h1 : (x != y) = true := by simp [hxy]
          have h2 : (x == y) = false := by simp [hxy]
          go_wp2_with fail
          go_quiet (fail)
          go_wp2_with fail
          go_ret
          exact ⟨ret_b (by unfold lEq; rw [eq_comm, decide_eq_false_iff_not]; exact HB.out hxy), _, by rw [HM.out, World.drewN_drewN]⟩
      · obtain rfl : n = j := by omega
        go_wp2_with fail
        go_ret
        exact ⟨ret_b (by unfold lEq; rw [eq_comm, decide_eq_true_eq]; exact eq_of_getD (by rw [LX.out, LY.out]) (fun i hi => HA.out i (by rw [LX.out] at hi; exact hi))), m, HM.out⟩
  · have h1 : ((n : Int) != (n' : Int)) = true := by simp; omega
    have h2 : ((n : Int) == (n' : Int)) = false := by simp; omega
    go_enter Try.func11, Try.ntmps11
    go_wp2_with fail
    go_ret
    exact ⟨ret_b (by unfold lEq; rw [eq_comm, decide_eq_false_iff_not]; exact fun e => hn (by rw [← LX.out, ← LY.out, e])), 0, rfl⟩
end
end Go.Proofs.Ytlidacfokgdlgaa
