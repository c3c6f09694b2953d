/-
  Contracts of package rect and of its reference. Contracts: one rectangle inside another, and full rectangles. Contracts: products with a limit, and the areas of planes. Contracts: which planes are valid, in the program and in the reference. Contract: new planes, in the reference. Contracts: which edges are valid, in the program and in the reference. Contracts: products with a limit, for all integers. Contracts: how great the pixels of an integral plane may be, in the program and in the reference. Contracts: the bin of a pixel. Contract: the histogram of a rectangle of a plane, in the program. Contracts: the rectangle that a plane covers. Contracts: numbers beyond a limit; the sum of a rectangle out of an integral plane, in the program and in the reference. Contracts: equal rows and equal planes, in the reference; the tape's Plane and Edge.
-/
import Derived.Test.YtgpblcddebhphaaDoorProg
import Derived.Test.YtgpblcddebhphaaDoorKA
import Derived.WalkLawsBesides
import Derived.WalkSpells
import Derived.Deep.Light
import Derived.Deep.QuietTactic
import Derived.BigQuiet
import Derived.Deep.RegionHeld3
namespace Go.Proofs.YtgpblcddebhphaaDoor
section
open Go.RowKit
end

section
open Go.RowKit
set_option linter.unusedVariables false

def rFull (a0 a1 a2 a3 : Int) : Bool := rValid a0 a1 a2 a3 && !rEmpty a0 a1 a2 a3
end

section
open Go.RowKit
set_option linter.unusedVariables false
set_option linter.unusedSimpArgs false
end

section
open Go.RowKit
set_option linter.unusedVariables false
end

section
open Go.RowKit
set_option linter.unusedVariables false
set_option linter.unusedSimpArgs false

def nIf (w h mx x : Int) : Int := if pOk w h mx = true then x else 0
def nList (w h mx : Int) : List Int := if pOk w h mx = true then List.replicate (w * h).toNat 0 else []
def NewPost (w h mx : Int) (W : World) (e : Ending) (w' : World) : Prop :=
  ∃ v, e = .returned (.tuple #[.agg #[.int .i64 (nIf w h mx w), .int .i64 (nIf w h mx h), .int .i64 (nIf w h mx mx), v], .bool (pOk w h mx)]) ∧ Own W.heap.size w' v (nList w h mx) ∧ Below W.heap.size W w'
end

section
open Go.RowKit
end

section
open Go.RowKit
set_option linter.unusedVariables false
set_option linter.unusedSimpArgs false
end

section
open Go.RowKit
set_option linter.unusedVariables false
set_option linter.unusedSimpArgs false

def kVal (w h mx : Int) (zs : List Int) : Int := if pValid w h mx zs = true then iVal w h mx else 0
def kCode (w h mx : Int) (zs : List Int) : Int := if pValid w h mx zs = true then iCode w h mx else 1
theorem iOk_no1 {w h mx : Int} (e : ¬ (1 ≤ w ∧ 1 ≤ h ∧ 1 ≤ mx)) : iOk w h mx = false := by rw [← Bool.not_eq_true, iOk_iff]; omega
theorem iVal_no {w h mx : Int} (e : iOk w h mx = false) : iVal w h mx = 0 := by unfold iVal; rw [e]; simp
theorem iVal_yes {w h mx : Int} (e : iOk w h mx = true) : iVal w h mx = w * h * mx := by unfold iVal; rw [if_pos e]
end

section
open Go.RowKit
set_option linter.unusedVariables false
end

section
open Go.RowKit
set_option linter.unusedVariables false

section
variable {B : Nat} {w h mx : Int} {a : Option Addr} {n c : Nat} {zs : List Int} {r0 r1 r2 r3 : Int} {W w1 w' : World}
end

def PartialPost (w h mx : Int) (zs : List Int) (bins r0 r1 r2 r3 : Int) (W : World) (e : Ending) (w' : World) : Prop :=
  ∃ v, e = .returned (.tuple #[v, .int .i64 (hOk w h mx zs bins r0 r1 r2 r3)]) ∧ Own W.heap.size w' v (hList w h mx zs bins r0 r1 r2 r3) ∧ Below W.heap.size W w'
theorem partial_no {w h mx : Int} {zs : List Int} {bins r0 r1 r2 r3 : Int} {W w' : World} {k : Int} (hk : hOk w h mx zs bins r0 r1 r2 r3 = k) (h0 : k ≠ 0) (hb : Below W.heap.size W w') :
    PartialPost w h mx zs bins r0 r1 r2 r3 W (.returned (.tuple #[.slice none 0 0, .int .i64 k])) w' := by
  refine ⟨_, by rw [hk], ?_, hb⟩
  have : hList w h mx zs bins r0 r1 r2 r3 = [] := by unfold hList; rw [hk, if_neg h0]
  rw [this]; exact Own.nil _ _
end

section
open Go.RowKit
set_option linter.unusedVariables false
end

section
open Go.RowKit
set_option linter.unusedVariables false
set_option linter.unusedSimpArgs false

def qAt (w : Int) (zs : List Int) (x y : Int) : Int := if x < 0 ∨ y < 0 then 0 else zs.getD (y * w + x).toNat 0
theorem qAt_no {w : Int} {zs : List Int} {x y : Int} (h : x < 0 ∨ y < 0) : qAt w zs x y = 0 := by unfold qAt; rw [if_pos h]
theorem qAt_yes {w : Int} {zs : List Int} {x y : Int} (h : ¬ (x < 0 ∨ y < 0)) : qAt w zs x y = zs.getD (y * w + x).toNat 0 := by unfold qAt; rw [if_neg h]
theorem qAt_bd {w h mx : Int} {zs : List Int} (hv : pValid w h mx zs = true) (x y : Int) : 0 ≤ qAt w zs x y ∧ qAt w zs x y ≤ mx := by
  have hm := (pOk_iff.1 (pValid_iff.1 hv).1).2.2.2.2.2.1
  unfold qAt
  split
  · omega
  · rcases Nat.lt_or_ge (y * w + x).toNat zs.length with h' | h'
    · rw [List.getD_eq_getElem?_getD, List.getElem?_eq_getElem h']
      exact (pValid_iff.1 hv).2.2 _ (List.getElem_mem h')
    · rw [List.getD_eq_getElem?_getD, List.getElem?_eq_none h']
      show (0 : Int) ≤ 0 ∧ (0 : Int) ≤ mx
      omega
/-- The place of a pixel. -/
theorem pix_at {w h x y : Int} (h1 : 1 ≤ w) (h2 : w ≤ 128) (h3 : h ≤ 128) (x0 : 0 ≤ x) (x1 : x < w) (y0 : 0 ≤ y) (y1 : y < h) : 0 ≤ y * w ∧ y * w ≤ 128 * 128 ∧ 0 ≤ y * w + x ∧ y * w + x < w * h := by
  have p0 : 0 ≤ y * w := Int.mul_nonneg y0 (by omega)
  have p1 : y * w ≤ 128 * 128 := Int.mul_le_mul (by omega) h2 (by omega) (by omega)
  have p2 : y * w ≤ (h - 1) * w := Int.mul_le_mul_of_nonneg_right (by omega) (by omega)
  rw [Int.sub_mul, Int.one_mul, Int.mul_comm h w] at p2
  omega
end

section
open Go.RowKit
set_option linter.unusedVariables false
set_option linter.unusedSimpArgs false

theorem ne_of_getD {xs ys : List Int} {j : Nat} (hx : j < xs.length) (hy : j < ys.length) (h : xs.getD j 0 ≠ ys.getD j 0) : xs ≠ ys := fun e => h (by rw [e])
theorem eq_of_getD {xs ys : List Int} (hl : xs.length = ys.length) (h : ∀ i, i < xs.length → xs.getD i 0 = ys.getD i 0) : xs = ys := by
  refine List.ext_getElem hl fun i h1 h2 => ?_
  have := h i h1
  rwa [List.getD_eq_getElem?_getD, List.getD_eq_getElem?_getD, List.getElem?_eq_getElem h1, List.getElem?_eq_getElem h2] at this

def lEq (xs ys : List Int) : Bool := decide (xs = ys)
end
end Go.Proofs.YtgpblcddebhphaaDoor
