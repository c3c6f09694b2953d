/-
  Plain facts on rectangles, with no program in sight.
-/
import Derived.Test.YtoojiabdgaflgaaPlain
namespace Go.Proofs.Ytoojiabdgaflgaa

def rEmpty (x0 y0 x1 y1 : Int) : Bool := decide (x0 = 0 ∧ y0 = 0 ∧ x1 = 0 ∧ y1 = 0)
def rIn (v : Int) : Bool := decide (-1048576 ≤ v ∧ v ≤ 1048576)
def rValid (x0 y0 x1 y1 : Int) : Bool :=
  decide ((x0 = 0 ∧ y0 = 0 ∧ x1 = 0 ∧ y1 = 0) ∨ (-1048576 ≤ x0 ∧ x0 ≤ 1048576 ∧ -1048576 ≤ y0 ∧ y0 ≤ 1048576 ∧ -1048576 ≤ x1 ∧ x1 ≤ 1048576 ∧ -1048576 ≤ y1 ∧ y1 ≤ 1048576 ∧ x0 < x1 ∧ y0 < y1))
/-- What is common to two rectangles, if both are valid and there is anything. -/
def rMeet (a0 a1 a2 a3 b0 b1 b2 b3 : Int) : Bool := rValid a0 a1 a2 a3 && rValid b0 b1 b2 b3 && decide (max a0 b0 < min a2 b2 ∧ max a1 b1 < min a3 b3)
def rX0 (a0 a1 a2 a3 b0 b1 b2 b3 : Int) : Int := if rMeet a0 a1 a2 a3 b0 b1 b2 b3 = true then max a0 b0 else 0
def rY0 (a0 a1 a2 a3 b0 b1 b2 b3 : Int) : Int := if rMeet a0 a1 a2 a3 b0 b1 b2 b3 = true then max a1 b1 else 0
def rX1 (a0 a1 a2 a3 b0 b1 b2 b3 : Int) : Int := if rMeet a0 a1 a2 a3 b0 b1 b2 b3 = true then min a2 b2 else 0
def rY1 (a0 a1 a2 a3 b0 b1 b2 b3 : Int) : Int := if rMeet a0 a1 a2 a3 b0 b1 b2 b3 = true then min a3 b3 else 0
def rInside (a0 a1 a2 a3 b0 b1 b2 b3 : Int) : Bool := rValid a0 a1 a2 a3 && rValid b0 b1 b2 b3 && (rEmpty a0 a1 a2 a3 || decide (b0 ≤ a0 ∧ a2 ≤ b2 ∧ b1 ≤ a1 ∧ a3 ≤ b3))
def rContains (x0 y0 x1 y1 x y : Int) : Bool := rValid x0 y0 x1 y1 && decide (x0 ≤ x ∧ x < x1 ∧ y0 ≤ y ∧ y < y1)
def rArea (x0 y0 x1 y1 : Int) : Int := if rValid x0 y0 x1 y1 = true then (x1 - x0) * (y1 - y0) else 0

theorem rEmpty_iff {x0 y0 x1 y1 : Int} : rEmpty x0 y0 x1 y1 = true ↔ x0 = 0 ∧ y0 = 0 ∧ x1 = 0 ∧ y1 = 0 := by simp [rEmpty]
theorem rValid_iff {x0 y0 x1 y1 : Int} : rValid x0 y0 x1 y1 = true ↔ (x0 = 0 ∧ y0 = 0 ∧ x1 = 0 ∧ y1 = 0) ∨ (-1048576 ≤ x0 ∧ x0 ≤ 1048576 ∧ -1048576 ≤ y0 ∧ y0 ≤ 1048576 ∧ -1048576 ≤ x1 ∧ x1 ≤ 1048576 ∧ -1048576 ≤ y1 ∧ y1 ≤ 1048576 ∧ x0 < x1 ∧ y0 < y1) := by simp [rValid]
theorem rMeet_iff {a0 a1 a2 a3 b0 b1 b2 b3 : Int} : rMeet a0 a1 a2 a3 b0 b1 b2 b3 = true ↔ rValid a0 a1 a2 a3 = true ∧ rValid b0 b1 b2 b3 = true ∧ max a0 b0 < min a2 b2 ∧ max a1 b1 < min a3 b3 := by simp [rMeet, and_assoc]
theorem bool_of_iff {b c : Bool} (h : b = true ↔ c = true) : b = c := by cases b <;> cases c <;> simp_all
end Go.Proofs.Ytoojiabdgaflgaa
