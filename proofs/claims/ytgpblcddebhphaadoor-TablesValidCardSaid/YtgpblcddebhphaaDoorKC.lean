/-
  Contracts of the tape's Within: a rectangle within a size; the tape alone has changed. Contract of the tape's Sized: a valid plane of a size; the tape alone has changed. Contracts: equal planes, in the reference; the tape's Plane and Edge.
-/
import Derived.Test.YtgpblcddebhphaaDoorKA
import Derived.Deep.RegionWith
import Derived.Deep.DrawnRows
import Derived.Deep.RegionHeld3
import Derived.Deep.DeepCutAuto
import Derived.Test.YtgpblcddebhphaaDoorKB
namespace Go.Proofs.YtgpblcddebhphaaDoor
section
open Go.RowKit
attribute [local go_sem ↓] Go.wp_at_zero Go.wp_at_succ
set_option linter.unusedVariables false
set_option linter.unusedSimpArgs false

def WithinPost (B0 k : Nat) (W : World) (w h : Int) (e : Ending) (w' : World) : Prop :=
  ∃ r0 r1 r2 r3 : Int, e = .returned (.agg #[.int .i64 r0, .int .i64 r1, .int .i64 r2, .int .i64 r3]) ∧ (0 ≤ r0 ∧ r0 < r2 ∧ r2 ≤ w ∧ 0 ≤ r1 ∧ r1 < r3 ∧ r3 ≤ h) ∧ TapeB B0 w' k ∧ W.grownBy w' (some k)
end

section
open Go.RowKit
attribute [local go_sem ↓] Go.wp_at_zero Go.wp_at_succ
set_option linter.unusedVariables false
set_option linter.unusedSimpArgs false

/-- A valid plane that a call made. -/
def PlanePost (B0 k : Nat) (W : World) (w h : Int) (e : Ending) (w' : World) : Prop :=
  ∃ mx v zs, e = .returned (.agg #[.int .i64 w, .int .i64 h, .int .i64 mx, v]) ∧ pValid w h mx zs = true ∧ mx ≤ 65535 ∧ Own W.heap.size w' v zs ∧ TapeB B0 w' k ∧ W.grownBy w' (some k)

theorem pick_in {r z1 z2 mx : Int} (h : r ∈ [z1, z2, mx, 0]) (hm : 0 ≤ mx) (a : 0 ≤ z1) (b : z1 ≤ mx) (c : 0 ≤ z2) (d : z2 ≤ mx) : 0 ≤ r ∧ r ≤ mx := by
  simp only [List.mem_cons, List.not_mem_nil, or_false] at h
  omega
theorem in_set {zs : List Int} {mx r : Int} {j : Nat} (h : ∀ i, 0 ≤ zs.getD i 0 ∧ zs.getD i 0 ≤ mx) (r0 : 0 ≤ r) (r1 : r ≤ mx) : ∀ i, 0 ≤ (zs.set j r).getD i 0 ∧ (zs.set j r).getD i 0 ≤ mx := fun i => by
  have := h i
  rw [List.getD_eq_getElem?_getD, List.getElem?_set]
  split
  · split
    · exact ⟨r0, r1⟩
    · show (0 : Int) ≤ 0 ∧ (0 : Int) ≤ mx; omega
  · rwa [← List.getD_eq_getElem?_getD]
theorem sized_valid {w h mx : Int} {zs : List Int} (hw : 1 ≤ w) (hw' : w ≤ 12) (hh : 1 ≤ h) (hh' : h ≤ 12) (m0 : 1 ≤ mx) (m1 : mx ≤ 65535) (hl : (zs.length : Int) = w * h) (hin : ∀ i, 0 ≤ zs.getD i 0 ∧ zs.getD i 0 ≤ mx) : pValid w h mx zs = true := by
  have p1 : w * h ≤ 12 * 12 := Int.mul_le_mul hw' hh' (by omega) (by omega)
  exact pValid_iff.2 ⟨pOk_iff.2 (by omega), hl, allIn_iff.1 (allIn_of fun i _ => hin i)⟩
end

section
open Go.RowKit
attribute [local go_sem ↓] Go.wp_at_zero Go.wp_at_succ
set_option linter.unusedVariables false
set_option linter.unusedSimpArgs false

def pEq (w h m : Int) (xs : List Int) (w' h' m' : Int) (ys : List Int) : Bool := decide (w = w' ∧ h = h' ∧ m = m' ∧ xs = ys)
theorem pEq_false {w h m : Int} {xs : List Int} {w' h' m' : Int} {ys : List Int} (e : ¬ (w = w' ∧ h = h' ∧ m = m' ∧ xs = ys)) : pEq w h m xs w' h' m' ys = false := by
  unfold pEq; rw [decide_eq_false_iff_not]; exact e
def TPlanePost (B0 k : Nat) (W : World) (e : Ending) (w' : World) : Prop := ∃ w h : Int, 1 ≤ w ∧ w ≤ 6 ∧ 1 ≤ h ∧ h ≤ 5 ∧ PlanePost B0 k W w h e w'
end
end Go.Proofs.YtgpblcddebhphaaDoor
