/-
  Plain law: integral planes: how great a sum may be.
-/
import Derived.Test.YtoojiabdgaflgaaPlanePlain
import Derived.Test.YtoojiabdgaflgaaSumPlain
namespace Go.Proofs.Ytoojiabdgaflgaa

def iOk (w h mx : Int) : Bool := decide (1 ≤ w ∧ 1 ≤ h ∧ 1 ≤ mx ∧ w * h ≤ 4294967296 ∧ w * h * mx ≤ 4294967296)
def iVal (w h mx : Int) : Int := if iOk w h mx = true then w * h * mx else 0
def iCode (w h mx : Int) : Int := if iOk w h mx = true then 0 else 11
theorem iOk_iff {w h mx : Int} : iOk w h mx = true ↔ 1 ≤ w ∧ 1 ≤ h ∧ 1 ≤ mx ∧ w * h ≤ 4294967296 ∧ w * h * mx ≤ 4294967296 := by simp [iOk]
theorem iOk_mul {w h mx : Int} (h1 : 1 ≤ w) (h2 : 1 ≤ h) (h3 : 1 ≤ mx) : iOk w h mx = (mOk w h 4294967296 && mOk (w * h) mx 4294967296) := by
  have p := Int.mul_nonneg (a := w) (b := h) (by omega) (by omega)
  refine bool_of_iff ?_
  rw [iOk_iff, Bool.and_eq_true, mOk_iff, mOk_iff]
  omega
end Go.Proofs.Ytoojiabdgaflgaa
