/-
  Plain law: sizes of planes and their pixels.
-/
import Derived.Test.YtoojiabdgaflgaaRectPlain
namespace Go.Proofs.Ytoojiabdgaflgaa

def mOk (a b l : Int) : Bool := decide (0 ≤ a ∧ 0 ≤ b ∧ 0 ≤ l ∧ a * b ≤ l)
def mVal (a b l : Int) : Int := if mOk a b l = true then a * b else 0
theorem mOk_iff {a b l : Int} : mOk a b l = true ↔ 0 ≤ a ∧ 0 ≤ b ∧ 0 ≤ l ∧ a * b ≤ l := by simp [mOk]

def pOk (w h mx : Int) : Bool := decide (1 ≤ w ∧ w ≤ 128 ∧ 1 ≤ h ∧ h ≤ 128 ∧ w * h ≤ 4096 ∧ 1 ≤ mx ∧ mx ≤ 4294967296)
theorem pOk_iff {w h mx : Int} : pOk w h mx = true ↔ 1 ≤ w ∧ w ≤ 128 ∧ 1 ≤ h ∧ h ≤ 128 ∧ w * h ≤ 4096 ∧ 1 ≤ mx ∧ mx ≤ 4294967296 := by simp [pOk]
def pArea1 (w h mx : Int) : Int := if pOk w h mx = true then w * h else 0

def allIn (mx : Int) (zs : List Int) : Bool := zs.all fun v => decide (0 ≤ v ∧ v ≤ mx)
theorem allIn_iff {mx : Int} {zs : List Int} : allIn mx zs = true ↔ ∀ v ∈ zs, 0 ≤ v ∧ v ≤ mx := by simp [allIn]
theorem getD_mem' {zs : List Int} {j : Nat} (hj : j < zs.length) : zs.getD j 0 ∈ zs := by
  rw [List.getD_eq_getElem?_getD, List.getElem?_eq_getElem hj]; exact List.getElem_mem hj
theorem mem_getD' {zs : List Int} {z : Int} (h : z ∈ zs) : ∃ j, j < zs.length ∧ zs.getD j 0 = z := by
  obtain ⟨j, hj, e⟩ := List.getElem_of_mem h
  exact ⟨j, hj, by rw [List.getD_eq_getElem?_getD, List.getElem?_eq_getElem hj]; exact e⟩
theorem allIn_of {mx : Int} {zs : List Int} (h : ∀ i, i < zs.length → 0 ≤ zs.getD i 0 ∧ zs.getD i 0 ≤ mx) : allIn mx zs = true := by
  rw [allIn_iff]; intro v hv
  obtain ⟨j, hj, e⟩ := mem_getD' hv
  rw [← e]; exact h j hj
theorem allIn_bad {mx : Int} {zs : List Int} {i : Nat} (hi : i < zs.length) (h : zs.getD i 0 < 0 ∨ mx < zs.getD i 0) : allIn mx zs = false := by
  rw [← Bool.not_eq_true, allIn_iff]; intro h'
  have := h' _ (getD_mem' hi); omega

def pValid (w h mx : Int) (zs : List Int) : Bool := pOk w h mx && decide ((zs.length : Int) = w * h) && allIn mx zs
theorem pValid_iff {w h mx : Int} {zs : List Int} : pValid w h mx zs = true ↔ pOk w h mx = true ∧ (zs.length : Int) = w * h ∧ ∀ v ∈ zs, 0 ≤ v ∧ v ≤ mx := by
  simp [pValid, allIn_iff, and_assoc]
theorem pValid_no {w h mx : Int} {zs : List Int} (hp : pOk w h mx = false ∨ (zs.length : Int) ≠ w * h ∨ allIn mx zs = false) : pValid w h mx zs = false := by
  rcases hp with h' | h' | h' <;> simp [pValid, h']

theorem mul_div {a b l : Int} (hb : 0 < b) : l / b < a ↔ l < a * b := by rw [Int.ediv_lt_iff_lt_mul hb]
end Go.Proofs.Ytoojiabdgaflgaa
