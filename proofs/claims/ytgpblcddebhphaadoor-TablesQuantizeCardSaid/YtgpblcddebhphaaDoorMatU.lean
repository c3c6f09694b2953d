/-
  Slices of slices of floating point bits, as a call reads them; quantized tables: the plain law.
-/
import Derived.Test.YtgpblcddebhphaaDoorIeeeQz
import Derived.Test.YtgpblcddebhphaaDoorTab2
namespace Go.Proofs.YtgpblcddebhphaaDoor
open Go.RowKit
set_option linter.unusedVariables false

structure MatU (w : World) (a : Option Addr) (n c : Nat) (L : List (List Int)) : Prop where
  len : n = L.length
  nc : n ≤ c
  cap : c ≤ 9223372036854775807
  all : ∀ i, U64s (L.getD i [])
  rows : n = 0 ∨ ∃ b o, a = some ⟨b, o, none⟩ ∧ ∀ i, i < n → ∃ ai ni ci, w.cell? ⟨b, o + i, none⟩ = some (.slice ai ni ci) ∧ Slu w ai ni ci (L.getD i [])
theorem MatU.call {w w' : World} {a : Option Addr} {n c : Nat} {L : List (List Int)} (h : MatU w a n c L) (hb : Below w.heap.size w w') : MatU w' a n c L := by
  refine ⟨h.len, h.nc, h.cap, h.all, ?_⟩
  rcases h.rows with h0 | ⟨b, o, e, hr⟩
  · exact .inl h0
  · refine .inr ⟨b, o, e, fun i hi => ?_⟩
    obtain ⟨ai, ni, ci, h1, h2⟩ := hr i hi
    exact ⟨ai, ni, ci, cell_keep hb h1, h2.call hb⟩
theorem MatU.at {w : World} {a : Option Addr} {n c : Nat} {L : List (List Int)} (h : MatU w a n c L) (hn : 0 < n) : ∃ b o, a = some ⟨b, o, none⟩ := by
  rcases h.rows with h0 | ⟨b, o, e, _⟩
  · omega
  · exact ⟨b, o, e⟩
theorem MatU.row {w : World} {b o n c : Nat} {L : List (List Int)} (h : MatU w (some ⟨b, o, none⟩) n c L) {i : Nat} (hi : i < n) : ∃ ai ni ci, w.cell? ⟨b, o + i, none⟩ = some (.slice ai ni ci) ∧ Slu w ai ni ci (L.getD i []) := by
  rcases h.rows with h0 | ⟨b', o', e, hr⟩
  · omega
  · cases e; exact hr i hi
theorem u64s_nil : U64s [] := fun j => by simp

def qtOne (fs : List Int) (L : List (List Int)) (s : Int) (j : Nat) : Int := if tFirst (fs.getD j 0) = false then 2 else qCode (nats (L.getD j [])) s
def qtTo (fs : List Int) (L : List (List Int)) (s : Int) : Nat → Int
  | 0 => 0
  | j + 1 => if qtTo fs L s j ≠ 0 then qtTo fs L s j else qtOne fs L s j
def qtBad (fs : List Int) (L : List (List Int)) : Prop := fs.length ≠ L.length ∨ L.length = 0 ∨ 128 < L.length
instance (fs : List Int) (L : List (List Int)) : Decidable (qtBad fs L) := by unfold qtBad; infer_instance
def qtCode (fs : List Int) (L : List (List Int)) (s : Int) : Int := if qtBad fs L then 8 else qtTo fs L s L.length
def qtTap (fs : List Int) (L : List (List Int)) (s : Int) (j : Nat) : Int × List Int := (fs.getD j 0, qList (nats (L.getD j [])) s)
def qtT (fs : List Int) (L : List (List Int)) (s : Int) : Tbl := if qtCode fs L s = 0 then (List.range L.length).map (qtTap fs L s) else []
theorem qt_8 {fs : List Int} {L : List (List Int)} {s : Int} (h : qtBad fs L) : qtCode fs L s = 8 := by unfold qtCode; rw [if_pos h]
theorem qtT_no {fs : List Int} {L : List (List Int)} {s : Int} (h : qtCode fs L s ≠ 0) : qtT fs L s = [] := by unfold qtT; rw [if_neg h]
theorem qt_bad {fs : List Int} {L : List (List Int)} {s k : Int} (hg : ¬ qtBad fs L) {j : Nat} (hj : j < L.length) (h0 : qtTo fs L s j = 0) (h : qtOne fs L s j = k) (hk : k ≠ 0) : qtCode fs L s = k := by
  have h1 : qtTo fs L s (j + 1) = k := by simp only [qtTo]; rw [if_neg (by simpa using h0), h]
  have key : ∀ d, qtTo fs L s (j + 1 + d) = k := by
    intro d
    induction d with
    | zero => exact h1
    | succ d ih => show qtTo fs L s ((j + 1 + d) + 1) = _; simp only [qtTo]; rw [if_pos (by rw [ih]; exact hk), ih]
  have := key (L.length - (j + 1))
  unfold qtCode; rw [if_neg hg, ← this]; congr 1; omega
theorem qt_next {fs : List Int} {L : List (List Int)} {s : Int} {j : Nat} (h0 : qtTo fs L s j = 0) (h : qtOne fs L s j = 0) : qtTo fs L s (j + 1) = 0 := by simp only [qtTo]; rw [if_neg (by simpa using h0), h]
theorem qt_0 {fs : List Int} {L : List (List Int)} {s : Int} (hg : ¬ qtBad fs L) (h0 : qtTo fs L s L.length = 0) : qtCode fs L s = 0 := by unfold qtCode; rw [if_neg hg, h0]
theorem qtOne_2 {fs : List Int} {L : List (List Int)} {s : Int} {j : Nat} (h : tFirst (fs.getD j 0) = false) : qtOne fs L s j = 2 := by unfold qtOne; rw [if_pos h]
theorem qtOne_q {fs : List Int} {L : List (List Int)} {s : Int} {j : Nat} (h : tFirst (fs.getD j 0) = true) : qtOne fs L s j = qCode (nats (L.getD j [])) s := by unfold qtOne; rw [if_neg (by rw [h]; simp)]
end Go.Proofs.YtgpblcddebhphaaDoor
