/-
  A slice of slices of integers.
-/
import Derived.Test.YtlidacfokgdlgaaKA
namespace Go.Proofs.Ytlidacfokgdlgaa
open Go.RowKit

structure Mat (w : World) (a : Option Addr) (n c : Nat) (L : List (List Int)) : Prop where
  len : n = L.length
  nc : n ≤ c
  cap : c ≤ 9223372036854775807
  rows : n = 0 ∨ ∃ b o, a = some ⟨b, o, none⟩ ∧ ∀ i, i < n → ∃ ai ni ci, w.cell? ⟨b, o + i, none⟩ = some (.slice ai ni ci) ∧ Slc w ai ni ci (L.getD i [])
theorem Mat.call {w w' : World} {a : Option Addr} {n c : Nat} {L : List (List Int)} (h : Mat w a n c L) (hb : Below w.heap.size w w') : Mat w' a n c L := by
  refine ⟨h.len, h.nc, h.cap, ?_⟩
  rcases h.rows with h0 | ⟨b, o, e, hr⟩
  · exact .inl h0
  · refine .inr ⟨b, o, e, fun i hi => ?_⟩
    obtain ⟨ai, ni, ci, h1, h2⟩ := hr i hi
    exact ⟨ai, ni, ci, cell_keep hb h1, h2.call hb⟩
theorem Mat.at {w : World} {a : Option Addr} {n c : Nat} {L : List (List Int)} (h : Mat w a n c L) (hn : 0 < n) : ∃ b o, a = some ⟨b, o, none⟩ := by
  rcases h.rows with h0 | ⟨b, o, e, _⟩
  · omega
  · exact ⟨b, o, e⟩
theorem Mat.row {w : World} {b o n c : Nat} {L : List (List Int)} (h : Mat w (some ⟨b, o, none⟩) n c L) {i : Nat} (hi : i < n) : ∃ ai ni ci, w.cell? ⟨b, o + i, none⟩ = some (.slice ai ni ci) ∧ Slc w ai ni ci (L.getD i []) := by
  rcases h.rows with h0 | ⟨b', o', e, hr⟩
  · omega
  · cases e; exact hr i hi
theorem St.oldMat {B : Nat} {W w : World} {l : List Ch} {rs : List Ro} (h : St B W l rs w) {a : Option Addr} {n c : Nat} {L : List (List Int)} (hs : Mat W a n c L) : Mat w a n c L := hs.call h.below
end Go.Proofs.Ytlidacfokgdlgaa
