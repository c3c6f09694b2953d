/-
  The cells of rows.
-/
import Derived.Test.YtoojiabdgaflgaaHeap
namespace Go.Proofs.Ytoojiabdgaflgaa
open Go.RowKit

theorem cell_keep {w w' : World} {b o : Nat} {v : Value} (hb : Below w.heap.size w w') (h : w.cell? ⟨b, o, none⟩ = some v) : w'.cell? ⟨b, o, none⟩ = some v := by
  have hl := lt_of_cell h
  have e := hb.block b hl
  simp only [World.cell?] at h ⊢
  rw [e]; exact h

theorem row_at {w : World} {k : IntKind} {a : Option Addr} {n : Nat} {zs : List Int} (h : Row w k a n zs) (hn : 0 < n) : ∃ b o, a = some ⟨b, o, none⟩ := by
  rcases h.2 with hz | ⟨b, o, e, _⟩
  · omega
  · exact ⟨b, o, e⟩
theorem row_cell {w : World} {k : IntKind} {b o n : Nat} {zs : List Int} (h : Row w k (some ⟨b, o, none⟩) n zs) {j : Nat} (hj : j < n) : w.cell? ⟨b, o + j, none⟩ = some (.int k (zs.getD j 0)) := by
  rcases h.2 with hz | ⟨b', o', e, h⟩
  · omega
  · cases e; exact h _ hj
theorem Row.len {w : World} {k : IntKind} {a : Option Addr} {n : Nat} {zs : List Int} (h : Row w k a n zs) : zs.length = n := h.1.symm
theorem Row.drewN {w : World} {k : IntKind} {a : Option Addr} {n : Nat} {zs : List Int} (h : Row w k a n zs) (m : Nat) : Row (w.drewN m) k a n zs := h.below (below_drewN (Below.refl _ _) _)
theorem Row.alloc {w : World} {k : IntKind} {a : Option Addr} {n : Nat} {zs : List Int} (h : Row w k a n zs) (o : Obj) : Row (w.alloc o) k a n zs := h.below (below_self _ _)
end Go.Proofs.Ytoojiabdgaflgaa
