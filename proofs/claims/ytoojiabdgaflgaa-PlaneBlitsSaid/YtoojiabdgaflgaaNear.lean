/-
  A row that came in lies below what the call makes.
-/
import Derived.Test.YtoojiabdgaflgaaFrame
import Derived.Test.YtoojiabdgaflgaaTape
namespace Go.Proofs.Ytoojiabdgaflgaa
open Go.RowKit

theorem nearRow {W : World} {a : Option Addr} {n c : Nat} {zs : List Int} {B : Nat} (h : RowIn .i64 W a n c zs) (hB : W.heap.size = B) : Near a n B := by
  rcases h.row.2 with h0 | ⟨b, o, rfl, hc⟩
  · exact .inl h0
  · rcases Nat.eq_zero_or_pos n with h0 | h0
    · exact .inl h0
    · exact .inr ⟨_, rfl, by have := lt_of_cell (hc 0 h0); simp; omega⟩
end Go.Proofs.Ytoojiabdgaflgaa
