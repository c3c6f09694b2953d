/-
 The frame of a law's proof: how an argument that came in is opened into what the walk is told of it. The frame of a law's proof: how a slice of slices that came in is opened. A row that came in lies below what the call makes.
-/
import Derived.Test.YteejjnhlfgjlaaaGreatKA
import Derived.ProofKit
import Derived.OpenShut
import Derived.ShutString
import Derived.ChangeOld
import Derived.Below
import Derived.Lib.SmallJoins
import Derived.Test.YteejjnhlfgjlaaaGreatKH
import Derived.Deep.Matrix
namespace Go.Proofs.YteejjnhlfgjlaaaGreat
section
open Go.ChangeShapes Go.WideShapes Go.ChangeAt Go.RowKit Go.Joins Go.Deep Go.WideElems Go.Maps

section
variable {H : Type} {enc : TypeId × Value → H} {P : Program}

structure RowIn (k : IntKind) (w : World) (a : Option Addr) (n c : Nat) (zs : List Int) : Prop where
 row : Row w k a n zs
 len : n ≤ 9223372036854775807
 nc : n ≤ c
 cap : c ≤ 9223372036854775807
 wf : ∀ z ∈ zs, (Lit.int k z).wf = true

theorem open_row {W : World} {r : Reach} {b0 : Nat} {t e : TypeId} {k : IntKind} {v : Value} {d : DataW H} {ps : List MemPlace} (ht : P.underlying t = some (.slice e)) (he : P.underlying e = some (.int k)) (hc : P.cellsOf e = 1)
  (hval : Value.okWide P W r b0 t v) (h : DataW.Trod enc P W 0 (fun _ => true) true t v d ps) :
  ∃ a n c zs, v = .slice a n c ∧ RowIn k W a n c zs := by
 obtain ⟨a, n, c, rfl⟩ := okWide_slice ht hval; obtain ⟨fuel, hf⟩ := h
 rcases open_ints ht he hc hf with ⟨hcs, _⟩ | ⟨x, l, cp, zs, hcs, _, hl, hm, hz, _, hcell, hwz⟩
 ·
  simp [Value.cells] at hcs
  obtain ⟨rfl, rfl, rfl⟩ := hcs; exact ⟨_, _, _, [], rfl, ⟨rfl, .inl rfl⟩, by omega, by omega, by omega, by simp⟩
 simp [Value.cells] at hcs
 obtain ⟨rfl, rfl, rfl⟩ := hcs
 unfold maxLen at hm
 simp only [↓reduceIte] at hz; refine ⟨_, _, _, zs.take n, rfl, ⟨by simp; omega, ?_⟩, by omega, by omega, by omega, fun z hz' => hwz z (List.mem_of_mem_take hz')⟩; by_cases h0 : n = 0
 ·
  exact .inl h0
 obtain ⟨b, o, rfl, hc'⟩ := ints_at hcell (by omega); refine .inr ⟨b, o, rfl, fun i hi => ?_⟩; rw [hc' i (by omega)]
 congr 2
 simp [List.getD_eq_getElem?_getD, hi]

end
end

section
open Go.ChangeShapes Go.WideShapes Go.ChangeAt Go.RowKit Go.Joins Go.Deep Go.WideElems Go.Maps
end

section
open Go.RowKit

theorem nearRow {W : World} {a : Option Addr} {n c : Nat} {zs : List Int} {B : Nat} (h : RowIn .i64 W a n c zs) (hB : W.heap.size = B) : Near a n B := by
 rcases h.row.2 with h0 | ⟨b, o, rfl, hc⟩
 ·
  exact .inl h0
 rcases Nat.eq_zero_or_pos n with h0 | h0
 ·
  exact .inl h0
 exact .inr ⟨_, rfl, by have := lt_of_cell (hc 0 h0); simp; omega⟩
end
end Go.Proofs.YteejjnhlfgjlaaaGreat
