/-
 The frame of a law's proof: how an argument that came in is opened into what the walk is told of it. The frame of a law's proof: how a slice of slices that came in is opened. A row that came in lies below what the call makes.
-/
import Derived.Test.YteejjnhlfgjlaaaKA
import Derived.ProofKit
import Derived.OpenShut
import Derived.ShutString
import Derived.ChangeOld
import Derived.Below
import Derived.Lib.SmallJoins
import Derived.Test.YteejjnhlfgjlaaaKH
import Derived.Deep.Matrix
namespace Go.Proofs.Yteejjnhlfgjlaaa
section
open Go.ChangeShapes Go.WideShapes Go.ChangeAt Go.RowKit Go.Joins Go.Deep Go.WideElems Go.Maps

def I64 (n : Int) : Prop := -9223372036854775808 ≤ n ∧ n ≤ 9223372036854775807
theorem i64_of_wf {n : Int} (h : (Lit.int .i64 n).wf = true) : I64 n := by
 have := bounds_i64 h; unfold I64; omega
section
variable {H : Type} {enc : TypeId × Value → H} {P : Program}

structure RowIn (k : IntKind) (w : World) (a : Option Addr) (n c : Nat) (zs : List Int) : Prop where
 row : Row w k a n zs
 len : n ≤ 9223372036854775807
 nc : n ≤ c
 cap : c ≤ 9223372036854775807
 wf : ∀ z ∈ zs, (Lit.int k z).wf = true

theorem open_row {W : World} {r : Reach} {b0 : Nat} {t e : TypeId} {k : IntKind} {v : Value} {d : DataW H} {ps : List MemPlace} (ht : P.underlying t = some (.slice e)) (he : P.underlying e = some (.int k)) (hc : P.cellsOf e = 1)
    (hval : Value.okWide P W r b0 t v) (h : DataW.Trod enc P W 0 (fun _ => true) true t v d ps) :
    ∃ a n c zs, v = .slice a n c ∧ RowIn k W a n c zs := by
  obtain ⟨a, n, c, rfl⟩ := okWide_slice ht hval; obtain ⟨fuel, hf⟩ := h
  rcases open_ints ht he hc hf with ⟨hcs, _⟩ | ⟨x, l, cp, zs, hcs, _, hl, hm, hz, _, hcell, hwz⟩
  · simp [Value.cells] at hcs
    obtain ⟨rfl, rfl, rfl⟩ := hcs; exact ⟨_, _, _, [], rfl, ⟨rfl, .inl rfl⟩, by omega, by omega, by omega, by simp⟩
  · simp [Value.cells] at hcs
    obtain ⟨rfl, rfl, rfl⟩ := hcs
    unfold maxLen at hm
    simp only [↓reduceIte] at hz; refine ⟨_, _, _, zs.take n, rfl, ⟨by simp; omega, ?_⟩, by omega, by omega, by omega, fun z hz' => hwz z (List.mem_of_mem_take hz')⟩; by_cases h0 : n = 0
    · exact .inl h0
    · obtain ⟨b, o, rfl, hc'⟩ := ints_at hcell (by omega)
      refine .inr ⟨b, o, rfl, fun i hi => ?_⟩; rw [hc' i (by omega)]
      congr 2
      simp [List.getD_eq_getElem?_getD, hi]

theorem open_i3 {W : World} {r : Reach} {b0 : Nat} {t : TypeId} {f0 f1 f2 : Field} {v : Value} {d : DataW H} {ps : List MemPlace} (hs : P.underlying t = some (.struct #[f0, f1, f2])) (hone : oneCellFields P #[f0, f1, f2] = true) (hC : P.cellsOf t = 3)
    (h0 : P.underlying f0.type = some (.int .i64)) (h1 : P.underlying f1.type = some (.int .i64)) (h2 : P.underlying f2.type = some (.int .i64)) (hval : Value.okWide P W r b0 t v) (h : DataW.Trod enc P W 0 (fun _ => true) true t v d ps) :
    ∃ x0 x1 x2, v = .agg #[.int .i64 x0, .int .i64 x1, .int .i64 x2] ∧ I64 x0 ∧ I64 x1 ∧ I64 x2 := by
  obtain ⟨c0, c1, c2, y0, y1, y2, m, rfl, _, _, q0, q1, q2⟩ := open_agg3 hs hone hC hval h; obtain ⟨x0, e0, _, w0⟩ := DataW.trod_int h0 q0; simp at e0; subst e0
  obtain ⟨x1, e1, _, w1⟩ := DataW.trod_int h1 q1; simp at e1; subst e1
  obtain ⟨x2, e2, _, w2⟩ := DataW.trod_int h2 q2; simp at e2; subst e2
  exact ⟨x0, x1, x2, rfl, i64_of_wf w0, i64_of_wf w1, i64_of_wf w2⟩

end
end

section
open Go.ChangeShapes Go.WideShapes Go.ChangeAt Go.RowKit Go.Joins Go.Deep Go.WideElems Go.Maps
end

section
open Go.RowKit

theorem nearRow {W : World} {a : Option Addr} {n c : Nat} {zs : List Int} {B : Nat} (h : RowIn .i64 W a n c zs) (hB : W.heap.size = B) : Near a n B := by
 rcases h.row.2 with h0 | ⟨b, o, rfl, hc⟩
 ·
  exact .inl h0
 rcases Nat.eq_zero_or_pos n with h0 | h0
 ·
  exact .inl h0
 exact .inr ⟨_, rfl, by have := lt_of_cell (hc 0 h0); simp; omega⟩
end
end Go.Proofs.Yteejjnhlfgjlaaa
