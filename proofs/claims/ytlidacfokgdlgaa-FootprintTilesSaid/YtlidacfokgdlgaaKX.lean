/-
  The frame of a law's proof: how an argument that came in is opened into what the walk is told of it. The frame of a law's proof: how a slice of slices that came in is opened. A row that came in lies below what the call makes.
-/
import Derived.Test.YtlidacfokgdlgaaKA
import Derived.ProofKit
import Derived.OpenShut
import Derived.ShutString
import Derived.ChangeOld
import Derived.Below
import Derived.Lib.SmallJoins
import Derived.Test.YtlidacfokgdlgaaKH
import Derived.Deep.Matrix
namespace Go.Proofs.Ytlidacfokgdlgaa
section
open Go.ChangeShapes Go.WideShapes Go.ChangeAt Go.RowKit Go.Joins Go.Deep Go.WideElems Go.Maps

def I64 (n : Int) : Prop := -9223372036854775808 ≤ n ∧ n ≤ 9223372036854775807
def U64 (n : Int) : Prop := 0 ≤ n ∧ n ≤ 18446744073709551615
theorem i64_of_wf {n : Int} (h : (Lit.int .i64 n).wf = true) : I64 n := by
  have := bounds_i64 h; unfold I64; omega
theorem u64_of_wf {n : Int} (h : (Lit.int .u64 n).wf = true) : U64 n := by
  have := bounds_u64 h; unfold U64; omega

section
variable {H : Type} {enc : TypeId × Value → H} {P : Program}

/-- What the walk is told of a slice of integers that came in. -/
structure RowIn (k : IntKind) (w : World) (a : Option Addr) (n c : Nat) (zs : List Int) : Prop where
  row : Row w k a n zs
  len : n ≤ 9223372036854775807
  nc : n ≤ c
  cap : c ≤ 9223372036854775807
  wf : ∀ z ∈ zs, (Lit.int k z).wf = true

theorem open_row_cells {W : World} {t e : TypeId} {k : IntKind} {v : Value} {y : DataW H × List MemPlace} {fuel : Nat} (ht : P.underlying t = some (.slice e)) (he : P.underlying e = some (.int k)) (hc : P.cellsOf e = 1)
    (hf : DataW.trod enc P W 0 (fun _ => true) true fuel t [v] = some y) :
    ∃ a n c zs, v = .slice a n c ∧ RowIn k W a n c zs := by
  rcases open_ints ht he hc hf with ⟨hcs, _⟩ | ⟨x, l, cp, zs, hcs, _, hl, hm, hz, _, hcell, hwz⟩
  · simp at hcs
    subst hcs
    exact ⟨_, _, _, [], rfl, ⟨rfl, .inl rfl⟩, by omega, by omega, by omega, by simp⟩
  · simp at hcs
    subst hcs
    unfold maxLen at hm
    simp only [↓reduceIte] at hz
    refine ⟨_, _, _, zs.take l, rfl, ⟨by simp; omega, ?_⟩, by omega, by omega, by omega, fun z hz' => hwz z (List.mem_of_mem_take hz')⟩
    by_cases h0 : l = 0
    · exact .inl h0
    · obtain ⟨b, o, rfl, hc'⟩ := ints_at hcell (by omega)
      refine .inr ⟨b, o, rfl, fun i hi => ?_⟩
      rw [hc' i (by omega)]
      congr 2
      simp [List.getD_eq_getElem?_getD, hi]

theorem open_row {W : World} {r : Reach} {b0 : Nat} {t e : TypeId} {k : IntKind} {v : Value} {d : DataW H} {ps : List MemPlace} (ht : P.underlying t = some (.slice e)) (he : P.underlying e = some (.int k)) (hc : P.cellsOf e = 1)
    (hval : Value.okWide P W r b0 t v) (h : DataW.Trod enc P W 0 (fun _ => true) true t v d ps) :
    ∃ a n c zs, v = .slice a n c ∧ RowIn k W a n c zs := by
  obtain ⟨a, n, c, rfl⟩ := okWide_slice ht hval
  obtain ⟨fuel, hf⟩ := h
  rcases open_ints ht he hc hf with ⟨hcs, _⟩ | ⟨x, l, cp, zs, hcs, _, hl, hm, hz, _, hcell, hwz⟩
  · simp [Value.cells] at hcs
    obtain ⟨rfl, rfl, rfl⟩ := hcs
    exact ⟨_, _, _, [], rfl, ⟨rfl, .inl rfl⟩, by omega, by omega, by omega, by simp⟩
  · simp [Value.cells] at hcs
    obtain ⟨rfl, rfl, rfl⟩ := hcs
    unfold maxLen at hm
    simp only [↓reduceIte] at hz
    refine ⟨_, _, _, zs.take n, rfl, ⟨by simp; omega, ?_⟩, by omega, by omega, by omega, fun z hz' => hwz z (List.mem_of_mem_take hz')⟩
    by_cases h0 : n = 0
    · exact .inl h0
    · obtain ⟨b, o, rfl, hc'⟩ := ints_at hcell (by omega)
      refine .inr ⟨b, o, rfl, fun i hi => ?_⟩
      rw [hc' i (by omega)]
      congr 2
      simp [List.getD_eq_getElem?_getD, hi]

theorem open_i2 {W : World} {r : Reach} {b0 : Nat} {t : TypeId} {f0 f1 : Field} {v : Value} {d : DataW H} {ps : List MemPlace} (hs : P.underlying t = some (.struct #[f0, f1])) (hone : oneCellFields P #[f0, f1] = true) (hC : P.cellsOf t = 2)
    (h0 : P.underlying f0.type = some (.int .i64)) (h1 : P.underlying f1.type = some (.int .i64)) (hval : Value.okWide P W r b0 t v) (h : DataW.Trod enc P W 0 (fun _ => true) true t v d ps) :
    ∃ x0 x1, v = .agg #[.int .i64 x0, .int .i64 x1] ∧ I64 x0 ∧ I64 x1 := by
  obtain ⟨c0, c1, y0, y1, m, rfl, _, _, q0, q1⟩ := open_agg2 hs hone hC hval h
  obtain ⟨x0, e0, _, w0⟩ := DataW.trod_int h0 q0
  simp at e0; subst e0
  obtain ⟨x1, e1, _, w1⟩ := DataW.trod_int h1 q1
  simp at e1; subst e1
  exact ⟨x0, x1, rfl, i64_of_wf w0, i64_of_wf w1⟩

theorem open_i3 {W : World} {r : Reach} {b0 : Nat} {t : TypeId} {f0 f1 f2 : Field} {v : Value} {d : DataW H} {ps : List MemPlace} (hs : P.underlying t = some (.struct #[f0, f1, f2])) (hone : oneCellFields P #[f0, f1, f2] = true) (hC : P.cellsOf t = 3)
    (h0 : P.underlying f0.type = some (.int .i64)) (h1 : P.underlying f1.type = some (.int .i64)) (h2 : P.underlying f2.type = some (.int .i64)) (hval : Value.okWide P W r b0 t v) (h : DataW.Trod enc P W 0 (fun _ => true) true t v d ps) :
    ∃ x0 x1 x2, v = .agg #[.int .i64 x0, .int .i64 x1, .int .i64 x2] ∧ I64 x0 ∧ I64 x1 ∧ I64 x2 := by
  obtain ⟨c0, c1, c2, y0, y1, y2, m, rfl, _, _, q0, q1, q2⟩ := open_agg3 hs hone hC hval h
  obtain ⟨x0, e0, _, w0⟩ := DataW.trod_int h0 q0
  simp at e0; subst e0
  obtain ⟨x1, e1, _, w1⟩ := DataW.trod_int h1 q1
  simp at e1; subst e1
  obtain ⟨x2, e2, _, w2⟩ := DataW.trod_int h2 q2
  simp at e2; subst e2
  exact ⟨x0, x1, x2, rfl, i64_of_wf w0, i64_of_wf w1, i64_of_wf w2⟩

theorem open_i4 {W : World} {r : Reach} {b0 : Nat} {t : TypeId} {f0 f1 f2 f3 : Field} {v : Value} {d : DataW H} {ps : List MemPlace} (hs : P.underlying t = some (.struct #[f0, f1, f2, f3])) (hone : oneCellFields P #[f0, f1, f2, f3] = true) (hC : P.cellsOf t = 4)
    (h0 : P.underlying f0.type = some (.int .i64)) (h1 : P.underlying f1.type = some (.int .i64)) (h2 : P.underlying f2.type = some (.int .i64)) (h3 : P.underlying f3.type = some (.int .i64)) (hval : Value.okWide P W r b0 t v) (h : DataW.Trod enc P W 0 (fun _ => true) true t v d ps) :
    ∃ x0 x1 x2 x3, v = .agg #[.int .i64 x0, .int .i64 x1, .int .i64 x2, .int .i64 x3] ∧ I64 x0 ∧ I64 x1 ∧ I64 x2 ∧ I64 x3 := by
  obtain ⟨c0, c1, c2, c3, y0, y1, y2, y3, m, rfl, _, _, q0, q1, q2, q3⟩ := open_agg4 hs hone hC hval h
  obtain ⟨x0, e0, _, w0⟩ := DataW.trod_int h0 q0
  simp at e0; subst e0
  obtain ⟨x1, e1, _, w1⟩ := DataW.trod_int h1 q1
  simp at e1; subst e1
  obtain ⟨x2, e2, _, w2⟩ := DataW.trod_int h2 q2
  simp at e2; subst e2
  obtain ⟨x3, e3, _, w3⟩ := DataW.trod_int h3 q3
  simp at e3; subst e3
  exact ⟨x0, x1, x2, x3, rfl, i64_of_wf w0, i64_of_wf w1, i64_of_wf w2, i64_of_wf w3⟩

theorem open_plane {W : World} {r : Reach} {b0 : Nat} {t e : TypeId} {f0 f1 f2 f3 : Field} {v : Value} {d : DataW H} {ps : List MemPlace} (hs : P.underlying t = some (.struct #[f0, f1, f2, f3])) (hone : oneCellFields P #[f0, f1, f2, f3] = true) (hC : P.cellsOf t = 4)
    (h0 : P.underlying f0.type = some (.int .i64)) (h1 : P.underlying f1.type = some (.int .i64)) (h2 : P.underlying f2.type = some (.int .i64)) (h3 : P.underlying f3.type = some (.slice e)) (he : P.underlying e = some (.int .i64)) (hc : P.cellsOf e = 1)
    (hval : Value.okWide P W r b0 t v) (h : DataW.Trod enc P W 0 (fun _ => true) true t v d ps) :
    ∃ x0 x1 x2 a n c zs, v = .agg #[.int .i64 x0, .int .i64 x1, .int .i64 x2, .slice a n c] ∧ I64 x0 ∧ I64 x1 ∧ I64 x2 ∧ RowIn .i64 W a n c zs := by
  obtain ⟨c0, c1, c2, c3, y0, y1, y2, y3, m, rfl, _, _, q0, q1, q2, q3⟩ := open_agg4 hs hone hC hval h
  obtain ⟨x0, e0, _, w0⟩ := DataW.trod_int h0 q0
  simp at e0; subst e0
  obtain ⟨x1, e1, _, w1⟩ := DataW.trod_int h1 q1
  simp at e1; subst e1
  obtain ⟨x2, e2, _, w2⟩ := DataW.trod_int h2 q2
  simp at e2; subst e2
  obtain ⟨a, n, c, zs, rfl, hr⟩ := open_row_cells h3 he hc q3
  exact ⟨x0, x1, x2, a, n, c, zs, rfl, i64_of_wf w0, i64_of_wf w1, i64_of_wf w2, hr⟩
end
end

section
open Go.ChangeShapes Go.WideShapes Go.ChangeAt Go.RowKit Go.Joins Go.Deep Go.WideElems Go.Maps

theorem addr_plain {w : World} {a : Addr} {v : Value} (h : w.cell? (a.add 0) = some v) : ∃ b o, a = ⟨b, o, none⟩ := by
  obtain ⟨b, off, spot⟩ := a
  have hspot : spot = none := by simpa [Addr.add] using World.cell?_spot h
  subst hspot
  exact ⟨b, off, rfl⟩
theorem open_mat {H : Type} {enc : TypeId × Value → H} {P : Program} {W : World} {r : Reach} {b0 : Nat} {t e q : TypeId} {v : Value} {d : DataW H} {ps : List MemPlace} (ht : P.underlying t = some (.slice e)) (he : P.underlying e = some (.slice q)) (hq : P.underlying q = some (.int .i64))
    (ce : P.cellsOf e = 1) (cq : P.cellsOf q = 1) (hval : Value.okWide P W r b0 t v) (h : DataW.Trod enc P W 0 (fun _ => true) true t v d ps) :
    ∃ a n c L, v = .slice a n c ∧ Mat W a n c L := by
  obtain ⟨a, n, c, rfl⟩ := okWide_slice ht hval
  obtain ⟨fuel, hf⟩ := h
  rcases open_int_rows ht he hq ce cq hf with ⟨hcs, _⟩ | ⟨x, len, cap, A, L, C, Z, hcs, _, hl, hm, _, hrow⟩
  · simp [Value.cells] at hcs
    obtain ⟨rfl, rfl, rfl⟩ := hcs
    exact ⟨_, _, _, [], rfl, ⟨rfl, Nat.le_refl _, by omega, .inl rfl⟩⟩
  · simp [Value.cells] at hcs
    obtain ⟨rfl, rfl, rfl⟩ := hcs
    unfold maxLen at hm
    refine ⟨_, _, _, (List.range n).map (fun i => (Z i).take (L i)), rfl, ⟨by simp, hl, by omega, ?_⟩⟩
    rcases Nat.eq_zero_or_pos n with h0 | h0
    · exact .inl h0
    · obtain ⟨b, o, rfl⟩ := addr_plain (hrow 0 (by omega)).1
      refine .inr ⟨b, o, rfl, fun i hi => ?_⟩
      obtain ⟨h1, h2, h3, h4, _, h6, h7⟩ := hrow i (by omega)
      unfold maxLen at h3
      refine ⟨A i, L i, C i, by rw [← Go.WideShapes.add_plain]; exact h1, ⟨⟨?_, ?_⟩, h2, by omega⟩⟩
      · simp [hi]; omega
      · rcases Nat.eq_zero_or_pos (L i) with hz | hz
        · exact .inl hz
        · cases hA : A i with
          | none => have := h6 hA; omega
          | some y =>
            obtain ⟨_, hc⟩ := h7 y hA
            obtain ⟨yb, yo, rfl⟩ := addr_plain (hc 0 (by omega))
            refine .inr ⟨yb, yo, rfl, fun j hj => ?_⟩
            rw [← Go.WideShapes.add_plain, hc j (by omega)]
            congr 2
            simp [List.getD_eq_getElem?_getD, hi, List.getElem?_take_of_lt hj]
end

section
open Go.RowKit

theorem nearRow {W : World} {a : Option Addr} {n c : Nat} {zs : List Int} {B : Nat} (h : RowIn .i64 W a n c zs) (hB : W.heap.size = B) : Near a n B := by
  rcases h.row.2 with h0 | ⟨b, o, rfl, hc⟩
  · exact .inl h0
  · rcases Nat.eq_zero_or_pos n with h0 | h0
    · exact .inl h0
    · exact .inr ⟨_, rfl, by have := lt_of_cell (hc 0 h0); simp; omega⟩
end
end Go.Proofs.Ytlidacfokgdlgaa
