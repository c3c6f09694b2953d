/-
  Slices that a call makes: make([]int, n), a store into one, a part of a row.
-/
import Derived.Test.YtoojiabdgaflgaaOwn
import Derived.Test.YtoojiabdgaflgaaRowCell
import Derived.Laws.OwnMore
namespace Go.Proofs.Ytoojiabdgaflgaa
open Go.RowKit

theorem below_of_grown_none {w w' : World} (hg : w.grownBy w' none) : Below w.heap.size w w' := ⟨hg.os, hg.tape, hg.output, hg.size, fun k hk => hg.block k hk (by simp)⟩

/-- make([]int, n). -/
theorem make_int {ops : Array Oper} {rest : List Oper} {o : Oper} {a : Act} {Q : Exit → Act → World → Prop} {w : World} (hgd : o.guard = none) (l c : Operand)
    (ho : o.op = Op.makeSlice 22 l c) (base : Nat) (L C : Int) (n : Nat) (hl : a.eval l = .int .i64 L) (hc : a.eval c = .int .i64 C) (hL : L = (n : Int)) (hC : C = (n : Int)) (hn : n ≤ 1000000000) (hbase : base ≤ w.heap.size)
    (h : ∀ w', Own base w' (.slice (some ⟨w.heap.size, 0, none⟩) n n) (List.replicate n 0) → Below w.heap.size w w' → wpList Try.prog ops Q rest (a.put o.dst (.slice (some ⟨w.heap.size, 0, none⟩) n n)) w') :
    wpList Try.prog ops Q (o :: rest) a w := by
  obtain ⟨i0, hi, hz0, hz1, hz2⟩ := info_parts info_int
  refine wpList_make_full w hgd l c 22 ho base 3 i0 (.int .i64 0) 1 Try.underlying22 hi hz0 hz1 .i64 .i64 L C n hl hc hL hC (by rw [hz2]; omega) (by unfold maxLen; omega) hbase ?_
  intro w' h1 h2
  refine h w' ?_ (below_of_grown_none h2)
  unfold Own
  have e : (madeCells (Value.int .i64 0).cells (n * 1)).toList = List.replicate n (.int .i64 0) := by
    rw [Nat.mul_one]; exact toList_madeCells_one _ _
  rw [e] at h1
  simpa using h1

/-- make([]int, n), as an operation of a region. -/
theorem oper_make_int {o : Oper} {a : Act} {Q : Exit → Act → World → Prop} {K : Act → World → Prop} {w : World} (l c : Operand)
    (ho : o.op = Op.makeSlice 22 l c) (base : Nat) (L C : Int) (n : Nat) (hl : a.eval l = .int .i64 L) (hc : a.eval c = .int .i64 C) (hL : L = (n : Int)) (hC : C = (n : Int)) (hn : n ≤ 1000000000) (hbase : base ≤ w.heap.size)
    (h : ∀ w', Own base w' (.slice (some ⟨w.heap.size, 0, none⟩) n n) (List.replicate n 0) → Below w.heap.size w w' → K (a.put o.dst (.slice (some ⟨w.heap.size, 0, none⟩) n n)) w') :
    o.wp Try.prog a w K Q := by
  obtain ⟨i0, hi, hz0, hz1, hz2⟩ := info_parts info_int
  obtain ⟨w', hrun, h1, h2⟩ := run_make_full (P := Try.prog) w base 22 3 i0 (.int .i64 0) 1 Try.underlying22 hi hz0 hz1 .i64 .i64 n (by rw [hz2]; omega) (by unfold maxLen; omega) hbase
  subst hL
  subst hC
  unfold Oper.wp
  simp [execOp, ho, hl, hc, hrun, Result.andThen]
  refine h w' ?_ (below_of_grown_none h2)
  unfold Own
  have e : (madeCells (Value.int .i64 0).cells (n * 1)).toList = List.replicate n (.int .i64 0) := by
    rw [Nat.mul_one]; exact toList_madeCells_one _ _
  rw [e] at h1
  simpa using h1

/-- A part of a row. -/
theorem Row.part {w : World} {k : IntKind} {b o n : Nat} {zs : List Int} (h : Row w k (some ⟨b, o, none⟩) n zs) (s m : Nat) (hm : s + m ≤ n) : Row w k (some ⟨b, o + s, none⟩) m ((zs.drop s).take m) := by
  refine ⟨by rw [List.length_take, List.length_drop]; have := h.1; omega, ?_⟩
  rcases Nat.eq_zero_or_pos m with hz | hz
  · exact .inl hz
  · refine .inr ⟨b, o + s, rfl, fun i hi => ?_⟩
    have := row_cell h (j := s + i) (by omega)
    rw [Nat.add_assoc, this]
    congr 2
    rw [List.getD_eq_getElem?_getD, List.getD_eq_getElem?_getD, List.getElem?_take_of_lt hi, List.getElem?_drop]

/-- A slice of integers as a callee sees it. -/
structure Slc (w : World) (a : Option Addr) (n c : Nat) (zs : List Int) : Prop where
  row : Row w .i64 a n zs
  nc : n ≤ c
  cap : c ≤ 9223372036854775807
theorem Slc.call {w w' : World} {a : Option Addr} {n c : Nat} {zs : List Int} (h : Slc w a n c zs) (hb : Below w.heap.size w w') : Slc w' a n c zs := ⟨h.row.below hb, h.nc, h.cap⟩
theorem Slc.alloc {w : World} {a : Option Addr} {n c : Nat} {zs : List Int} (h : Slc w a n c zs) (o : Obj) : Slc (w.alloc o) a n c zs := h.call (below_self _ _)
theorem Slc.drewN {w : World} {a : Option Addr} {n c : Nat} {zs : List Int} (h : Slc w a n c zs) (m : Nat) : Slc (w.drewN m) a n c zs := h.call (below_drewN (Below.refl _ _) _)
theorem Slc.len {w : World} {a : Option Addr} {n c : Nat} {zs : List Int} (h : Slc w a n c zs) : zs.length = n := h.row.len
theorem Slc.grown {w w' : World} {a : Option Addr} {n c g : Nat} {zs : List Int} (h : Slc w a n c zs) (hg : w.grownBy w' (some g)) (hf : Far a n g) : Slc w' a n c zs := ⟨h.row.grown hg hf, h.nc, h.cap⟩
/-- What was there before the block g was made lies elsewhere. -/
theorem Slc.far {w : World} {a : Option Addr} {n c g : Nat} {zs : List Int} (h : Slc w a n c zs) (hg : w.heap.size ≤ g) : Far a n g := by
  rcases Nat.eq_zero_or_pos n with hn | hn
  · exact .inl hn
  · obtain ⟨b, o, rfl⟩ := row_at h.row hn
    have := h.row.lt hn
    exact .inr ⟨_, rfl, by simp; omega⟩
theorem Slc.nil (w : World) : Slc w none 0 0 [] := ⟨⟨rfl, .inl rfl⟩, Nat.le_refl _, by omega⟩
theorem Own.slc {base : Nat} {w : World} {v : Value} {zs : List Int} (h : Own base w v zs) : ∃ a c, v = .slice a zs.length c ∧ Slc w a zs.length c zs := by
  have h' := h
  rcases h.2 with ⟨rfl, h0⟩ | ⟨g, c, cur, rfl, hb, hg, h1, h2, _⟩
  · have e := List.eq_nil_of_length_eq_zero h0
    subst e
    exact ⟨none, 0, rfl, Slc.nil w⟩
  · refine ⟨_, c, rfl, ?_, h1, by unfold maxLen at h2; omega⟩
    obtain ⟨a', c', e, hr⟩ := h'.row
    cases e
    exact hr
end Go.Proofs.Ytoojiabdgaflgaa
