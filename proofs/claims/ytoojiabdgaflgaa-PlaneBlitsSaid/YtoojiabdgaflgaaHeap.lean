/-
  What is said of memory: a row of integers that a slice shows; a block that is known whole; what stays as it was.
-/
import Derived.WalkKit
import Derived.Deep.Draws
import Derived.WalkSmall
namespace Go.Proofs.Ytoojiabdgaflgaa
open Go.RowKit

/-- A slice with the address a and n elements shows the integers zs. -/
def Row (w : World) (k : IntKind) (a : Option Addr) (n : Nat) (zs : List Int) : Prop :=
  n = zs.length ∧ (n = 0 ∨ ∃ b o, a = some ⟨b, o, none⟩ ∧ ∀ i, i < n → w.cell? ⟨b, o + i, none⟩ = some (.int k (zs.getD i 0)))

theorem lt_of_cell {w : World} {b o : Nat} {v : Value} (h : w.cell? ⟨b, o, none⟩ = some v) : b < w.heap.size := World.block_lt_of_cell? w ⟨b, o, none⟩ h

theorem Row.lt {w : World} {k : IntKind} {b o : Nat} {n : Nat} {zs : List Int} (h : Row w k (some ⟨b, o, none⟩) n zs) (hn : 0 < n) : b < w.heap.size := by
  rcases h.2 with h | ⟨b', o', e, h⟩
  · omega
  · cases e; exact lt_of_cell (h 0 hn)

/-- The row's block is not g. -/
def Far (a : Option Addr) (n : Nat) (g : Nat) : Prop := n = 0 ∨ ∃ x, a = some x ∧ x.block ≠ g

theorem Row.keep {w w' : World} {k : IntKind} {a : Option Addr} {n : Nat} {zs : List Int} (h : Row w k a n zs) (hk : ∀ b, b < w.heap.size → (∃ x, a = some x ∧ x.block = b) → 0 < n → w'.heap[b]? = w.heap[b]?) : Row w' k a n zs := by
  refine ⟨h.1, ?_⟩
  rcases h.2 with h0 | ⟨b, o, e, h1⟩
  · exact .inl h0
  · by_cases hn : 0 < n
    · refine .inr ⟨b, o, e, fun i hi => ?_⟩
      rw [← h1 i hi]
      exact World.cell?_of_block (hk b (lt_of_cell (h1 0 hn)) ⟨_, e, rfl⟩ hn)
    · exact .inl (by omega)

theorem Row.below {w w' : World} {k : IntKind} {a : Option Addr} {n : Nat} {zs : List Int} (h : Row w k a n zs) (hb : Below w.heap.size w w') : Row w' k a n zs :=
  h.keep fun b hlt _ _ => hb.block b hlt

theorem Row.grown {w w' : World} {k : IntKind} {a : Option Addr} {n g : Nat} {zs : List Int} (h : Row w k a n zs) (hb : w.grownBy w' (some g)) (hf : Far a n g) : Row w' k a n zs :=
  h.keep fun b hlt ⟨x, e, hx⟩ hn => hb.block b hlt (by
    rcases hf with h0 | ⟨y, e', hy⟩
    · omega
    · rw [e] at e'; cases e'; subst hx; simpa using hy)

theorem below_of_grown {w w' : World} {B g : Nat} (h : w.grownBy w' (some g)) (hB : B ≤ w.heap.size) (hg : B ≤ g) : Below B w w' :=
  ⟨h.os, h.tape, h.output, h.size, fun k hk => h.block k (by omega) (by intro e; cases e; omega)⟩

theorem grown_of_below {w w' : World} {r : Option Nat} (h : Below w.heap.size w w') : w.grownBy w' r := ⟨h.os, h.tape, h.output, h.size, fun k hk _ => h.block k hk⟩

theorem grown_trans {w w1 w2 : World} {r : Option Nat} (h : w.grownBy w1 r) (h' : w1.grownBy w2 r) : w.grownBy w2 r :=
  ⟨h'.os.trans h.os, h'.tape.trans h.tape, h'.output.trans h.output, Nat.le_trans h.size h'.size, fun k hk hr => (h'.block k (Nat.lt_of_lt_of_le hk h.size) hr).trans (h.block k hk hr)⟩

theorem grown_setCell (w : World) (b o : Nat) (u : Value) : w.grownBy (w.setCell ⟨b, o, none⟩ u) (some b) :=
  ⟨rfl, rfl, rfl, by simp [World.setCell], fun k _ hr => Below.heap_setCell _ _ _ _ (fun e => hr (by rw [e]))⟩

theorem grown_drewN (w : World) (n : Nat) (r : Option Nat) : w.grownBy (w.drewN n) r := ⟨rfl, rfl, rfl, Nat.le_refl _, fun _ _ _ => rfl⟩

/-- A block that is known whole: a cell of it, that it may be written, and what it is behind a store. -/
theorem cell_of {w : World} {b i : Nat} {cs : Array Value} {t : TypeId} {v : Value} (h : w.heap[b]? = some (.cells cs t (0, 0))) (hv : cs[i]? = some v) : w.cell? ⟨b, i, none⟩ = some v := by simp [World.cell?, h, hv]
theorem free_of {w : World} {b i : Nat} {cs : Array Value} {t : TypeId} (h : w.heap[b]? = some (.cells cs t (0, 0))) : w.frozen? ⟨b, i, none⟩ = false := by simp [World.frozen?, h]
theorem block_setCell {w : World} {b i : Nat} {cs : Array Value} {t : TypeId} (u : Value) (h : w.heap[b]? = some (.cells cs t (0, 0))) : (w.setCell ⟨b, i, none⟩ u).heap[b]? = some (.cells (cs.setIfInBounds i u) t (0, 0)) := by
  have hlt := lt_of_block h
  have h' : w.heap[b] = .cells cs t (0, 0) := by simpa [Array.getElem?_eq_getElem hlt] using h
  show (w.heap.modify b _)[b]? = _
  rw [Array.getElem?_eq_getElem (by simpa using hlt), Array.getElem_modify_self, h']
  rfl
theorem alloc_at {w : World} {B : Nat} (o : Obj) (h : w.heap.size = B) : (w.alloc o).heap[B]? = some o := by subst h; exact heap_alloc_new w o
theorem alloc_past {w : World} {b : Nat} {v : Obj} (o : Obj) (h : w.heap[b]? = some v) : (w.alloc o).heap[b]? = some v := by rw [heap_alloc_old w o (lt_of_block h)]; exact h
theorem alloc_size {w : World} {B : Nat} (o : Obj) (h : w.heap.size = B) : (w.alloc o).heap.size = B + 1 := by simp [h]
theorem below_self (w : World) (o : Obj) : Below w.heap.size w (w.alloc o) := (Below.refl _ _).alloc (Nat.le_refl _) _
/-- What a callee that only makes memory leaves of what lay below B. -/
theorem below_trans {B : Nat} {a b c : World} (h : Below B a b) (k : Below b.heap.size b c) (hB : B ≤ b.heap.size) : Below B a c := h.trans (k.mono hB)

/-- A block that is known whole stays so while nothing that was there is written. -/
theorem kept {w w' : World} {b : Nat} {o : Obj} (hb : Below w.heap.size w w') (h : w.heap[b]? = some o) : w'.heap[b]? = some o := by
  rw [hb.block b (lt_of_block h)]; exact h
theorem kept_grown {w w' : World} {b g : Nat} {o : Obj} (hb : w.grownBy w' (some g)) (h : w.heap[b]? = some o) (hne : b ≠ g) : w'.heap[b]? = some o := by
  rw [hb.block b (lt_of_block h) (by simpa using hne)]; exact h
theorem kept2 {w w' : World} {b : Nat} {x y : Value} {t : TypeId} (hb : Below w.heap.size w w') (h : w.heap[b]? = some (.cells #[x, y] t (0, 0))) :
    w'.heap[b]? = some (.cells #[x, y] t (0, 0)) ∧ w'.cell? ⟨b, 0, none⟩ = some x ∧ w'.cell? ⟨b, 1, none⟩ = some y :=
  ⟨kept hb h, cell_of (kept hb h) rfl, cell_of (kept hb h) rfl⟩
theorem kept3 {w w' : World} {b : Nat} {x y z : Value} {t : TypeId} (hb : Below w.heap.size w w') (h : w.heap[b]? = some (.cells #[x, y, z] t (0, 0))) :
    w'.heap[b]? = some (.cells #[x, y, z] t (0, 0)) ∧ w'.cell? ⟨b, 0, none⟩ = some x ∧ w'.cell? ⟨b, 1, none⟩ = some y ∧ w'.cell? ⟨b, 2, none⟩ = some z :=
  ⟨kept hb h, cell_of (kept hb h) rfl, cell_of (kept hb h) rfl, cell_of (kept hb h) rfl⟩
theorem kept4 {w w' : World} {b : Nat} {x y z u : Value} {t : TypeId} (hb : Below w.heap.size w w') (h : w.heap[b]? = some (.cells #[x, y, z, u] t (0, 0))) :
    w'.heap[b]? = some (.cells #[x, y, z, u] t (0, 0)) ∧ w'.cell? ⟨b, 0, none⟩ = some x ∧ w'.cell? ⟨b, 1, none⟩ = some y ∧ w'.cell? ⟨b, 2, none⟩ = some z ∧ w'.cell? ⟨b, 3, none⟩ = some u :=
  ⟨kept hb h, cell_of (kept hb h) rfl, cell_of (kept hb h) rfl, cell_of (kept hb h) rfl, cell_of (kept hb h) rfl⟩
/-- Since the heap had B blocks: of what lay there nothing has turned. -/
structure Since (B : Nat) (w w' : World) : Prop where
  below : Below B w w'
  size : B ≤ w'.heap.size
theorem Since.self {B : Nat} {w : World} (h : w.heap.size = B) : Since B w w := ⟨Below.refl _ _, by omega⟩
theorem Since.alloc {B : Nat} {a w : World} (h : Since B a w) (o : Obj) : Since B a (w.alloc o) := ⟨h.below.alloc h.size o, by have := h.size; simp; omega⟩
theorem Since.call {B : Nat} {a w w' : World} (h : Since B a w) (hb : Below w.heap.size w w') : Since B a w' := ⟨below_trans h.below hb h.size, Nat.le_trans h.size hb.size⟩
theorem Since.set {B : Nat} {a w : World} (h : Since B a w) {b o : Nat} (hb : B ≤ b) (u : Value) : Since B a (w.setCell ⟨b, o, none⟩ u) := ⟨h.below.setCell hb u, by have := h.size; simpa [World.setCell] using this⟩
theorem Since.drew {B : Nat} {a w : World} (h : Since B a w) : Since B a w.drew := ⟨h.below.drew, h.size⟩
theorem Since.drewN {B : Nat} {a w : World} (h : Since B a w) (n : Nat) : Since B a (w.drewN n) := ⟨below_drewN h.below n, h.size⟩
theorem Since.grown {B g : Nat} {a w w' : World} (h : Since B a w) (hg : w.grownBy w' (some g)) (hB : B ≤ g) : Since B a w' := ⟨h.below.trans (below_of_grown hg h.size hB), Nat.le_trans h.size hg.size⟩
theorem Since.all {B : Nat} {w w' : World} (h : Since B w w') (hB : w.heap.size = B) : Below w.heap.size w w' := by rw [hB]; exact h.below
theorem Since.trans {B B' : Nat} {a b c : World} (h : Since B a b) (h' : Since B' b c) (hB : B ≤ B') : Since B a c := ⟨h.below.trans (h'.below.mono hB), Nat.le_trans hB h'.size⟩

/-- Four stores into a block of four cells. -/
def set4 (w : World) (b : Nat) (x y z u : Value) : World := (((w.setCell ⟨b, 0, none⟩ x).setCell ⟨b, 1, none⟩ y).setCell ⟨b, 2, none⟩ z).setCell ⟨b, 3, none⟩ u
theorem set4_block {w : World} {b : Nat} {x y z u : Value} {x0 y0 z0 u0 : Value} {t : TypeId} (h : w.heap[b]? = some (.cells #[x0, y0, z0, u0] t (0, 0))) : (set4 w b x y z u).heap[b]? = some (.cells #[x, y, z, u] t (0, 0)) :=
  block_setCell u (block_setCell z (block_setCell y (block_setCell x h)))
theorem set4_cells {w : World} {b : Nat} {x y z u : Value} {x0 y0 z0 u0 : Value} {t : TypeId} (h : w.heap[b]? = some (.cells #[x0, y0, z0, u0] t (0, 0))) :
    (set4 w b x y z u).cell? ⟨b, 0, none⟩ = some x ∧ (set4 w b x y z u).cell? ⟨b, 1, none⟩ = some y ∧ (set4 w b x y z u).cell? ⟨b, 2, none⟩ = some z ∧ (set4 w b x y z u).cell? ⟨b, 3, none⟩ = some u :=
  ⟨cell_of (set4_block h) rfl, cell_of (set4_block h) rfl, cell_of (set4_block h) rfl, cell_of (set4_block h) rfl⟩
theorem Since.set4 {B : Nat} {a w : World} {b : Nat} {x y z u : Value} (h : Since B a w) (hb : B ≤ b) : Since B a (set4 w b x y z u) := (((h.set hb x).set hb y).set hb z).set hb u
theorem set4_other {w : World} {b c : Nat} {x y z u : Value} (h : c ≠ b) : (set4 w b x y z u).heap[c]? = w.heap[c]? := by
  unfold set4
  rw [Below.heap_setCell _ _ _ _ (by simpa using h), Below.heap_setCell _ _ _ _ (by simpa using h), Below.heap_setCell _ _ _ _ (by simpa using h), Below.heap_setCell _ _ _ _ (by simpa using h)]
theorem free4 {w : World} {b : Nat} {cs : Array Value} {t : TypeId} (h : w.heap[b]? = some (.cells cs t (0, 0))) : w.frozen? ⟨b, 0, none⟩ = false ∧ w.frozen? ⟨b, 1, none⟩ = false ∧ w.frozen? ⟨b, 2, none⟩ = false ∧ w.frozen? ⟨b, 3, none⟩ = false :=
  ⟨free_of h, free_of h, free_of h, free_of h⟩

theorem hid {p : Prop} (h : p) : Hid p := h
/-- What a region of loads and calls that only make memory carries: the box that is read, and what lay below. -/
def Box2 (B b : Nat) (x y : Value) (t : TypeId) (w0 w : World) : Prop :=
  w.heap[b]? = some (.cells #[x, y] t (0, 0)) ∧ w.cell? ⟨b, 0, none⟩ = some x ∧ w.cell? ⟨b, 1, none⟩ = some y ∧ Below B w0 w ∧ B ≤ w.heap.size
theorem Box2.mk' {B b : Nat} {x y : Value} {t : TypeId} {w0 w : World} (h : w.heap[b]? = some (.cells #[x, y] t (0, 0))) (hl : Below B w0 w) (hB : B ≤ w.heap.size) : Box2 B b x y t w0 w :=
  ⟨h, cell_of h rfl, cell_of h rfl, hl, hB⟩
theorem Box2.drew {B b : Nat} {x y : Value} {t : TypeId} {w0 w : World} (h : Box2 B b x y t w0 w) : w.drew.heap[b]? = some (.cells #[x, y] t (0, 0)) ∧ w.drew.cell? ⟨b, 0, none⟩ = some x ∧ w.drew.cell? ⟨b, 1, none⟩ = some y ∧ Below B w0 w.drew ∧ B ≤ w.drew.heap.size :=
  ⟨h.1, h.2.1, h.2.2.1, h.2.2.2.1.drew, h.2.2.2.2⟩
theorem Box2.keep {B b : Nat} {x y : Value} {t : TypeId} {w0 w w' : World} (hb : Below w.heap.size w w') (h : Box2 B b x y t w0 w) :
    w'.heap[b]? = some (.cells #[x, y] t (0, 0)) ∧ w'.cell? ⟨b, 0, none⟩ = some x ∧ w'.cell? ⟨b, 1, none⟩ = some y ∧ Below B w0 w' ∧ B ≤ w'.heap.size :=
  Box2.mk' (kept hb h.1) (below_trans h.2.2.2.1 hb h.2.2.2.2) (Nat.le_trans h.2.2.2.2 hb.size)
theorem three_ints {w : World} {b k : Nat} {x y z : Int} {t : TypeId} (h : w.heap[b]? = some (.cells #[.int .i64 x, .int .i64 y, .int .i64 z] t (0, 0))) (hk : k < 3) : ∃ p : Int, w.cell? ⟨b, k, none⟩ = some (.int .i64 p) := by
  obtain rfl | rfl | rfl : k = 0 ∨ k = 1 ∨ k = 2 := by omega
  · exact ⟨x, cell_of h rfl⟩
  · exact ⟨y, cell_of h rfl⟩
  · exact ⟨z, cell_of h rfl⟩
theorem two_ints {w : World} {b k : Nat} {x y : Int} {t : TypeId} (h : w.heap[b]? = some (.cells #[.int .i64 x, .int .i64 y] t (0, 0))) (hk : k < 2) : ∃ p : Int, w.cell? ⟨b, k, none⟩ = some (.int .i64 p) := by
  obtain rfl | rfl : k = 0 ∨ k = 1 := by omega
  · exact ⟨x, cell_of h rfl⟩
  · exact ⟨y, cell_of h rfl⟩
end Go.Proofs.Ytoojiabdgaflgaa
