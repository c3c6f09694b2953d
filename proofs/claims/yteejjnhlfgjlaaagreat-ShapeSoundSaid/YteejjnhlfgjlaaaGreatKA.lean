/-
 A fact that the walk keeps, in short words. Plain facts on numbers and endings, with no program in sight: what a remainder is, when two endings are one. What is said of memory: a row of integers that a slice shows; a block that is known whole; what stays as it was. Slices of integers that a call makes itself: what it appends, what it reads, what it hands back. The cells of rows. Slices that a call makes: make([]int, n), a store into one, a part of a row. Contracts of package border and of its reference: the integers that they return, for all integers. Contracts of the tape of choices: whatever numbers it is made of, Next answers a number in range, Pick one of the numbers given; both change the tape alone. The memory of a call as a list of parts that lie apart: boxes, rows of integers, tapes; and rows that are only read. Shorter words for printed walks. More short words for printed walks. The memory of a method of the tape: the tape lies below the call's own parts. More on the parts of memory: literals as rows of the call's own; what lay there before. make([]int, 0, n); append as an operation of a region. append of a row to a row that the call owns. A world behind a name: at each kind of goal of a walk. Plain facts on rectangles, with no program in sight. Plain law: sizes of planes and their pixels. Plain law: finite sums. Plain law: integral planes: how great a sum may be. Plain law: histograms. Plain law: tiles of integral planes.
-/
import Derived.Below
import Derived.WalkKit
import Derived.Deep.Draws
import Derived.WalkSmall
import Derived.Test.YteejjnhlfgjlaaaGreatProg
import Derived.Maps.AppendAt
import Derived.OwnWalk
import Derived.Laws.OwnMore
import Derived.WalkLawsBesides
import Derived.WalkSpells
import Derived.Deep.Light
import Derived.Deep.QuietTactic
import Derived.BigQuiet
import Derived.Deep.DeepCutAuto
import Derived.Deep.RegionHeld
import Derived.Deep.CutBlock
import Derived.Deep.DrawnRows
import Derived.Deep.RegionHeld3
namespace Go.Proofs.YteejjnhlfgjlaaaGreat
section
def Kq (p : Prop) : Prop := p
theorem Kq.o {p : Prop} (h : Kq p) : p := h
end

section
open Go.RowKit

theorem ret_i {k : IntKind} {a b : Int} (h : a = b) : Ending.returned (.int k a) = .returned (.int k b) := by rw [h]
theorem ret_b {a b : Bool} (h : a = b) : Ending.returned (.bool a) = .returned (.bool b) := by rw [h]
theorem ret_ib {k : IntKind} {a b : Int} {c d : Bool} (h : a = b) (h' : c = d) : Ending.returned (.tuple #[.int k a, .bool c]) = .returned (.tuple #[.int k b, .bool d]) := by rw [h, h']
theorem ret_ii {k l : IntKind} {a b c d : Int} (h : a = b) (h' : c = d) : Ending.returned (.tuple #[.int k a, .int l c]) = .returned (.tuple #[.int k b, .int l d]) := by rw [h, h']
theorem tmod_neg (v n : Int) (hn : 1 ≤ n) (h0 : v < 0) : -n < v.tmod n ∧ v.tmod n ≤ 0 ∧ v % n = (if v.tmod n < 0 then v.tmod n + n else v.tmod n) := by
 have h1 : v.tmod n = - ((-v) % n) := by
  rw [← Int.neg_neg v, Int.neg_tmod, Int.tmod_eq_emod_of_nonneg (by omega)]; simp
 have h2 := Int.emod_nonneg (-v) (b := n) (by omega); have h3 := Int.emod_lt_of_pos (-v) (b := n) (by omega); have h4 := Int.emod_nonneg v (b := n) (by omega); have h5 := Int.emod_lt_of_pos v (b := n) (by omega); have e1 := Int.mul_ediv_add_emod v n; have e2 := Int.mul_ediv_add_emod (-v) n; refine ⟨by omega, by omega, ?_⟩
 have key : v % n = v.tmod n ∨ v % n = v.tmod n + n := by
  have : n ∣ (v % n - v.tmod n) := by
   rw [h1]; refine ⟨-(v / n) - (-v) / n, ?_⟩; rw [Int.mul_sub, Int.mul_neg]; omega
  obtain ⟨c, hc⟩ := this
  have : c = 0 ∨ c = 1 := by
   rcases Int.lt_trichotomy c 0 with h | h | h
   ·
    have : n * c ≤ n * (-1) := Int.mul_le_mul_of_nonneg_left (by omega) (by omega)
    omega
   ·
    exact .inl h
   by_cases h' : c = 1
   ·
    exact .inr h'
   have : n * 2 ≤ n * c := Int.mul_le_mul_of_nonneg_left (by omega) (by omega)
   omega
  rcases this with rfl | rfl <;> omega
 split <;> omega

def bIdx (i n p : Int) : Int :=
 if n < 1 then 0 else if 128 < n then 0 else if p = 0 then min (max i 0) (n - 1) else if p = 1 then (if n ≤ i % (2 * n) then 2 * n - 1 - i % (2 * n) else i % (2 * n)) else if p = 2 then i % n else if p = 3 then (if 0 ≤ i then if i < n then i else 0 else 0) else 0
def bOk (i n p : Int) : Bool :=
 if n < 1 then false else if 128 < n then false else if p = 0 then true else if p = 1 then true else if p = 2 then true else if p = 3 then (if 0 ≤ i then if i < n then true else false else false) else false
def bValid (p f m : Int) : Bool := if 0 ≤ p ∧ p < 3 then decide (f = 0) else if p = 3 then decide (0 ≤ f ∧ f ≤ m) else false
end

section
open Go.RowKit

def Row (w : World) (k : IntKind) (a : Option Addr) (n : Nat) (zs : List Int) : Prop :=
 n = zs.length ∧ (n = 0 ∨ ∃ b o, a = some ⟨b, o, none⟩ ∧ ∀ i, i < n → w.cell? ⟨b, o + i, none⟩ = some (.int k (zs.getD i 0)))

theorem lt_of_cell {w : World} {b o : Nat} {v : Value} (h : w.cell? ⟨b, o, none⟩ = some v) : b < w.heap.size := World.block_lt_of_cell? w ⟨b, o, none⟩ h

theorem Row.lt {w : World} {k : IntKind} {b o : Nat} {n : Nat} {zs : List Int} (h : Row w k (some ⟨b, o, none⟩) n zs) (hn : 0 < n) : b < w.heap.size := by
 rcases h.2 with h | ⟨b', o', e, h⟩
 ·
  omega
 cases e; exact lt_of_cell (h 0 hn)

def Far (a : Option Addr) (n : Nat) (g : Nat) : Prop := n = 0 ∨ ∃ x, a = some x ∧ x.block ≠ g

theorem Row.keep {w w' : World} {k : IntKind} {a : Option Addr} {n : Nat} {zs : List Int} (h : Row w k a n zs) (hk : ∀ b, b < w.heap.size → (∃ x, a = some x ∧ x.block = b) → 0 < n → w'.heap[b]? = w.heap[b]?) : Row w' k a n zs := by
 refine ⟨h.1, ?_⟩
 rcases h.2 with h0 | ⟨b, o, e, h1⟩
 ·
  exact .inl h0
 by_cases hn : 0 < n
 ·
  refine .inr ⟨b, o, e, fun i hi => ?_⟩; rw [← h1 i hi]; exact World.cell?_of_block (hk b (lt_of_cell (h1 0 hn)) ⟨_, e, rfl⟩ hn)
 exact .inl (by omega)

theorem Row.below {w w' : World} {k : IntKind} {a : Option Addr} {n : Nat} {zs : List Int} (h : Row w k a n zs) (hb : Below w.heap.size w w') : Row w' k a n zs :=
 h.keep fun b hlt _ _ => hb.block b hlt

theorem Row.grown {w w' : World} {k : IntKind} {a : Option Addr} {n g : Nat} {zs : List Int} (h : Row w k a n zs) (hb : w.grownBy w' (some g)) (hf : Far a n g) : Row w' k a n zs :=
 h.keep fun b hlt ⟨x, e, hx⟩ hn => hb.block b hlt (by
  rcases hf with h0 | ⟨y, e', hy⟩
  ·
   omega
  rw [e] at e'; cases e'; subst hx; simpa using hy)

theorem below_of_grown {w w' : World} {B g : Nat} (h : w.grownBy w' (some g)) (hB : B ≤ w.heap.size) (hg : B ≤ g) : Below B w w' :=
 ⟨h.os, h.tape, h.output, h.size, fun k hk => h.block k (by omega) (by intro e; cases e; omega)⟩

theorem grown_of_below {w w' : World} {r : Option Nat} (h : Below w.heap.size w w') : w.grownBy w' r := ⟨h.os, h.tape, h.output, h.size, fun k hk _ => h.block k hk⟩

theorem grown_trans {w w1 w2 : World} {r : Option Nat} (h : w.grownBy w1 r) (h' : w1.grownBy w2 r) : w.grownBy w2 r :=
 ⟨h'.os.trans h.os, h'.tape.trans h.tape, h'.output.trans h.output, Nat.le_trans h.size h'.size, fun k hk hr => (h'.block k (Nat.lt_of_lt_of_le hk h.size) hr).trans (h.block k hk hr)⟩

theorem grown_setCell (w : World) (b o : Nat) (u : Value) : w.grownBy (w.setCell ⟨b, o, none⟩ u) (some b) :=
 ⟨rfl, rfl, rfl, by simp [World.setCell], fun k _ hr => Below.heap_setCell _ _ _ _ (fun e => hr (by rw [e]))⟩

theorem grown_drewN (w : World) (n : Nat) (r : Option Nat) : w.grownBy (w.drewN n) r := ⟨rfl, rfl, rfl, Nat.le_refl _, fun _ _ _ => rfl⟩

theorem cell_of {w : World} {b i : Nat} {cs : Array Value} {t : TypeId} {v : Value} (h : w.heap[b]? = some (.cells cs t (0, 0))) (hv : cs[i]? = some v) : w.cell? ⟨b, i, none⟩ = some v := by simp [World.cell?, h, hv]
theorem free_of {w : World} {b i : Nat} {cs : Array Value} {t : TypeId} (h : w.heap[b]? = some (.cells cs t (0, 0))) : w.frozen? ⟨b, i, none⟩ = false := by simp [World.frozen?, h]
theorem block_setCell {w : World} {b i : Nat} {cs : Array Value} {t : TypeId} (u : Value) (h : w.heap[b]? = some (.cells cs t (0, 0))) : (w.setCell ⟨b, i, none⟩ u).heap[b]? = some (.cells (cs.setIfInBounds i u) t (0, 0)) := by
 have hlt := lt_of_block h; have h' : w.heap[b] = .cells cs t (0, 0) := by simpa [Array.getElem?_eq_getElem hlt] using h
 show (w.heap.modify b _)[b]? = _
 rw [Array.getElem?_eq_getElem (by simpa using hlt), Array.getElem_modify_self, h']
 rfl
theorem alloc_at {w : World} {B : Nat} (o : Obj) (h : w.heap.size = B) : (w.alloc o).heap[B]? = some o := by subst h; exact heap_alloc_new w o
theorem alloc_past {w : World} {b : Nat} {v : Obj} (o : Obj) (h : w.heap[b]? = some v) : (w.alloc o).heap[b]? = some v := by rw [heap_alloc_old w o (lt_of_block h)]; exact h
theorem alloc_size {w : World} {B : Nat} (o : Obj) (h : w.heap.size = B) : (w.alloc o).heap.size = B + 1 := by simp [h]
theorem below_self (w : World) (o : Obj) : Below w.heap.size w (w.alloc o) := (Below.refl _ _).alloc (Nat.le_refl _) _
theorem below_trans {B : Nat} {a b c : World} (h : Below B a b) (k : Below b.heap.size b c) (hB : B ≤ b.heap.size) : Below B a c := h.trans (k.mono hB)

theorem kept {w w' : World} {b : Nat} {o : Obj} (hb : Below w.heap.size w w') (h : w.heap[b]? = some o) : w'.heap[b]? = some o := by
 rw [hb.block b (lt_of_block h)]; exact h
theorem kept_grown {w w' : World} {b g : Nat} {o : Obj} (hb : w.grownBy w' (some g)) (h : w.heap[b]? = some o) (hne : b ≠ g) : w'.heap[b]? = some o := by
 rw [hb.block b (lt_of_block h) (by simpa using hne)]; exact h
theorem kept4 {w w' : World} {b : Nat} {x y z u : Value} {t : TypeId} (hb : Below w.heap.size w w') (h : w.heap[b]? = some (.cells #[x, y, z, u] t (0, 0))) :
  w'.heap[b]? = some (.cells #[x, y, z, u] t (0, 0)) ∧ w'.cell? ⟨b, 0, none⟩ = some x ∧ w'.cell? ⟨b, 1, none⟩ = some y ∧ w'.cell? ⟨b, 2, none⟩ = some z ∧ w'.cell? ⟨b, 3, none⟩ = some u :=
 ⟨kept hb h, cell_of (kept hb h) rfl, cell_of (kept hb h) rfl, cell_of (kept hb h) rfl, cell_of (kept hb h) rfl⟩
structure Since (B : Nat) (w w' : World) : Prop where
 below : Below B w w'
 size : B ≤ w'.heap.size
theorem Since.self {B : Nat} {w : World} (h : w.heap.size = B) : Since B w w := ⟨Below.refl _ _, by omega⟩
theorem Since.alloc {B : Nat} {a w : World} (h : Since B a w) (o : Obj) : Since B a (w.alloc o) := ⟨h.below.alloc h.size o, by have := h.size; simp; omega⟩
theorem Since.call {B : Nat} {a w w' : World} (h : Since B a w) (hb : Below w.heap.size w w') : Since B a w' := ⟨below_trans h.below hb h.size, Nat.le_trans h.size hb.size⟩
theorem Since.set {B : Nat} {a w : World} (h : Since B a w) {b o : Nat} (hb : B ≤ b) (u : Value) : Since B a (w.setCell ⟨b, o, none⟩ u) := ⟨h.below.setCell hb u, by have := h.size; simpa [World.setCell] using this⟩
theorem Since.drew {B : Nat} {a w : World} (h : Since B a w) : Since B a w.drew := ⟨h.below.drew, h.size⟩
theorem Since.drewN {B : Nat} {a w : World} (h : Since B a w) (n : Nat) : Since B a (w.drewN n) := ⟨below_drewN h.below n, h.size⟩
theorem Since.grown {B g : Nat} {a w w' : World} (h : Since B a w) (hg : w.grownBy w' (some g)) (hB : B ≤ g) : Since B a w' := ⟨h.below.trans (below_of_grown hg h.size hB), Nat.le_trans h.size hg.size⟩
theorem Since.all {B : Nat} {w w' : World} (h : Since B w w') (hB : w.heap.size = B) : Below w.heap.size w w' := by rw [hB]; exact h.below
theorem Since.trans {B B' : Nat} {a b c : World} (h : Since B a b) (h' : Since B' b c) (hB : B ≤ B') : Since B a c := ⟨h.below.trans (h'.below.mono hB), Nat.le_trans hB h'.size⟩

def set4 (w : World) (b : Nat) (x y z u : Value) : World := (((w.setCell ⟨b, 0, none⟩ x).setCell ⟨b, 1, none⟩ y).setCell ⟨b, 2, none⟩ z).setCell ⟨b, 3, none⟩ u
theorem set4_block {w : World} {b : Nat} {x y z u : Value} {x0 y0 z0 u0 : Value} {t : TypeId} (h : w.heap[b]? = some (.cells #[x0, y0, z0, u0] t (0, 0))) : (set4 w b x y z u).heap[b]? = some (.cells #[x, y, z, u] t (0, 0)) :=
 block_setCell u (block_setCell z (block_setCell y (block_setCell x h)))
theorem set4_cells {w : World} {b : Nat} {x y z u : Value} {x0 y0 z0 u0 : Value} {t : TypeId} (h : w.heap[b]? = some (.cells #[x0, y0, z0, u0] t (0, 0))) :
  (set4 w b x y z u).cell? ⟨b, 0, none⟩ = some x ∧ (set4 w b x y z u).cell? ⟨b, 1, none⟩ = some y ∧ (set4 w b x y z u).cell? ⟨b, 2, none⟩ = some z ∧ (set4 w b x y z u).cell? ⟨b, 3, none⟩ = some u :=
 ⟨cell_of (set4_block h) rfl, cell_of (set4_block h) rfl, cell_of (set4_block h) rfl, cell_of (set4_block h) rfl⟩
theorem Since.set4 {B : Nat} {a w : World} {b : Nat} {x y z u : Value} (h : Since B a w) (hb : B ≤ b) : Since B a (set4 w b x y z u) := (((h.set hb x).set hb y).set hb z).set hb u
theorem set4_other {w : World} {b c : Nat} {x y z u : Value} (h : c ≠ b) : (set4 w b x y z u).heap[c]? = w.heap[c]? := by
 unfold set4
 rw [Below.heap_setCell _ _ _ _ (by simpa using h), Below.heap_setCell _ _ _ _ (by simpa using h), Below.heap_setCell _ _ _ _ (by simpa using h), Below.heap_setCell _ _ _ _ (by simpa using h)]
theorem kq {p : Prop} (h : p) : Kq p := h
def Box2 (B b : Nat) (x y : Value) (t : TypeId) (w0 w : World) : Prop :=
 w.heap[b]? = some (.cells #[x, y] t (0, 0)) ∧ w.cell? ⟨b, 0, none⟩ = some x ∧ w.cell? ⟨b, 1, none⟩ = some y ∧ Below B w0 w ∧ B ≤ w.heap.size
theorem Box2.mk' {B b : Nat} {x y : Value} {t : TypeId} {w0 w : World} (h : w.heap[b]? = some (.cells #[x, y] t (0, 0))) (hl : Below B w0 w) (hB : B ≤ w.heap.size) : Box2 B b x y t w0 w :=
 ⟨h, cell_of h rfl, cell_of h rfl, hl, hB⟩
theorem Box2.drew {B b : Nat} {x y : Value} {t : TypeId} {w0 w : World} (h : Box2 B b x y t w0 w) : w.drew.heap[b]? = some (.cells #[x, y] t (0, 0)) ∧ w.drew.cell? ⟨b, 0, none⟩ = some x ∧ w.drew.cell? ⟨b, 1, none⟩ = some y ∧ Below B w0 w.drew ∧ B ≤ w.drew.heap.size :=
 ⟨h.1, h.2.1, h.2.2.1, h.2.2.2.1.drew, h.2.2.2.2⟩
theorem Box2.keep {B b : Nat} {x y : Value} {t : TypeId} {w0 w w' : World} (hb : Below w.heap.size w w') (h : Box2 B b x y t w0 w) :
  w'.heap[b]? = some (.cells #[x, y] t (0, 0)) ∧ w'.cell? ⟨b, 0, none⟩ = some x ∧ w'.cell? ⟨b, 1, none⟩ = some y ∧ Below B w0 w' ∧ B ≤ w'.heap.size :=
 Box2.mk' (kept hb h.1) (below_trans h.2.2.2.1 hb h.2.2.2.2) (Nat.le_trans h.2.2.2.2 hb.size)
end

section
open Go.RowKit

theorem info_int : (Tryz.prog.info? 3).map (fun i => (i.zero, i.size, i.bytes)) = some (some (.int .i64 0), 1, 8) := by kernel_rfl

def Own (base : Nat) (w : World) (v : Value) (zs : List Int) : Prop := w.ownsRow base 3 1 v zs.length (zs.map (Value.int .i64))

theorem Own.nil (base : Nat) (w : World) : Own base w (.slice none 0 0) [] := World.ownsRow_nil w base _ _
theorem Own.kept {base : Nat} {w w' : World} {v : Value} {zs : List Int} (h : Own base w v zs) (hb : Below w.heap.size w w') : Own base w' v zs :=
 World.ownsRow.kept h (grown_of_below (r := none) hb) (by cases v.ownBlock <;> simp)
theorem Own.alloc {base : Nat} {w : World} {v : Value} {zs : List Int} (h : Own base w v zs) (o : Obj) : Own base (w.alloc o) v zs := World.ownsRow.alloc h o
theorem Own.keptBy {base g : Nat} {w w' : World} {v : Value} {zs : List Int} (h : Own base w v zs) (hg : w.grownBy w' (some g)) (hne : v.ownBlock ≠ some g) : Own base w' v zs :=
 World.ownsRow.kept h hg (.inr hne)

theorem Own.form {base : Nat} {w : World} {v : Value} {zs : List Int} (h : Own base w v zs) :
  (v = .slice none 0 0 ∧ zs = []) ∨ ∃ g c, v = .slice (some ⟨g, 0, none⟩) zs.length c ∧ base ≤ g ∧ g < w.heap.size ∧ ∀ i, i < zs.length → w.cell? ⟨g, i, none⟩ = some (.int .i64 (zs.getD i 0)) ∧ w.frozen? ⟨g, i, none⟩ = false := by
 have h' := h
 rcases h.2 with ⟨rfl, h0⟩ | ⟨g, c, cur, rfl, hb, hg, _⟩
 ·
  exact .inl ⟨rfl, List.eq_nil_of_length_eq_zero h0⟩
 refine .inr ⟨g, c, rfl, hb, lt_of_block hg, fun i hi => ⟨?_, World.ownsRow.frozenAt h' i⟩⟩; rw [World.ownsRow.cellAt h' i (by omega)]; simp [hi]

theorem Own.row {base : Nat} {w : World} {v : Value} {zs : List Int} (h : Own base w v zs) : ∃ a c, v = .slice a zs.length c ∧ Row w .i64 a zs.length zs := by
 rcases h.form with ⟨rfl, rfl⟩ | ⟨g, c, rfl, _, _, hc⟩
 ·
  exact ⟨none, 0, rfl, rfl, .inl rfl⟩
 exact ⟨_, c, rfl, rfl, .inr ⟨g, 0, rfl, fun i hi => by rw [Nat.zero_add]; exact (hc i hi).1⟩⟩

theorem Own.stored {base : Nat} {w : World} {g c : Nat} {zs : List Int} (h : Own base w (.slice (some ⟨g, 0, none⟩) zs.length c) zs) (j : Nat) (z : Int) :
  Own base (w.setCell ⟨g, j, none⟩ (.int .i64 z)) (.slice (some ⟨g, 0, none⟩) (zs.set j z).length c) (zs.set j z) ∧ w.grownBy (w.setCell ⟨g, j, none⟩ (.int .i64 z)) (some g) := by
 have := World.ownsRow.stored h j (.int .i64 z); refine ⟨?_, this.2⟩
 unfold Own
 rw [List.map_set, List.length_set]; exact this.1

theorem Own.base {base base' : Nat} {w : World} {v : Value} {zs : List Int} (h : Own base w v zs) (hb : base' ≤ base) : Own base' w v zs := by
 refine ⟨h.1, ?_⟩
 rcases h.2 with h' | ⟨g, cap, cur, e, h1, h2⟩
 ·
  exact .inl h'
 exact .inr ⟨g, cap, cur, e, by omega, h2⟩

theorem append_int {ops : Array Oper} {rest : List Oper} {o : Oper} {a : Act} {Q : Exit → Act → World → Prop} {w : World} (hgd : o.guard = none) (s x : Operand)
  (ho : o.op = .call { callee := .builtin .append, args := #[s, x], argTypes := #[22, 22] })
  (base : Nat) (v : Value) (zs : List Int) (z : Int) (b c : Nat) (hs : a.eval s = v) (hx : a.eval x = .slice (some ⟨b, 0, none⟩) 1 c) (hown : Own base w v zs)
  (hc : w.cell? ⟨b, 0, none⟩ = some (.int .i64 z)) (hlen : zs.length ≤ 1000000000000) (hbase : base ≤ w.heap.size)
  (h : ∀ v' w', Own base w' v' (zs ++ [z]) → w.grownBy w' v.ownBlock → (v'.ownBlock = v.ownBlock ∨ v'.ownBlock = some w.heap.size) → wpList Tryz.prog ops Q rest (a.put o.dst v') w') :
  wpList Tryz.prog ops Q (o :: rest) a w := by
 obtain ⟨i0, hi, hz0, hz1, hz2⟩ := info_parts info_int; refine wpList_append_own_at w hgd s x 22 ho base 3 i0 (.int .i64 0) 1 8 Tryz.underlying22 hi hz0 hz1 hz2 rfl (by decide) v zs.length (zs.map (Value.int .i64)) hs hown ⟨b, 0, none⟩ 1 c [.int .i64 z] hx rfl ?_ ?_ ?_ ?_ hbase ?_
 ·
  intro j u hj
  match j, hj with
  | 0, hj => simp at hj; subst hj; simpa [Addr.add] using hc
 ·
  intro u hu; simp at hu; subst hu; rfl
 ·
  unfold maxLen; omega
 ·
  omega
 intro v' w' h1 h2 _ h4; refine h v' w' ?_ h2 h4
 unfold Own
 simpa using h1
end

section
open Go.RowKit

theorem cell_keep {w w' : World} {b o : Nat} {v : Value} (hb : Below w.heap.size w w') (h : w.cell? ⟨b, o, none⟩ = some v) : w'.cell? ⟨b, o, none⟩ = some v := by
 have hl := lt_of_cell h; have e := hb.block b hl; simp only [World.cell?] at h ⊢; rw [e]; exact h

theorem row_at {w : World} {k : IntKind} {a : Option Addr} {n : Nat} {zs : List Int} (h : Row w k a n zs) (hn : 0 < n) : ∃ b o, a = some ⟨b, o, none⟩ := by
 rcases h.2 with hz | ⟨b, o, e, _⟩
 ·
  omega
 exact ⟨b, o, e⟩
theorem row_cell {w : World} {k : IntKind} {b o n : Nat} {zs : List Int} (h : Row w k (some ⟨b, o, none⟩) n zs) {j : Nat} (hj : j < n) : w.cell? ⟨b, o + j, none⟩ = some (.int k (zs.getD j 0)) := by
 rcases h.2 with hz | ⟨b', o', e, h⟩
 ·
  omega
 cases e; exact h _ hj
theorem Row.len {w : World} {k : IntKind} {a : Option Addr} {n : Nat} {zs : List Int} (h : Row w k a n zs) : zs.length = n := h.1.symm
theorem Row.drewN {w : World} {k : IntKind} {a : Option Addr} {n : Nat} {zs : List Int} (h : Row w k a n zs) (m : Nat) : Row (w.drewN m) k a n zs := h.below (below_drewN (Below.refl _ _) _)
theorem Row.alloc {w : World} {k : IntKind} {a : Option Addr} {n : Nat} {zs : List Int} (h : Row w k a n zs) (o : Obj) : Row (w.alloc o) k a n zs := h.below (below_self _ _)
end

section
open Go.RowKit

theorem below_of_grown_none {w w' : World} (hg : w.grownBy w' none) : Below w.heap.size w w' := ⟨hg.os, hg.tape, hg.output, hg.size, fun k hk => hg.block k hk (by simp)⟩

theorem make_int {ops : Array Oper} {rest : List Oper} {o : Oper} {a : Act} {Q : Exit → Act → World → Prop} {w : World} (hgd : o.guard = none) (l c : Operand)
  (ho : o.op = Op.makeSlice 22 l c) (base : Nat) (L C : Int) (n : Nat) (hl : a.eval l = .int .i64 L) (hc : a.eval c = .int .i64 C) (hL : L = (n : Int)) (hC : C = (n : Int)) (hn : n ≤ 1000000000) (hbase : base ≤ w.heap.size)
  (h : ∀ w', Own base w' (.slice (some ⟨w.heap.size, 0, none⟩) n n) (List.replicate n 0) → Below w.heap.size w w' → wpList Tryz.prog ops Q rest (a.put o.dst (.slice (some ⟨w.heap.size, 0, none⟩) n n)) w') :
  wpList Tryz.prog ops Q (o :: rest) a w := by
 obtain ⟨i0, hi, hz0, hz1, hz2⟩ := info_parts info_int; refine wpList_make_full w hgd l c 22 ho base 3 i0 (.int .i64 0) 1 Tryz.underlying22 hi hz0 hz1 .i64 .i64 L C n hl hc hL hC (by rw [hz2]; omega) (by unfold maxLen; omega) hbase ?_; intro w' h1 h2; refine h w' ?_ (below_of_grown_none h2)
 unfold Own
 have e : (madeCells (Value.int .i64 0).cells (n * 1)).toList = List.replicate n (.int .i64 0) := by
  rw [Nat.mul_one]; exact toList_madeCells_one _ _
 rw [e] at h1; simpa using h1

theorem oper_make_int {o : Oper} {a : Act} {Q : Exit → Act → World → Prop} {K : Act → World → Prop} {w : World} (l c : Operand)
  (ho : o.op = Op.makeSlice 22 l c) (base : Nat) (L C : Int) (n : Nat) (hl : a.eval l = .int .i64 L) (hc : a.eval c = .int .i64 C) (hL : L = (n : Int)) (hC : C = (n : Int)) (hn : n ≤ 1000000000) (hbase : base ≤ w.heap.size)
  (h : ∀ w', Own base w' (.slice (some ⟨w.heap.size, 0, none⟩) n n) (List.replicate n 0) → Below w.heap.size w w' → K (a.put o.dst (.slice (some ⟨w.heap.size, 0, none⟩) n n)) w') :
  o.wp Tryz.prog a w K Q := by
 obtain ⟨i0, hi, hz0, hz1, hz2⟩ := info_parts info_int; obtain ⟨w', hrun, h1, h2⟩ := run_make_full (P := Tryz.prog) w base 22 3 i0 (.int .i64 0) 1 Tryz.underlying22 hi hz0 hz1 .i64 .i64 n (by rw [hz2]; omega) (by unfold maxLen; omega) hbase; subst hL; subst hC
 unfold Oper.wp
 simp [execOp, ho, hl, hc, hrun, Result.andThen]
 refine h w' ?_ (below_of_grown_none h2)
 unfold Own
 have e : (madeCells (Value.int .i64 0).cells (n * 1)).toList = List.replicate n (.int .i64 0) := by
  rw [Nat.mul_one]; exact toList_madeCells_one _ _
 rw [e] at h1; simpa using h1

theorem Row.part {w : World} {k : IntKind} {b o n : Nat} {zs : List Int} (h : Row w k (some ⟨b, o, none⟩) n zs) (s m : Nat) (hm : s + m ≤ n) : Row w k (some ⟨b, o + s, none⟩) m ((zs.drop s).take m) := by
 refine ⟨by rw [List.length_take, List.length_drop]; have := h.1; omega, ?_⟩
 rcases Nat.eq_zero_or_pos m with hz | hz
 ·
  exact .inl hz
 refine .inr ⟨b, o + s, rfl, fun i hi => ?_⟩; have := row_cell h (j := s + i) (by omega); rw [Nat.add_assoc, this]
 congr 2
 rw [List.getD_eq_getElem?_getD, List.getD_eq_getElem?_getD, List.getElem?_take_of_lt hi, List.getElem?_drop]

structure Slc (w : World) (a : Option Addr) (n c : Nat) (zs : List Int) : Prop where
 row : Row w .i64 a n zs
 nc : n ≤ c
 cap : c ≤ 9223372036854775807
theorem Slc.call {w w' : World} {a : Option Addr} {n c : Nat} {zs : List Int} (h : Slc w a n c zs) (hb : Below w.heap.size w w') : Slc w' a n c zs := ⟨h.row.below hb, h.nc, h.cap⟩
theorem Slc.alloc {w : World} {a : Option Addr} {n c : Nat} {zs : List Int} (h : Slc w a n c zs) (o : Obj) : Slc (w.alloc o) a n c zs := h.call (below_self _ _)
theorem Slc.drewN {w : World} {a : Option Addr} {n c : Nat} {zs : List Int} (h : Slc w a n c zs) (m : Nat) : Slc (w.drewN m) a n c zs := h.call (below_drewN (Below.refl _ _) _)
theorem Slc.len {w : World} {a : Option Addr} {n c : Nat} {zs : List Int} (h : Slc w a n c zs) : zs.length = n := h.row.len
theorem Slc.grown {w w' : World} {a : Option Addr} {n c g : Nat} {zs : List Int} (h : Slc w a n c zs) (hg : w.grownBy w' (some g)) (hf : Far a n g) : Slc w' a n c zs := ⟨h.row.grown hg hf, h.nc, h.cap⟩
theorem Slc.far {w : World} {a : Option Addr} {n c g : Nat} {zs : List Int} (h : Slc w a n c zs) (hg : w.heap.size ≤ g) : Far a n g := by
 rcases Nat.eq_zero_or_pos n with hn | hn
 ·
  exact .inl hn
 obtain ⟨b, o, rfl⟩ := row_at h.row hn; have := h.row.lt hn; exact .inr ⟨_, rfl, by simp; omega⟩
theorem Slc.nil (w : World) : Slc w none 0 0 [] := ⟨⟨rfl, .inl rfl⟩, Nat.le_refl _, by omega⟩
theorem Own.slc {base : Nat} {w : World} {v : Value} {zs : List Int} (h : Own base w v zs) : ∃ a c, v = .slice a zs.length c ∧ Slc w a zs.length c zs := by
 have h' := h
 rcases h.2 with ⟨rfl, h0⟩ | ⟨g, c, cur, rfl, hb, hg, h1, h2, _⟩
 ·
  have e := List.eq_nil_of_length_eq_zero h0; subst e; exact ⟨none, 0, rfl, Slc.nil w⟩
 refine ⟨_, c, rfl, ?_, h1, by unfold maxLen at h2; omega⟩; obtain ⟨a', c', e, hr⟩ := h'.row; cases e
 exact hr
end

section
open Go.RowKit

theorem mod_any (v n : Int) (w : World) (hn : 1 ≤ n) (hn2 : n ≤ 9223372036854775807) :
  Calls Tryz.prog 21 #[.int .i64 v, .int .i64 n] w fun e w' => e = .returned (.int .i64 (v % n)) ∧ w = w' := by
 by_cases h0 : 0 ≤ v
 ·
  have h1 : 0 ≤ v % n := Int.emod_nonneg _ (by omega)
  go_enter Tryz.func21, Tryz.ntmps21
  go_wp2
  go_ret
  exact ⟨rfl, rfl⟩
 obtain ⟨h1, h2, h3⟩ := tmod_neg v n hn (by omega); by_cases h4 : v.tmod n < 0
 ·
  rw [if_pos h4] at h3; have h5 : v.tmod n + n ≤ 9223372036854775807 := by omega
  have HH : Kq (v % n = v.tmod n + n) := h3; clear h3
  go_enter Tryz.func21, Tryz.ntmps21
  go_wp2
  go_ret
  exact ⟨ret_i HH.o.symm, rfl⟩
 rw [if_neg h4] at h3; have HH : Kq (v % n = v.tmod n) := h3; clear h3
 go_enter Tryz.func21, Tryz.ntmps21
 go_wp2
 go_ret
 exact ⟨ret_i HH.o.symm, rfl⟩

theorem rmod_any (v n : Int) (w : World) (hn : 1 ≤ n) (hn2 : n ≤ 9223372036854775807) :
  Calls Tryz.prog 113 #[.int .i64 v, .int .i64 n] w fun e w' => e = .returned (.int .i64 (v % n)) ∧ w = w' := by
 by_cases h0 : 0 ≤ v
 ·
  have h1 : 0 ≤ v % n := Int.emod_nonneg _ (by omega)
  go_enter Tryz.func113, Tryz.ntmps113
  go_wp2
  go_ret
  exact ⟨rfl, rfl⟩
 obtain ⟨h1, h2, h3⟩ := tmod_neg v n hn (by omega); by_cases h4 : v.tmod n < 0
 ·
  rw [if_pos h4] at h3; have h5 : v.tmod n + n ≤ 9223372036854775807 := by omega
  have HH : Kq (v % n = v.tmod n + n) := h3; clear h3
  go_enter Tryz.func113, Tryz.ntmps113
  go_wp2
  go_ret
  exact ⟨ret_i HH.o.symm, rfl⟩
 rw [if_neg h4] at h3; have HH : Kq (v % n = v.tmod n) := h3; clear h3
 go_enter Tryz.func113, Tryz.ntmps113
 go_wp2
 go_ret
 exact ⟨ret_i HH.o.symm, rfl⟩

set_option maxHeartbeats 400000 in
theorem rindex_any (i n p : Int) (w : World) :
  Calls Tryz.prog 100 #[.int .i64 i, .int .i64 n, .int .i64 p] w fun e w' => e = .returned (.tuple #[.int .i64 (bIdx i n p), .bool (bOk i n p)]) ∧ w = w' := by
 by_cases h0 : n < 1
 ·
  go_enter Tryz.func100, Tryz.ntmps100
  go_wp2
  go_ret2
  exact ⟨ret_ib (by simp [bIdx, h0]) (by simp [bOk, h0]), rfl⟩
 by_cases h1 : 128 < n
 ·
  go_enter Tryz.func100, Tryz.ntmps100
  go_wp2
  go_ret2
  exact ⟨ret_ib (by simp [bIdx, h1]) (by simp [bOk, h1]), rfl⟩
 obtain ⟨m3, m4⟩ : 0 ≤ i % (2 * n) ∧ i % (2 * n) < 2 * n := ⟨Int.emod_nonneg _ (by omega), Int.emod_lt_of_pos _ (by omega)⟩
 go_enter Tryz.func100, Tryz.ntmps100
 go_wp2_with (first | (go_at_call 113; refine (rmod_any _ _ _ (by omega) (by omega)).mono ?_; rintro e w' ⟨rfl, rfl⟩))
 all_goals go_ret2
 all_goals refine ⟨ret_ib ?_ ?_, rfl⟩
 all_goals simp only [beq_iff_eq, beq_eq_false_iff_ne, ne_eq] at *
 all_goals (first | unfold bIdx | unfold bOk)
 all_goals go_light
 all_goals (repeat' split)
 all_goals (first | rfl | omega)
end

section
open Go.RowKit

def Near (a : Option Addr) (n : Nat) (g : Nat) : Prop := n = 0 ∨ ∃ x, a = some x ∧ x.block < g
theorem Near.far {a : Option Addr} {n g g' : Nat} (h : Near a n g) (hg : g ≤ g') : Far a n g' := by
 rcases h with h | ⟨x, e, h⟩
 ·
  exact .inl h
 exact .inr ⟨x, e, by omega⟩

def TapeB (B : Nat) (w : World) (k : Nat) : Prop :=
 B ≤ k ∧ ∃ (a : Option Addr) (n c : Nat) (zs : List Int) (t : Nat), w.heap[k]? = some (.cells #[.slice a n c, .int .i64 t] 51 (0, 0)) ∧ t ≤ n ∧ n ≤ 9223372036854775807 ∧ Row w .i64 a n zs ∧ Near a n B
def TapeAt (w : World) (k : Nat) : Prop := TapeB k w k
theorem Near.up {a : Option Addr} {n B k : Nat} (h : Near a n B) (hk : B ≤ k) : Near a n k := by
 rcases h with h | ⟨x, e, h⟩
 ·
  exact .inl h
 exact .inr ⟨x, e, by omega⟩
theorem TapeB.at {B k : Nat} {w : World} (h : TapeB B w k) : TapeAt w k := by
 obtain ⟨h0, a, n, c, zs, t, h1, h2, h3, h4, h5⟩ := h; exact ⟨Nat.le_refl _, a, n, c, zs, t, h1, h2, h3, h4, h5.up h0⟩
theorem TapeB.lt {B k : Nat} {w : World} (h : TapeB B w k) : k < w.heap.size := by obtain ⟨_, a, n, c, zs, t, h, _⟩ := h; exact lt_of_block h
theorem TapeAt.lt {w : World} {k : Nat} (h : TapeAt w k) : k < w.heap.size := TapeB.lt h

theorem TapeAt.below {w w' : World} {k : Nat} (h : TapeAt w k) (hb : Below w.heap.size w w') : TapeAt w' k := by
 have hl := h.lt; obtain ⟨h0, a, n, c, zs, t, h1, h2, h3, h4, h5⟩ := h; exact ⟨h0, a, n, c, zs, t, by rw [hb.block k hl]; exact h1, h2, h3, h4.below hb, h5⟩

theorem row_lit {w : World} {b : Nat} {t : TypeId} (zs : List Int) (h : w.heap[b]? = some (.cells (zs.map (Value.int .i64)).toArray t (0, 0))) : Row w .i64 (some ⟨b, 0, none⟩) zs.length zs := by
 refine ⟨rfl, .inr ⟨b, 0, rfl, fun i hi => ?_⟩⟩; rw [Nat.zero_add]; refine cell_of h ?_; simp [hi]

theorem TapeAt.grown {w w' : World} {k g : Nat} (h : TapeAt w k) (hb : w.grownBy w' (some g)) (hk : k < g) : TapeAt w' k := by
 have hl := h.lt; obtain ⟨h0, a, n, c, zs, t, h1, h2, h3, h4, h5⟩ := h; exact ⟨h0, a, n, c, zs, t, by rw [hb.block k hl (by simp; omega)]; exact h1, h2, h3, h4.grown hb (h5.far (by omega)), h5⟩

theorem TapeB.below {B : Nat} {w w' : World} {k : Nat} (h : TapeB B w k) (hb : Below w.heap.size w w') : TapeB B w' k := by
 have hl := h.lt; obtain ⟨h0, a, n, c, zs, t, h1, h2, h3, h4, h5⟩ := h; exact ⟨h0, a, n, c, zs, t, by rw [hb.block k hl]; exact h1, h2, h3, h4.below hb, h5⟩

def NextPostB (B k : Nat) (n : Int) (w : World) (e : Ending) (w' : World) : Prop :=
 ∃ r : Int, e = .returned (.int .i64 r) ∧ 0 ≤ r ∧ r < max n 1 ∧ TapeB B w' k ∧ w.grownBy w' (some k) ∧ w'.heap.size = w.heap.size

set_option maxHeartbeats 400000 in
theorem nextB_any (B k : Nat) (n : Int) (w : World) (hn : n ≤ 9223372036854775807) (ht : TapeB B w k) :
  Calls Tryz.prog 9 #[.pointer (some ⟨k, 0, none⟩), .int .i64 n] w (NextPostB B k n w) := by
 have HT : Kq (TapeB B w k) := ht; obtain ⟨hBk, a, m, c, zs, t, hblk, htm, hm, hrow, hfar⟩ := ht; have c0 : w.cell? ⟨k, 0, none⟩ = some (.slice a m c) := cell_of hblk rfl; have c1 : w.cell? ⟨k, 1, none⟩ = some (.int .i64 t) := cell_of hblk rfl; have cf : w.frozen? ⟨k, 1, none⟩ = false := free_of hblk; have HB : Kq (w.heap[k]? = some (.cells #[.slice a m c, .int .i64 t] 51 (0, 0))) := hblk; have HR : Kq (Row w .i64 a m zs) := hrow; have HF : Kq (Near a m B) := hfar; clear hblk hrow hfar; by_cases h1 : n < 1
 ·
  go_enter Tryz.func9, Tryz.ntmps9
  go_wp2
  go_quiet (fail)
  go_wp2
  go_ret
  exact ⟨0, rfl, by omega, by omega, HT.o.below (below_drewN (Below.refl _ _) _), grown_drewN _ _ _, rfl⟩
 by_cases h2 : m ≤ t
 ·
  have h2' : (m : Int) ≤ (t : Int) := by omega
  go_enter Tryz.func9, Tryz.ntmps9
  go_wp2
  go_quiet (fail)
  go_wp2
  go_ret
  exact ⟨0, rfl, by omega, by omega, HT.o.below (below_drewN (Below.refl _ _) _), grown_drewN _ _ _, rfl⟩
 rcases HF.o with hz | ⟨x, hx, hxb⟩
 ·
  omega
 rcases HR.o.2 with hz | ⟨b, o, hbo, hc⟩
 ·
  omega
 rw [hx] at hbo; cases hbo
 subst hx; have hxk' : b < B := hxb; have hxk : b ≠ k := by omega
 have h2' : (t : Int) < (m : Int) := by omega
 have ct : w.cell? ⟨b, o + t, none⟩ = some (.int .i64 (zs.getD t 0)) := hc t (by omega); obtain ⟨z, hz⟩ : ∃ z, z = zs.getD t 0 := ⟨_, rfl⟩; rw [← hz] at ct; clear hz hc hxb; have wr : IntKind.i64.wrap ((t : Int) + 1) = (t : Int) + 1 := IntWalk.i64_in _ (by omega); have d0 : (w.setCell ⟨k, 1, none⟩ (.int .i64 ((t : Int) + 1))).cell? ⟨k, 0, none⟩ = some (.slice (some ⟨b, o, none⟩) m c) := cell_of (block_setCell _ HB.o) rfl; have d1 : (w.setCell ⟨k, 1, none⟩ (.int .i64 ((t : Int) + 1))).cell? ⟨k, 1, none⟩ = some (.int .i64 ((t : Int) + 1)) := cell_of (block_setCell _ HB.o) rfl; have dt : (w.setCell ⟨k, 1, none⟩ (.int .i64 ((t : Int) + 1))).cell? ⟨b, o + t, none⟩ = some (.int .i64 z) := by rw [← ct]; exact World.cell?_of_block (Below.heap_setCell _ _ _ _ (by simpa using hxk))
 clear wr
 go_enter Tryz.func9, Tryz.ntmps9
 go_wp2
 go_quiet (fail)
 go_wp2
 go_quiet ((go_at_call 21; exact Calls.quiet_of_same ((mod_any _ _ _ (by omega) (by omega)).mono fun _ _ h => ⟨h.1, h.2.symm⟩)))
 go_wp2
 go_ret
 have q1 := Int.emod_nonneg z (b := n) (by omega); have q2 := Int.emod_lt_of_pos z (b := n) (by omega); refine ⟨z % n, rfl, q1, by omega, ⟨hBk, some ⟨b, o, none⟩, m, c, zs, t + 1, ?_, by omega, hm, HR.o.keep ?_, HF.o⟩, ⟨rfl, rfl, rfl, ?_, ?_⟩, ?_⟩
 ·
  exact (block_setCell (i := 1) (.int .i64 ((t : Int) + 1)) HB.o)
 ·
  intro b' _ ⟨x, hx, hxb⟩ _; cases hx; subst hxb
  exact Below.heap_setCell _ _ _ _ (by simpa using hxk)
 ·
  simp [World.setCell]
 ·
  intro j _ hj; exact Below.heap_setCell _ _ _ _ (by intro e; apply hj; rw [e])
 simp [World.setCell]

def PickPostB (B k : Nat) (zs : List Int) (w : World) (e : Ending) (w' : World) : Prop :=
 ∃ r : Int, e = .returned (.int .i64 r) ∧ r ∈ zs ∧ TapeB B w' k ∧ w.grownBy w' (some k) ∧ w'.heap.size = w.heap.size

set_option maxHeartbeats 400000 in
theorem pickB_any (B k : Nat) (a : Option Addr) (n c : Nat) (zs : List Int) (w : World) (hn : 0 < n) (hn' : n ≤ 1000000) (ht : TapeB B w k) (hr : Row w .i64 a n zs) (hf : Far a n k) :
  Calls Tryz.prog 16 #[.pointer (some ⟨k, 0, none⟩), .slice a n c] w (PickPostB B k zs w) := by
 have HT : Kq (TapeB B w k) := ht; have HR : Kq (Row w .i64 a n zs) := hr; have HF : Kq (Far a n k) := hf; clear ht hr hf
 obtain ⟨b, o, rfl⟩ : ∃ b o, a = some ⟨b, o, none⟩ := by
  rcases HR.o.2 with hz | ⟨b, o, e, _⟩
  ·
   omega
  exact ⟨b, o, e⟩
 go_enter Tryz.func16, Tryz.ntmps16
 go_wp2_with fail
 refine (nextB_any B k _ _ (by omega) HT.o).mono ?_; rintro e w' ⟨r, rfl, r0, r1, ht', hg, hs⟩; have HG : Kq (w.grownBy w' (some k)) := hg; have HT' : Kq (TapeB B w' k) := ht'; have HS : Kq (w'.heap.size = w.heap.size) := hs; clear hg ht' hs; have r2 : r < (n : Int) := by omega
 have hc : w'.cell? ⟨b, o + r.toNat, none⟩ = some (.int .i64 (zs.getD r.toNat 0)) := by
  rcases (HR.o.grown HG.o HF.o).2 with hz | ⟨b', o', e, h⟩
  ·
   omega
  cases e; exact h _ (by omega)
 obtain ⟨z, hz⟩ : ∃ z, z = zs.getD r.toNat 0 := ⟨_, rfl⟩
 have HZ : Kq (z ∈ zs) := by
  have hlt : r.toNat < zs.length := by have := HR.o.1; omega
  have e : zs.getD r.toNat 0 = zs[r.toNat] := by rw [List.getD_eq_getElem?_getD, List.getElem?_eq_getElem hlt]; rfl
  rw [hz, e]; exact List.getElem_mem hlt
 rw [← hz] at hc; clear hz r1
 go_wp2
 go_ret
 exact ⟨z, rfl, HZ.o, HT'.o, HG.o, HS.o⟩

theorem newB_any (B : Nat) (a : Option Addr) (n c : Nat) (zs : List Int) (w : World) (hn' : n ≤ 9223372036854775807) (hr : Row w .i64 a n zs) (hnr : Near a n B) (hB : B ≤ w.heap.size) :
  Calls Tryz.prog 4 #[.slice a n c] w fun e w' => e = .returned (.pointer (some ⟨w.heap.size, 0, none⟩)) ∧ TapeB B w' w.heap.size ∧ Below w.heap.size w w' ∧ w'.heap.size = w.heap.size + 1 := by
 have HR : Kq (Row w .i64 a n zs) := hr; have HN : Kq (Near a n B) := hnr; clear hr hnr
 go_enter Tryz.func4, Tryz.ntmps4
 go_wp2
 go_ret
 exact ⟨rfl, ⟨hB, a, n, c, zs, 0, heap_alloc_new w _, by omega, hn', HR.o.below ((Below.refl _ _).alloc (Nat.le_refl _) _), HN.o⟩, (Below.refl _ _).alloc (Nat.le_refl _) _, by simp⟩
end

section
open Go.RowKit

inductive Ch where
 | cells (b : Nat) (cs : Array Value) (t : TypeId)
 | own (v : Value) (zs : List Int)
 | arr (e : TypeId) (sz : Nat) (v : Value) (n : Nat) (vs : List Value)
 | tape (k : Nat)
 | blk (b : Nat) (o : Obj)
structure Ro where
 a : Option Addr
 n : Nat
 c : Nat
 zs : List Int

def Ch.block : Ch → Option Nat
 | .cells b _ _ => some b
 | .own v _ => v.ownBlock
 | .arr _ _ v _ _ => v.ownBlock
 | .tape k => some k
 | .blk b _ => some b
def Ch.at (B : Nat) (w : World) : Ch → Prop
 | .cells b cs t => B ≤ b ∧ w.heap[b]? = some (.cells cs t (0, 0))
 | .own v zs => Own B w v zs
 | .arr e sz v n vs => w.ownsRow B e sz v n vs
 | .tape k => TapeB B w k
 | .blk b o => B ≤ b ∧ w.heap[b]? = some o

theorem ownsRow_keep {w w' : World} {B : Nat} {e : TypeId} {sz : Nat} {v : Value} {n : Nat} {vs : List Value} (h : w.ownsRow B e sz v n vs) (hk : ∀ b, v.ownBlock = some b → w'.heap[b]? = w.heap[b]?) : w'.ownsRow B e sz v n vs := by
 refine ⟨h.1, ?_⟩
 rcases h.2 with h' | ⟨g, cap, cur, rfl, h1, h2, h3⟩
 ·
  exact .inl h'
 exact .inr ⟨g, cap, cur, rfl, h1, by rw [hk g rfl]; exact h2, h3⟩
theorem TapeB.keep {w w' : World} {B k : Nat} (h : TapeB B w k) (hk : w'.heap[k]? = w.heap[k]?) (hB : ∀ j, j < B → w'.heap[j]? = w.heap[j]?) : TapeB B w' k := by
 obtain ⟨h0, a, n, c, zs, t, h1, h2, h3, h4, h5⟩ := h; refine ⟨h0, a, n, c, zs, t, by rw [hk]; exact h1, h2, h3, h4.keep ?_, h5⟩; intro b _ ⟨x, e, hx⟩ hn
 rcases h5 with h0 | ⟨y, e', hy⟩
 ·
  omega
 rw [e] at e'; cases e'; exact hB b (by omega)
theorem Ch.bound {B : Nat} {w : World} {c : Ch} {b : Nat} (h : c.at B w) (hb : c.block = some b) : B ≤ b ∧ b < w.heap.size := by
 cases c with
 | cells b' cs t => cases hb; exact ⟨h.1, lt_of_block h.2⟩
 | own v zs => exact World.ownsRow.lt (show w.ownsRow B _ _ _ _ _ from h) b hb
 | arr e sz v n vs => exact World.ownsRow.lt (show w.ownsRow B _ _ _ _ _ from h) b hb
 | tape k => cases hb; exact ⟨h.1, TapeB.lt h⟩
 | blk b' o => cases hb; exact ⟨h.1, (Array.getElem?_eq_some_iff.1 h.2).1⟩
theorem Ch.keep {B : Nat} {w w' : World} {c : Ch} (h : c.at B w) (hk : ∀ b, c.block = some b → w'.heap[b]? = w.heap[b]?) (hB : ∀ j, j < B → w'.heap[j]? = w.heap[j]?) : c.at B w' := by
 cases c with
 | cells b' cs t => exact ⟨h.1, by rw [hk b' rfl]; exact h.2⟩
 | own v zs => exact ownsRow_keep (show w.ownsRow B _ _ _ _ _ from h) hk
 | arr e sz v n vs => exact ownsRow_keep (show w.ownsRow B _ _ _ _ _ from h) hk
 | tape k => exact TapeB.keep h (hk k rfl) hB
 | blk b' o => exact ⟨h.1, by rw [hk b' rfl]; exact h.2⟩

structure St (B : Nat) (W : World) (l : List Ch) (rs : List Ro) (w : World) : Prop where
 hB : W.heap.size = B
 since : Since B W w
 all : ∀ (i : Nat) c, l[i]? = some c → c.at B w
 sep : ∀ (i j : Nat) c d b, l[i]? = some c → l[j]? = some d → i ≠ j → c.block = some b → d.block = some b → False
 ro : ∀ (i : Nat) r, rs[i]? = some r → Slc w r.a r.n r.c r.zs ∧ ∀ (j : Nat) c b, l[j]? = some c → c.block = some b → Far r.a r.n b

section
variable {B : Nat} {W w w' : World} {l : List Ch} {rs : List Ro}
theorem St.below (h : St B W l rs w) : Below W.heap.size W w := h.since.all h.hB
theorem St.below' (h : St B W l rs w) : Below B W w := h.since.below
theorem St.size (h : St B W l rs w) : B ≤ w.heap.size := h.since.size
theorem St.init {W : World} (hB : W.heap.size = B) : St B W [] [] W := ⟨hB, Since.self hB, fun i c h => by simp at h, fun i j c d b h => by simp at h, fun i r h => by simp at h⟩
theorem St.old (h : St B W l rs w) {a : Option Addr} {n c : Nat} {zs : List Int} (hs : Slc W a n c zs) : Slc w a n c zs := hs.call h.below
theorem St.oldRow (h : St B W l rs w) {k : IntKind} {a : Option Addr} {n : Nat} {zs : List Int} (hs : Row W k a n zs) : Row w k a n zs := hs.below h.below

theorem Far.keepSlc {a : Option Addr} {n c : Nat} {zs : List Int} (h : Slc w a n c zs) (hk : ∀ b, b < w.heap.size → (∃ x, a = some x ∧ x.block = b) → 0 < n → w'.heap[b]? = w.heap[b]?) : Slc w' a n c zs := ⟨h.row.keep hk, h.nc, h.cap⟩

theorem St.upd (h : St B W l rs w) (i : Nat) {c c' : Ch} (hi : l[i]? = some c) (hS : Since B W w') (hc : c'.at B w')
  (hbk : ∀ b, c'.block = some b → c.block = some b ∨ w.heap.size ≤ b) (hk : ∀ k, k < w.heap.size → c.block ≠ some k → w'.heap[k]? = w.heap[k]?) : St B W (l.set i c') rs w' := by
 have hlow : ∀ j, j < B → w'.heap[j]? = w.heap[j]? := fun j hj => hk j (Nat.lt_of_lt_of_le hj h.size) (fun e => by have := (Ch.bound (h.all i c hi) e).1; omega)
 have hget : ∀ j d, (l.set i c')[j]? = some d → (j = i ∧ d = c') ∨ (j ≠ i ∧ l[j]? = some d) := fun j d hj => by
  rw [List.getElem?_set] at hj; by_cases e : i = j
  ·
   subst e; have : i < l.length := by rcases List.getElem?_eq_some_iff.1 hi with ⟨h', _⟩; exact h'
   simp [this] at hj
   exact .inl ⟨rfl, hj.symm⟩
  rw [if_neg e] at hj; exact .inr ⟨fun e' => e e'.symm, hj⟩
 have hoth : ∀ j d b, j ≠ i → l[j]? = some d → d.block = some b → w'.heap[b]? = w.heap[b]? := fun j d b hne hj hb =>
  hk b (Ch.bound (h.all j d hj) hb).2 (fun e => h.sep i j c d b hi hj (fun e' => hne e'.symm) e hb)
 refine ⟨h.hB, hS, fun j d hj => ?_, fun j1 j2 c1 c2 b h1 h2 hne hb1 hb2 => ?_, fun j r hr => ?_⟩
 ·
  rcases hget j d hj with ⟨rfl, rfl⟩ | ⟨hne, hj'⟩
  ·
   exact hc
  exact Ch.keep (h.all j d hj') (fun b hb => hoth j d b hne hj' hb) hlow
 ·
  rcases hget j1 c1 h1 with ⟨rfl, rfl⟩ | ⟨hn1, h1'⟩ <;> rcases hget j2 c2 h2 with ⟨rfl, rfl⟩ | ⟨hn2, h2'⟩
  ·
   exact hne rfl
  ·
   rcases hbk b hb1 with e | e
   ·
    exact h.sep _ _ _ _ b hi h2' hne e hb2
   have := (Ch.bound (h.all _ _ h2') hb2).2; omega
  ·
   rcases hbk b hb2 with e | e
   ·
    exact h.sep _ _ _ _ b h1' hi hne hb1 e
   have := (Ch.bound (h.all _ _ h1') hb1).2; omega
  exact h.sep _ _ _ _ b h1' h2' hne hb1 hb2
 obtain ⟨s, f⟩ := h.ro j r hr; refine ⟨Far.keepSlc s fun b hb hx hn => hk b hb fun e => ?_, fun j' d b hd hb => ?_⟩
 ·
  rcases f i c b hi e with h0 | ⟨y, ey, hy⟩
  ·
   omega
  obtain ⟨x, ex, hx⟩ := hx; rw [ex] at ey; cases ey; exact hy hx
 rcases hget j' d hd with ⟨rfl, rfl⟩ | ⟨_, hd'⟩
 ·
  rcases hbk b hb with e | e
  ·
   exact f _ _ b hi e
  exact s.far e
 exact f _ _ b hd' hb

theorem St.call (h : St B W l rs w) (hb : Below w.heap.size w w') : St B W l rs w' := by
 refine ⟨h.hB, h.since.call hb, fun i c hc => Ch.keep (h.all i c hc) (fun b hbk => hb.block b (Ch.bound (h.all i c hc) hbk).2) (fun j hj => hb.block j (Nat.lt_of_lt_of_le hj h.size)), h.sep, fun i r hr => ⟨(h.ro i r hr).1.call hb, (h.ro i r hr).2⟩⟩
theorem St.drewN (h : St B W l rs w) (m : Nat) : St B W l rs (w.drewN m) := h.call (below_drewN (Below.refl _ _) _)
theorem St.drew (h : St B W l rs w) : St B W l rs w.drew := h.call (Below.refl _ _).drew

theorem St.newOf (h : St B W l rs w) (h' : St B W l rs w') {c : Ch} (hc : c.at B w') (hn : ∀ b, c.block = some b → w.heap.size ≤ b) : St B W (c :: l) rs w' := by
 have hget : ∀ (j : Nat) d, (c :: l)[j]? = some d → (j = 0 ∧ d = c) ∨ ∃ j', j = j' + 1 ∧ l[j']? = some d := fun j d hj => by
  cases j with
  | zero => simp at hj; exact .inl ⟨rfl, hj.symm⟩
  | succ j => simp at hj; exact .inr ⟨j, rfl, hj⟩
 refine ⟨h.hB, h'.since, fun j d hj => ?_, fun j1 j2 c1 c2 b h1 h2 hne hb1 hb2 => ?_, fun j r hr => ⟨(h'.ro j r hr).1, fun j' d b hd hbk => ?_⟩⟩
 ·
  rcases hget j d hj with ⟨rfl, rfl⟩ | ⟨j', rfl, hj'⟩
  ·
   exact hc
  exact h'.all _ _ hj'
 ·
  rcases hget j1 c1 h1 with ⟨rfl, rfl⟩ | ⟨j1', rfl, h1'⟩ <;> rcases hget j2 c2 h2 with ⟨rfl, rfl⟩ | ⟨j2', rfl, h2'⟩
  ·
   exact hne rfl
  ·
   have := hn b hb1; have := (Ch.bound (h.all _ _ h2') hb2).2; omega
  ·
   have := hn b hb2; have := (Ch.bound (h.all _ _ h1') hb1).2; omega
  exact h.sep _ _ _ _ b h1' h2' (by omega) hb1 hb2
 rcases hget j' d hd with ⟨rfl, rfl⟩ | ⟨j'', rfl, hd'⟩
 ·
  exact (h.ro j r hr).1.far (hn b hbk)
 exact (h.ro j r hr).2 _ _ b hd' hbk
theorem St.new (h : St B W l rs w) {c : Ch} (hb : Below w.heap.size w w') (hc : c.at B w') (hn : ∀ b, c.block = some b → w.heap.size ≤ b) : St B W (c :: l) rs w' := h.newOf (h.call hb) hc hn
theorem St.alloc (h : St B W l rs w) (cs : Array Value) (t : TypeId) {D : Nat} (hD : w.heap.size = D) : St B W (.cells D cs t :: l) rs (w.alloc (.cells cs t)) :=
 h.new (below_self _ _) ⟨by have := h.size; omega, alloc_at _ hD⟩ (fun b hb => by cases hb; omega)
theorem St.grow (h : St B W l rs w) {v : Value} {zs : List Int} (hb : Below w.heap.size w w') (ho : Own w.heap.size w' v zs) : St B W (.own v zs :: l) rs w' :=
 h.new hb (ho.base h.size) (fun _ hv => (World.ownsRow.lt (show w'.ownsRow _ _ _ _ _ _ from ho) _ hv).1)
theorem St.add (h : St B W l rs w) (h' : St B W l rs w') {v : Value} {zs : List Int} (ho : Own w.heap.size w' v zs) : St B W (.own v zs :: l) rs w' :=
 h.newOf h' (c := .own v zs) (ho.base h.size) (fun _ hv => (World.ownsRow.lt (show w'.ownsRow _ _ _ _ _ _ from ho) _ hv).1)
theorem St.made (h : St B W l rs w) {D n : Nat} {zs : List Int} (hD : w.heap.size = D) (ho : Own D w' (.slice (some ⟨D, 0, none⟩) n n) zs) (hb : Below w.heap.size w w') : St B W (.own (.slice (some ⟨D, 0, none⟩) n n) zs :: l) rs w' := h.grow hb (by rw [hD]; exact ho)
theorem St.set (h : St B W l rs w) (i : Nat) {b : Nat} {cs : Array Value} {t : TypeId} (hi : l[i]? = some (.cells b cs t)) (j : Nat) (u : Value) : St B W (l.set i (.cells b (cs.setIfInBounds j u) t)) rs (w.setCell ⟨b, j, none⟩ u) :=
 h.upd i hi (h.since.set (h.all i _ hi).1 u) ⟨(h.all i _ hi).1, block_setCell u (h.all i _ hi).2⟩ (fun _ e => .inl e) (fun k _ hk => Below.heap_setCell _ _ _ _ (fun e => hk (by rw [e]; rfl)))
theorem St.set4 (h : St B W l rs w) (i : Nat) {b : Nat} {x0 y0 z0 u0 : Value} {t : TypeId} (hi : l[i]? = some (.cells b #[x0, y0, z0, u0] t)) (x y z u : Value) : St B W (l.set i (.cells b #[x, y, z, u] t)) rs (set4 w b x y z u) :=
 h.upd i hi (h.since.set4 (h.all i _ hi).1) ⟨(h.all i _ hi).1, set4_block (h.all i _ hi).2⟩ (fun _ e => .inl e) (fun k _ hk => set4_other (fun e => hk (by rw [e]; rfl)))
theorem Own.size {base n c : Nat} {zs : List Int} {p : Option Addr} (h : Own base w (.slice p n c) zs) : n = zs.length := by
 rcases h.2 with ⟨e, h0⟩ | ⟨g', cap, cur, e, _⟩
 ·
  cases e; exact h0.symm
 cases e; rfl
theorem St.store (h : St B W l rs w) (i : Nat) {g n c : Nat} {zs : List Int} (hi : l[i]? = some (.own (.slice (some ⟨g, 0, none⟩) n c) zs)) (j : Nat) (z : Int) :
  St B W (l.set i (.own (.slice (some ⟨g, 0, none⟩) n c) (zs.set j z))) rs (w.setCell ⟨g, j, none⟩ (.int .i64 z)) := by
 have ho : Own B w (.slice (some ⟨g, 0, none⟩) n c) zs := h.all i _ hi; obtain rfl := Own.size ho; obtain ⟨h1, h2⟩ := ho.stored j z; have hg := (Ch.bound (h.all i _ hi) rfl).1; refine h.upd i hi (h.since.set hg _) (by rw [List.length_set] at h1; exact h1) (fun _ e => .inl e) (fun k hlt hk => h2.block k hlt (fun e => hk e.symm))
theorem St.next (h : St B W l rs w) (i : Nat) {k : Nat} (hi : l[i]? = some (.tape k)) (ht : TapeB B w' k) (hg : w.grownBy w' (some k)) : St B W l rs w' := by
 have := h.upd i (c' := .tape k) hi (h.since.grown hg ht.1) ht (fun _ e => .inl e) (fun j hj hk => hg.block j hj (fun e => hk e.symm))
 have e : l.set i (.tape k) = l := by
  refine List.ext_getElem? fun j => ?_
  rw [List.getElem?_set]
  split
  ·
   rename_i e; subst e; rw [hi]; obtain ⟨h', _⟩ := List.getElem?_eq_some_iff.1 hi; simp [h']
  rfl
 rwa [e] at this
theorem St.append (h : St B W l rs w) (i : Nat) {v v' : Value} {zs zs' : List Int} (hi : l[i]? = some (.own v zs)) (ho : Own B w' v' zs') (hg : w.grownBy w' v.ownBlock) (hv : v'.ownBlock = v.ownBlock ∨ v'.ownBlock = some w.heap.size) : St B W (l.set i (.own v' zs')) rs w' := by
 refine h.upd i hi (Since.mk (h.since.below.grown hg h.size (fun k hk => (Ch.bound (h.all i _ hi) hk).1)) (Nat.le_trans h.size hg.size)) ho (fun b hb => ?_) (fun k hlt hk => hg.block k hlt (fun e => hk e.symm))
 rcases hv with e | e
 ·
  exact .inl (e.symm.trans hb)
 right; have : some w.heap.size = some b := e.symm.trans hb; cases this; exact Nat.le_refl _
theorem St.erase (h : St B W l rs w) (i : Nat) : St B W (l.eraseIdx i) rs w := by
 have hget : ∀ (j : Nat) d, (l.eraseIdx i)[j]? = some d → l[if j < i then j else j + 1]? = some d := fun j d hj => by
  rw [List.getElem?_eraseIdx] at hj
  split <;> simp_all
 refine ⟨h.hB, h.since, fun j d hj => h.all _ _ (hget j d hj), fun j1 j2 c1 c2 b h1 h2 hne hb1 hb2 => h.sep _ _ _ _ b (hget _ _ h1) (hget _ _ h2) (by split <;> split <;> omega) hb1 hb2, fun j r hr => ⟨(h.ro j r hr).1, fun j' d b hd hb => (h.ro j r hr).2 _ _ b (hget _ _ hd) hb⟩⟩
theorem St.pick (h : St B W l rs w) {l' : List Ch} (ix : List Nat) (hl : ix.map (fun i => l[i]?) = l'.map some) (hnd : ix.Nodup) : St B W l' rs w := by
 have hget : ∀ (i : Nat) c, l'[i]? = some c → ∃ j, ix[i]? = some j ∧ l[j]? = some c := fun i c hi => by
  have e : (l'.map some)[i]? = some (some c) := by rw [List.getElem?_map, hi]; rfl
  rw [← hl, List.getElem?_map] at e; cases hx : ix[i]? with
  | none => rw [hx] at e; simp at e
  | some j => rw [hx] at e; simp at e; exact ⟨j, rfl, e⟩
 refine ⟨h.hB, h.since, fun i c hi => ?_, fun i1 i2 c1 c2 b h1 h2 hne hb1 hb2 => ?_, fun i r hr => ⟨(h.ro i r hr).1, fun j c b hj hb => ?_⟩⟩
 ·
  obtain ⟨j, _, hj⟩ := hget i c hi; exact h.all j c hj
 ·
  obtain ⟨j1, e1, hj1⟩ := hget _ _ h1; obtain ⟨j2, e2, hj2⟩ := hget _ _ h2; refine h.sep j1 j2 c1 c2 b hj1 hj2 (fun e => hne ?_) hb1 hb2; subst e; obtain ⟨k1, _⟩ := List.getElem?_eq_some_iff.1 e1; exact (List.getElem?_inj k1 hnd).1 (e1.trans e2.symm)
 obtain ⟨j', _, hj'⟩ := hget _ _ hj; exact (h.ro i r hr).2 _ _ b hj' hb
theorem St.freeze (h : St B W l rs w) (i : Nat) {a : Option Addr} {n c : Nat} {zs : List Int} (hi : l[i]? = some (.own (.slice a n c) zs)) : St B W (l.eraseIdx i) (⟨a, n, c, zs⟩ :: rs) w := by
 have he := h.erase i; refine ⟨he.hB, he.since, he.all, he.sep, fun j r hr => ?_⟩; cases j with
 | succ j => exact he.ro j r (by simpa using hr)
 | zero =>
  simp at hr; subst hr
  have ho : Own B w (.slice a n c) zs := h.all i _ hi; obtain ⟨a', c', e, hs⟩ := ho.slc; cases e
  refine ⟨hs, fun j d b hd hb => ?_⟩; rw [List.getElem?_eraseIdx] at hd
  rcases ho.form with ⟨e, e0⟩ | ⟨g, c', e, _⟩
  ·
   exact .inl (by subst e0; rfl)
  cases e
  refine .inr ⟨_, rfl, fun e => ?_⟩; subst e
  split at hd
  ·
   exact h.sep i j _ _ _ hi hd (by omega) rfl hb
  exact h.sep i (j + 1) _ _ _ hi hd (by omega) rfl hb
theorem St.cell (h : St B W l rs w) (i : Nat) {b : Nat} {cs : Array Value} {t : TypeId} (hi : l[i]? = some (.cells b cs t)) (j : Nat) {v : Value} (hv : cs[j]? = some v) : w.cell? ⟨b, j, none⟩ = some v := cell_of (h.all i _ hi).2 hv
theorem St.free (h : St B W l rs w) (i : Nat) {b : Nat} {cs : Array Value} {t : TypeId} (hi : l[i]? = some (.cells b cs t)) (j : Nat) : w.frozen? ⟨b, j, none⟩ = false := free_of (h.all i _ hi).2
theorem St.tapeAt (h : St B W l rs w) (i : Nat) {k : Nat} (hi : l[i]? = some (.tape k)) : TapeB B w k := h.all i _ hi
theorem St.own (h : St B W l rs w) (i : Nat) {v : Value} {zs : List Int} (hi : l[i]? = some (.own v zs)) : Own B w v zs := h.all i _ hi
theorem St.slc (h : St B W l rs w) (i : Nat) {a : Option Addr} {n c : Nat} {zs : List Int} (hi : l[i]? = some (.own (.slice a n c) zs)) : Slc w a n c zs := by
 obtain ⟨a', c', e, hs⟩ := (h.own i hi).slc; cases e; exact hs
theorem St.get (h : St B W l rs w) (i : Nat) {g n c : Nat} {zs : List Int} (hi : l[i]? = some (.own (.slice (some ⟨g, 0, none⟩) n c) zs)) {j : Nat} (hj : j < zs.length) : w.cell? ⟨g, j, none⟩ = some (.int .i64 (zs.getD j 0)) ∧ w.frozen? ⟨g, j, none⟩ = false := by
 rcases (h.own i hi).form with ⟨e, _⟩ | ⟨g', c', e, _, _, hc⟩
 ·
  cases e
 cases e; exact hc j hj
theorem St.lit (h : St B W l rs w) (i : Nat) {b : Nat} {t : TypeId} (zs : List Int) (hi : l[i]? = some (.cells b (zs.map (Value.int .i64)).toArray t)) (hn : zs.length ≤ 1000000) : Slc w (some ⟨b, 0, none⟩) zs.length zs.length zs :=
 ⟨row_lit zs (h.all i _ hi).2, Nat.le_refl _, by omega⟩
theorem Own.pos {base : Nat} {w : World} {v : Value} {zs : List Int} (h : Own base w v zs) (hn : 0 < zs.length) : ∃ g c, v = .slice (some ⟨g, 0, none⟩) zs.length c := by
 rcases h.form with ⟨_, e⟩ | ⟨g, c, e, _⟩
 ·
  subst e; simp at hn
 exact ⟨g, c, e⟩
theorem St.lt (h : St B W l rs w) (i : Nat) {c : Ch} {b : Nat} (hi : l[i]? = some c) (hb : c.block = some b) : B ≤ b ∧ b < w.heap.size := Ch.bound (h.all i _ hi) hb
theorem St.ne (h : St B W l rs w) (i j : Nat) {c d : Ch} {b b' : Nat} (hi : l[i]? = some c) (hj : l[j]? = some d) (hne : i ≠ j) (hb : c.block = some b) (hb' : d.block = some b') : b ≠ b' := fun e => h.sep i j c d b hi hj hne hb (e ▸ hb')
end
end

section
open Go.RowKit

theorem pz : (∀ (a : Act) (d : Tmp) (v : Value), a.put (some d) v = { a with tmps := a.tmps.setIfInBounds d v }) ∧ (∀ (a : Act) (v : Value), a.put none v = a) ∧ (type_of% @List.getElem_toArray.{0}) ∧ (type_of% @List.getElem_cons_zero.{0}) ∧ (type_of% @List.getElem_cons_succ.{0})
  ∧ (type_of% @List.setIfInBounds_toArray.{0}) ∧ (type_of% @List.set_cons_zero.{0}) ∧ (type_of% @List.set_cons_succ.{0}) :=
 ⟨fun _ _ _ => rfl, fun _ _ => rfl, @List.getElem_toArray, @List.getElem_cons_zero, @List.getElem_cons_succ, @List.setIfInBounds_toArray, @List.set_cons_zero, @List.set_cons_succ⟩
section
variable {B : Nat} {W w : World} {l : List Ch} {rs : List Ro}
theorem St.bl {n : Nat} (h : St B W l rs w) (e : n = W.heap.size ∨ n = B := by first | exact .inl rfl | exact .inr rfl) : Below n W w := by
 rcases e with rfl | rfl
 ·
  exact h.below
 exact h.below'
theorem gK {P : Program} {c : Code} {Q : Exit → Act → World → Prop} {a : Act} (h : Kq (St B W l rs w)) (k : ∀ w', Kq (St B W l rs w') → c.wp P Q a w') : c.wp P Q a w := k w h
theorem gL {P : Program} {ops : Array Oper} {Q : Exit → Act → World → Prop} {o : List Oper} {a : Act} (h : Kq (St B W l rs w)) (k : ∀ w', Kq (St B W l rs w') → wpList P ops Q o a w') : wpList P ops Q o a w := k w h
theorem gC {P : Program} {f : Nat} {args : Array Value} {post : Ending → World → Prop} (h : Kq (St B W l rs w)) (k : ∀ w', Kq (St B W l rs w') → Calls P f args w' post) : Calls P f args w post := k w h
variable {i b : Nat} {t : TypeId} {u v x y z q : Value} {r : List Value}
theorem St.c2 (h : St B W l rs w) (i : Nat) (hi : l[i]? = some (.cells b (List.toArray (u :: v :: r)) t)) : w.cell? ⟨b, 0, none⟩ = some u ∧ w.cell? ⟨b, 1, none⟩ = some v := ⟨h.cell i hi 0 rfl, h.cell i hi 1 rfl⟩
theorem St.c3 (h : St B W l rs w) (i : Nat) (hi : l[i]? = some (.cells b (List.toArray (u :: v :: x :: r)) t)) : w.cell? ⟨b, 0, none⟩ = some u ∧ w.cell? ⟨b, 1, none⟩ = some v ∧ w.cell? ⟨b, 2, none⟩ = some x :=
 ⟨h.cell i hi 0 rfl, h.cell i hi 1 rfl, h.cell i hi 2 rfl⟩
theorem St.c4 (h : St B W l rs w) (i : Nat) (hi : l[i]? = some (.cells b (List.toArray (u :: v :: x :: y :: r)) t)) : w.cell? ⟨b, 0, none⟩ = some u ∧ w.cell? ⟨b, 1, none⟩ = some v ∧ w.cell? ⟨b, 2, none⟩ = some x ∧ w.cell? ⟨b, 3, none⟩ = some y :=
 ⟨h.cell i hi 0 rfl, h.cell i hi 1 rfl, h.cell i hi 2 rfl, h.cell i hi 3 rfl⟩
theorem St.f2 (h : St B W l rs w) (i : Nat) (hi : l[i]? = some (.cells b (List.toArray (u :: v :: r)) t)) : w.cell? ⟨b, 0, none⟩ = some u ∧ w.frozen? ⟨b, 0, none⟩ = false ∧ w.cell? ⟨b, 1, none⟩ = some v ∧ w.frozen? ⟨b, 1, none⟩ = false :=
 ⟨h.cell i hi 0 rfl, h.free i hi 0, h.cell i hi 1 rfl, h.free i hi 1⟩
theorem St.f3 (h : St B W l rs w) (i : Nat) (hi : l[i]? = some (.cells b (List.toArray (u :: v :: x :: r)) t)) :
  w.cell? ⟨b, 0, none⟩ = some u ∧ w.frozen? ⟨b, 0, none⟩ = false ∧ w.cell? ⟨b, 1, none⟩ = some v ∧ w.frozen? ⟨b, 1, none⟩ = false ∧ w.cell? ⟨b, 2, none⟩ = some x ∧ w.frozen? ⟨b, 2, none⟩ = false :=
 ⟨h.cell i hi 0 rfl, h.free i hi 0, h.cell i hi 1 rfl, h.free i hi 1, h.cell i hi 2 rfl, h.free i hi 2⟩
end
section
variable {P : Program} {ops : Array Oper} {Q : Exit → Act → World → Prop} {md : Region.Mode} {S : World → Prop}
theorem rdy (i : Nat) {o : Oper} {fuel : Nat} {listed : Array Bool} {a : Act} {w : World}
  (h : ∀ K' : Act → World → Prop, Shut (∀ a w, S w → (S w → wpAnyH P md ops Q S fuel (listed.setIfInBounds i true) a w) → K' a w) → if Region.wanted o (yielded ops a.tmps) = true then Oper.wp P o a w K' Q else K' (a.put o.dst undef) w)
  (ho : ops[i]? = some o := by exact rfl) (hr : Region.ready md ops listed = [i] := by kernel_rfl) : wpAnyH P md ops Q S (fuel + 1) listed a w :=
 wpAnyH_ready hr (by simp) (AllReadyH.cons ho h AllReadyH.nil)
theorem tk (i : Nat) {oi : Oper} {v : Value} {fuel : Nat} {listed l' : Array Bool} {a a' : Act} {w : World} (h : wpAnyH P md ops Q S fuel l' a' w) (hi : ops[i]? = some oi := by exact rfl)
  (hs : Region.noSelect ops = true := by kernel_rfl) (hf : Region.free md ops listed i = true := by kernel_rfl) (hr : (Region.ready md ops listed).contains i = true := by kernel_rfl)
  (hw : Region.wanted oi (yielded ops a.tmps) = true := by rfl)
  (hy : ∀ w, S w → (execOp a.eval oi).run P w = .ok (.value v) w := by (intro wS hSw; (try dsimp only at hSw); go_simp; (try with_reducible rfl))) (hS : S w := by assumption)
  (ha : a.put oi.dst v = a' := by ((try simp only [pz]); try rfl)) (hl : listed.setIfInBounds i true = l' := by ((try simp only [pz]); try rfl)) (hQ : ∀ c a w, Q (.panic c) (a.put oi.dst v) w → Q (.panic c) a w := by exact fun _ _ _ h => h) :
  wpAnyH P md ops Q S (fuel + 1) listed a w := by
 subst ha hl; exact wpAnyH_take hi hs hf hr hQ (Or.inl ⟨hw, hy⟩) hS h
theorem tu (i : Nat) {oi : Oper} {v : Value} {fuel : Nat} {listed l' : Array Bool} {a a' : Act} {w : World} (h : wpAnyH P md ops Q S fuel l' a' w) (hi : ops[i]? = some oi := by exact rfl)
  (hs : Region.noSelect ops = true := by kernel_rfl) (hf : Region.free md ops listed i = true := by kernel_rfl) (hr : (Region.ready md ops listed).contains i = true := by kernel_rfl)
  (hw : Region.wanted oi (yielded ops a.tmps) = false := by rfl) (hv : v = undef := by rfl) (hS : S w := by assumption)
  (ha : a.put oi.dst v = a' := by ((try simp only [pz]); try rfl)) (hl : listed.setIfInBounds i true = l' := by ((try simp only [pz]); try rfl)) (hQ : ∀ c a w, Q (.panic c) (a.put oi.dst v) w → Q (.panic c) a w := by exact fun _ _ _ h => h) :
  wpAnyH P md ops Q S (fuel + 1) listed a w := by
 subst ha hl; exact wpAnyH_take hi hs hf hr hQ (Or.inr ⟨hw, hv⟩) hS h
end
end

section
open Go.RowKit
theorem nK {α : Sort _} (t : α) : ∃ z, t = z := ⟨t, rfl⟩
theorem nQ {α : Sort _} (t : α) : ∃ z, Kq (t = z) := ⟨t, rfl⟩
theorem eqZ (x y : Int) : ((x == y) = true ∧ (x != y) = false ∧ x ≤ y ∧ y ≤ x ∧ Kq (x = y)) ∨ ((x == y) = false ∧ (x != y) = true ∧ Kq (¬ x = y)) := by
 by_cases h : x = y
 ·
  subst h; exact .inl ⟨by simp, by simp, Int.le_refl _, Int.le_refl _, kq rfl⟩
 exact .inr ⟨by simpa using h, by simpa using h, kq h⟩
theorem dQ : (type_of% @decide_eq_true_eq) ∧ (type_of% @decide_eq_false_iff_not) := ⟨@decide_eq_true_eq, @decide_eq_false_iff_not⟩
end

section
open Go.RowKit

structure Tk (B0 k B : Nat) (W : World) (l : List Ch) (w : World) : Prop where
 st : ∃ w0, St B w0 l [] w ∧ W.grownBy w0 (some k)
 tape : TapeB B0 w k
 kB : k < B
 WB : W.heap.size = B
section
variable {B0 k B : Nat} {W w w' : World} {l l' : List Ch}
theorem Tk.map (h : Tk B0 k B W l w) (f : ∀ w0, St B w0 l [] w → St B w0 l' [] w') (ht : TapeB B0 w' k) : Tk B0 k B W l' w' := by
 obtain ⟨w0, hs, hg⟩ := h.st; exact ⟨⟨w0, f w0 hs, hg⟩, ht, h.kB, h.WB⟩
theorem Tk.init (ht : TapeB B0 W k) (hB : W.heap.size = B) : Tk B0 k B W [] W := ⟨⟨W, St.init hB, ⟨rfl, rfl, rfl, Nat.le_refl _, fun _ _ _ => rfl⟩⟩, ht, by have := ht.lt; omega, hB⟩
theorem Tk.o {α : Prop} (h : Tk B0 k B W l w) (f : ∀ w0, St B w0 l [] w → α) : α := by
 obtain ⟨w0, hs, _⟩ := h.st; exact f w0 hs
theorem Tk.size (h : Tk B0 k B W l w) : B ≤ w.heap.size := h.o fun _ hs => hs.size
theorem Tk.call (h : Tk B0 k B W l w) (hb : Below w.heap.size w w') : Tk B0 k B W l w' := h.map (fun _ hs => hs.call hb) (h.tape.below hb)
theorem Tk.drewN (h : Tk B0 k B W l w) (m : Nat) : Tk B0 k B W l (w.drewN m) := h.call (below_drewN (Below.refl _ _) _)
theorem Tk.drew (h : Tk B0 k B W l w) : Tk B0 k B W l w.drew := h.call (Below.refl _ _).drew
theorem Tk.alloc (h : Tk B0 k B W l w) (cs : Array Value) (t : TypeId) {D : Nat} (hD : w.heap.size = D) : Tk B0 k B W (.cells D cs t :: l) (w.alloc (.cells cs t)) := h.map (fun _ hs => hs.alloc cs t hD) (h.tape.below (below_self _ _))
theorem Tk.grow (h : Tk B0 k B W l w) {v : Value} {zs : List Int} (hb : Below w.heap.size w w') (ho : Own w.heap.size w' v zs) : Tk B0 k B W (.own v zs :: l) w' := h.map (fun _ hs => hs.grow hb ho) (h.tape.below hb)
theorem Tk.made (h : Tk B0 k B W l w) {D n : Nat} {zs : List Int} (hD : w.heap.size = D) (ho : Own D w' (.slice (some ⟨D, 0, none⟩) n n) zs) (hb : Below w.heap.size w w') : Tk B0 k B W (.own (.slice (some ⟨D, 0, none⟩) n n) zs :: l) w' := h.map (fun _ hs => hs.made hD ho hb) (h.tape.below hb)
theorem Tk.setTape (h : Tk B0 k B W l w) {b : Nat} (hb : B ≤ b) (o : Nat) (u : Value) : TapeB B0 (w.setCell ⟨b, o, none⟩ u) k := by
 have h1 := h.tape.1; have h2 := h.kB; exact h.tape.keep (Below.heap_setCell _ _ _ _ (by simp; omega)) (fun j hj => Below.heap_setCell _ _ _ _ (by simp; omega))
theorem Tk.set (h : Tk B0 k B W l w) (i : Nat) {b : Nat} {cs : Array Value} {t : TypeId} (hi : l[i]? = some (.cells b cs t)) (j : Nat) (u : Value) : Tk B0 k B W (l.set i (.cells b (cs.setIfInBounds j u) t)) (w.setCell ⟨b, j, none⟩ u) :=
 h.map (fun _ hs => hs.set i hi j u) (h.setTape (h.o fun _ hs => (hs.all i _ hi).1) _ _)
theorem Tk.store (h : Tk B0 k B W l w) (i : Nat) {g n c : Nat} {zs : List Int} (hi : l[i]? = some (.own (.slice (some ⟨g, 0, none⟩) n c) zs)) (j : Nat) (z : Int) :
  Tk B0 k B W (l.set i (.own (.slice (some ⟨g, 0, none⟩) n c) (zs.set j z))) (w.setCell ⟨g, j, none⟩ (.int .i64 z)) :=
 h.map (fun _ hs => hs.store i hi j z) (h.setTape (h.o fun _ hs => (hs.lt i hi rfl).1) _ _)
theorem Tk.append (h : Tk B0 k B W l w) (i : Nat) {v v' : Value} {zs zs' : List Int} (hi : l[i]? = some (.own v zs)) (ho : Own B w' v' zs') (hg : w.grownBy w' v.ownBlock) (hv : v'.ownBlock = v.ownBlock ∨ v'.ownBlock = some w.heap.size) : Tk B0 k B W (l.set i (.own v' zs')) w' := by
 have h1 := h.tape.1; have h2 := h.kB; have h3 := h.tape.lt; have hlow : ∀ j, j < B → w'.heap[j]? = w.heap[j]? := fun j hj => hg.block j (by have := h.size; omega) (fun e => h.o fun _ hs => by have := (hs.lt i hi e.symm).1; omega)
 exact h.map (fun _ hs => hs.append i hi ho hg hv) (h.tape.keep (hlow k (by omega)) (fun j hj => hlow j (by omega)))
theorem Tk.erase (h : Tk B0 k B W l w) (i : Nat) : Tk B0 k B W (l.eraseIdx i) w := h.map (fun _ hs => hs.erase i) h.tape
theorem Tk.pick (h : Tk B0 k B W l w) (ix : List Nat) (hl : ix.map (fun i => l[i]?) = l'.map some) (hnd : ix.Nodup := by decide) : Tk B0 k B W l' w := h.map (fun _ hs => hs.pick ix hl hnd) h.tape
theorem Tk.cell (h : Tk B0 k B W l w) (i : Nat) {b : Nat} {cs : Array Value} {t : TypeId} (hi : l[i]? = some (.cells b cs t)) (j : Nat) {v : Value} (hv : cs[j]? = some v) : w.cell? ⟨b, j, none⟩ = some v := h.o fun _ hs => hs.cell i hi j hv
theorem Tk.free (h : Tk B0 k B W l w) (i : Nat) {b : Nat} {cs : Array Value} {t : TypeId} (hi : l[i]? = some (.cells b cs t)) (j : Nat) : w.frozen? ⟨b, j, none⟩ = false := h.o fun _ hs => hs.free i hi j
theorem Tk.own (h : Tk B0 k B W l w) (i : Nat) {v : Value} {zs : List Int} (hi : l[i]? = some (.own v zs)) : Own B w v zs := h.o fun _ hs => hs.own i hi
theorem Tk.get (h : Tk B0 k B W l w) (i : Nat) {g n c : Nat} {zs : List Int} (hi : l[i]? = some (.own (.slice (some ⟨g, 0, none⟩) n c) zs)) {j : Nat} (hj : j < zs.length) : w.cell? ⟨g, j, none⟩ = some (.int .i64 (zs.getD j 0)) ∧ w.frozen? ⟨g, j, none⟩ = false := h.o fun _ hs => hs.get i hi hj
theorem Tk.lit (h : Tk B0 k B W l w) (i : Nat) {b : Nat} {t : TypeId} (zs : List Int) (hi : l[i]? = some (.cells b (zs.map (Value.int .i64)).toArray t)) (hn : zs.length ≤ 1000000) : Slc w (some ⟨b, 0, none⟩) zs.length zs.length zs := h.o fun _ hs => hs.lit i zs hi hn
theorem Tk.far (h : Tk B0 k B W l w) (i : Nat) {b : Nat} {cs : Array Value} {t : TypeId} (hi : l[i]? = some (.cells b cs t)) (n : Nat) : Far (some ⟨b, 0, none⟩) n k := .inr ⟨_, rfl, by have := h.o fun _ hs => (hs.all i _ hi).1; have := h.kB; simp; omega⟩
theorem Tk.set4 (h : Tk B0 k B W l w) (i : Nat) {b : Nat} {x0 y0 z0 u0 : Value} {t : TypeId} (hi : l[i]? = some (.cells b #[x0, y0, z0, u0] t)) (x y z u : Value) : Tk B0 k B W (l.set i (.cells b #[x, y, z, u] t)) (Go.Proofs.YteejjnhlfgjlaaaGreat.set4 w b x y z u) := by
 have hb : B ≤ b := h.o fun _ hs => (hs.all i _ hi).1
 have h1 := h.tape.1; have h2 := h.kB; exact h.map (fun _ hs => hs.set4 i hi x y z u) (h.tape.keep (set4_other (by omega)) (fun j hj => set4_other (by omega)))
def Ch.notTape : Ch → Bool
 | .tape _ => false
 | _ => true
theorem Tk.next (h : Tk B0 k B W l w) (ht : TapeB B0 w' k) (hg : w.grownBy w' (some k)) (hn : l.all Ch.notTape = true := by rfl) : Tk B0 k B W l w' := by
 obtain ⟨w0, hs, hW⟩ := h.st; have hkB := h.kB; obtain ⟨o, ho⟩ : ∃ o, w'.heap[k]? = some o := ⟨_, Array.getElem?_eq_getElem ht.lt⟩; have h0 : w0.heap.size = B := hs.hB
 let w1 : World := { w0 with heap := w0.heap.setIfInBounds k o }
 have e1 : ∀ j, j ≠ k → w1.heap[j]? = w0.heap[j]? := fun j hj => by
  show (w0.heap.setIfInBounds k o)[j]? = _
  rw [Array.getElem?_setIfInBounds, if_neg (by omega)]
 have e2 : w1.heap[k]? = some o := by
  show (w0.heap.setIfInBounds k o)[k]? = _
  rw [Array.getElem?_setIfInBounds, if_pos rfl, if_pos (by omega)]
 have s1 : w1.heap.size = B := by show (w0.heap.setIfInBounds k o).size = B; rw [Array.size_setIfInBounds]; exact h0
 have hoth : ∀ (i : Nat) (c : Ch) (b : Nat), l[i]? = some c → c.block = some b → w'.heap[b]? = w.heap[b]? := fun i c b hi hb => by
  have := hs.lt i hi hb; exact hg.block b this.2 (by simp; omega)
 refine ⟨⟨w1, ⟨s1, ⟨⟨hg.os.trans hs.since.below.os, hg.tape.trans hs.since.below.tape, hg.output.trans hs.since.below.output, ?_, fun j hj => ?_⟩, Nat.le_trans hs.size hg.size⟩, fun i c hi => ?_, hs.sep, fun i r hr => by simp at hr⟩, ⟨hW.os, hW.tape, hW.output, by rw [s1, ← h0]; exact hW.size, fun j hj hr => ?_⟩⟩, ht, hkB, h.WB⟩
 ·
  rw [s1]; exact Nat.le_trans hs.size hg.size
 ·
  by_cases hjk : j = k
  ·
   subst hjk; rw [e2, ho]
  rw [e1 j hjk, ← hs.since.below.block j hj]; exact hg.block j (by have := hs.size; omega) (by simpa using hjk)
 ·
  have hc := hs.all i c hi; cases c with
  | cells b cs t => exact ⟨hc.1, by rw [hoth i _ b hi rfl]; exact hc.2⟩
  | own v zs => exact ownsRow_keep (show w.ownsRow B _ _ _ _ _ from hc) (fun b hb => hoth i _ b hi hb)
  | arr e sz v n vs => exact ownsRow_keep (show w.ownsRow B _ _ _ _ _ from hc) (fun b hb => hoth i _ b hi hb)
  | tape k' =>
   have := List.all_eq_true.1 hn _ (List.mem_of_getElem? hi); simp [Ch.notTape] at this
  | blk b o => exact ⟨hc.1, by rw [hoth i _ b hi rfl]; exact hc.2⟩
 rw [e1 j (by simpa using hr)]; exact hW.block j hj hr
theorem Tk.add (h : Tk B0 k B W l w) (ht : TapeB B0 w' k) (hg : w.grownBy w' (some k)) {v : Value} {zs : List Int} (ho : Own w.heap.size w' v zs) (hn : l.all Ch.notTape = true := by rfl) : Tk B0 k B W (.own v zs :: l) w' := by
 obtain ⟨w1, hs', hW⟩ := (h.next ht hg hn).st; obtain ⟨w0, hs, _⟩ := h.st; have hsz := hs.size; have hb := fun b (hv : v.ownBlock = some b) => (World.ownsRow.lt (show w'.ownsRow _ _ _ _ _ _ from ho) b hv).1
 refine ⟨⟨w1, ?_, hW⟩, ht, h.kB, h.WB⟩; refine ⟨hs'.hB, hs'.since, fun i c hi => ?_, fun i j c d b hi hj hne hbc hbd => ?_, fun i r hr => by simp at hr⟩
 ·
  cases i with
  | zero => simp at hi; subst hi; exact ho.base hsz
  | succ i => exact hs'.all i c (by simpa using hi)
 cases i with
 | zero =>
  simp at hi; subst hi
  cases j with
  | zero => exact hne rfl
  | succ j =>
   have h1 := hb b hbc; have h2 := (hs.lt j (by simpa using hj) hbd).2
   omega
 | succ i =>
  cases j with
  | zero =>
   simp at hj; subst hj
   have h1 := hb b hbd; have h2 := (hs.lt i (by simpa using hi) hbc).2
   omega
  | succ j => exact hs'.sep i j c d b (by simpa using hi) (by simpa using hj) (by omega) hbc hbd
theorem Tk.grown (h : Tk B0 k B W l w) : W.grownBy w (some k) := by
 obtain ⟨w0, hs, hW⟩ := h.st; exact grown_trans hW (grown_of_below (hs.below))
end
end

section
open Go.RowKit

theorem St.litOwn {B : Nat} {W w : World} {l : List Ch} {rs : List Ro} (h : St B W l rs w) (i : Nat) {b : Nat} (zs : List Int) (hi : l[i]? = some (.cells b (zs.map (Value.int .i64)).toArray 3)) (hn : zs.length ≤ 1000000) :
  St B W (l.set i (.own (.slice (some ⟨b, 0, none⟩) zs.length zs.length) zs)) rs w := by
 have hc := h.all i _ hi; refine h.upd i hi h.since ?_ (fun _ e => .inl e) (fun _ _ _ => rfl); refine ⟨by simp, .inr ⟨b, zs.length, _, rfl, hc.1, hc.2, Nat.le_refl _, by unfold maxLen; omega, by simp, by simpa using List.take_of_length_le (by simp)⟩⟩

theorem Own.up {B : Nat} {w w' : World} {v : Value} {zs : List Int} (h : Own B w' v zs) (hv : v.ownBlock = none ∨ v.ownBlock = some w.heap.size) : Own w.heap.size w' v zs := by
 refine ⟨h.1, ?_⟩
 rcases h.2 with h' | ⟨g, cap, cur, e, h1, h2⟩
 ·
  exact .inl h'
 refine .inr ⟨g, cap, cur, e, ?_, h2⟩; subst e
 rcases hv with e | e
 ·
  cases e
 cases e; exact Nat.le_refl _
theorem St.newTape {B : Nat} {W w w' : World} {l : List Ch} {rs : List Ro} (h : St B W l rs w) {k : Nat} (ht : TapeB B w' k) (hb : Below w.heap.size w w') (hk : w.heap.size = k) : St B W (.tape k :: l) rs w' :=
 h.new hb (c := .tape k) ht (fun b e => by cases e; omega)
section
variable {B0 k B : Nat} {W w w' : World} {l l' : List Ch}
theorem Tk.litOwn (h : Tk B0 k B W l w) (i : Nat) {b : Nat} (zs : List Int) (hi : l[i]? = some (.cells b (zs.map (Value.int .i64)).toArray 3)) (hn : zs.length ≤ 1000000) : Tk B0 k B W (l.set i (.own (.slice (some ⟨b, 0, none⟩) zs.length zs.length) zs)) w := h.map (fun _ hs => hs.litOwn i zs hi hn) h.tape
theorem Tk.old (h : Tk B0 k B W l w) {a : Option Addr} {n c : Nat} {zs : List Int} (hs : Slc W a n c zs) (hf : Far a n k) : Slc w a n c zs := by
 obtain ⟨w0, h0, hg⟩ := h.st; exact h0.old (hs.grown hg hf)
end
end

section
open Go.RowKit
end

section
open Go.RowKit
end

section
open Go.RowKit
section
variable {B : Nat} {W w : World} {l : List Ch} {rs : List Ro}
theorem gen_code {P : Program} {c : Code} {Q : Exit → Act → World → Prop} {a : Act} (h : St B W l rs w) (k : ∀ w', St B W l rs w' → c.wp P Q a w') : c.wp P Q a w := k w h
theorem gen_list {P : Program} {ops : Array Oper} {Q : Exit → Act → World → Prop} {o : List Oper} {a : Act} (h : St B W l rs w) (k : ∀ w', St B W l rs w' → wpList P ops Q o a w') : wpList P ops Q o a w := k w h
theorem gen_calls {P : Program} {f : Nat} {args : Array Value} {post : Ending → World → Prop} (h : St B W l rs w) (k : ∀ w', St B W l rs w' → Calls P f args w' post) : Calls P f args w post := k w h
end
end

section
def rEmpty (x0 y0 x1 y1 : Int) : Bool := decide (x0 = 0 ∧ y0 = 0 ∧ x1 = 0 ∧ y1 = 0)
def rIn (v : Int) : Bool := decide (-1048576 ≤ v ∧ v ≤ 1048576)
def rValid (x0 y0 x1 y1 : Int) : Bool :=
 decide ((x0 = 0 ∧ y0 = 0 ∧ x1 = 0 ∧ y1 = 0) ∨ (-1048576 ≤ x0 ∧ x0 ≤ 1048576 ∧ -1048576 ≤ y0 ∧ y0 ≤ 1048576 ∧ -1048576 ≤ x1 ∧ x1 ≤ 1048576 ∧ -1048576 ≤ y1 ∧ y1 ≤ 1048576 ∧ x0 < x1 ∧ y0 < y1))
def rInside (a0 a1 a2 a3 b0 b1 b2 b3 : Int) : Bool := rValid a0 a1 a2 a3 && rValid b0 b1 b2 b3 && (rEmpty a0 a1 a2 a3 || decide (b0 ≤ a0 ∧ a2 ≤ b2 ∧ b1 ≤ a1 ∧ a3 ≤ b3))
theorem rEmpty_iff {x0 y0 x1 y1 : Int} : rEmpty x0 y0 x1 y1 = true ↔ x0 = 0 ∧ y0 = 0 ∧ x1 = 0 ∧ y1 = 0 := by simp [rEmpty]
theorem rValid_iff {x0 y0 x1 y1 : Int} : rValid x0 y0 x1 y1 = true ↔ (x0 = 0 ∧ y0 = 0 ∧ x1 = 0 ∧ y1 = 0) ∨ (-1048576 ≤ x0 ∧ x0 ≤ 1048576 ∧ -1048576 ≤ y0 ∧ y0 ≤ 1048576 ∧ -1048576 ≤ x1 ∧ x1 ≤ 1048576 ∧ -1048576 ≤ y1 ∧ y1 ≤ 1048576 ∧ x0 < x1 ∧ y0 < y1) := by simp [rValid]
theorem bool_of_iff {b c : Bool} (h : b = true ↔ c = true) : b = c := by cases b <;> cases c <;> simp_all
end

section
def mOk (a b l : Int) : Bool := decide (0 ≤ a ∧ 0 ≤ b ∧ 0 ≤ l ∧ a * b ≤ l)
def mVal (a b l : Int) : Int := if mOk a b l = true then a * b else 0
theorem mOk_iff {a b l : Int} : mOk a b l = true ↔ 0 ≤ a ∧ 0 ≤ b ∧ 0 ≤ l ∧ a * b ≤ l := by simp [mOk]

def pOk (w h mx : Int) : Bool := decide (1 ≤ w ∧ w ≤ 128 ∧ 1 ≤ h ∧ h ≤ 128 ∧ w * h ≤ 4096 ∧ 1 ≤ mx ∧ mx ≤ 4294967296)
theorem pOk_iff {w h mx : Int} : pOk w h mx = true ↔ 1 ≤ w ∧ w ≤ 128 ∧ 1 ≤ h ∧ h ≤ 128 ∧ w * h ≤ 4096 ∧ 1 ≤ mx ∧ mx ≤ 4294967296 := by simp [pOk]
def allIn (mx : Int) (zs : List Int) : Bool := zs.all fun v => decide (0 ≤ v ∧ v ≤ mx)
theorem allIn_iff {mx : Int} {zs : List Int} : allIn mx zs = true ↔ ∀ v ∈ zs, 0 ≤ v ∧ v ≤ mx := by simp [allIn]
theorem getD_mem' {zs : List Int} {j : Nat} (hj : j < zs.length) : zs.getD j 0 ∈ zs := by
 rw [List.getD_eq_getElem?_getD, List.getElem?_eq_getElem hj]; exact List.getElem_mem hj
theorem mem_getD' {zs : List Int} {z : Int} (h : z ∈ zs) : ∃ j, j < zs.length ∧ zs.getD j 0 = z := by
 obtain ⟨j, hj, e⟩ := List.getElem_of_mem h; exact ⟨j, hj, by rw [List.getD_eq_getElem?_getD, List.getElem?_eq_getElem hj]; exact e⟩
theorem allIn_of {mx : Int} {zs : List Int} (h : ∀ i, i < zs.length → 0 ≤ zs.getD i 0 ∧ zs.getD i 0 ≤ mx) : allIn mx zs = true := by
 rw [allIn_iff]; intro v hv; obtain ⟨j, hj, e⟩ := mem_getD' hv; rw [← e]; exact h j hj
theorem allIn_bad {mx : Int} {zs : List Int} {i : Nat} (hi : i < zs.length) (h : zs.getD i 0 < 0 ∨ mx < zs.getD i 0) : allIn mx zs = false := by
 rw [← Bool.not_eq_true, allIn_iff]; intro h'; have := h' _ (getD_mem' hi); omega

def pValid (w h mx : Int) (zs : List Int) : Bool := pOk w h mx && decide ((zs.length : Int) = w * h) && allIn mx zs
theorem pValid_iff {w h mx : Int} {zs : List Int} : pValid w h mx zs = true ↔ pOk w h mx = true ∧ (zs.length : Int) = w * h ∧ ∀ v ∈ zs, 0 ≤ v ∧ v ≤ mx := by
 simp [pValid, allIn_iff, and_assoc]
theorem pValid_no {w h mx : Int} {zs : List Int} (hp : pOk w h mx = false ∨ (zs.length : Int) ≠ w * h ∨ allIn mx zs = false) : pValid w h mx zs = false := by
 rcases hp with h' | h' | h' <;> simp [pValid, h']

theorem mul_div {a b l : Int} (hb : 0 < b) : l / b < a ↔ l < a * b := by rw [Int.ediv_lt_iff_lt_mul hb]
end

section
def sumN (f : Nat → Int) : Nat → Int
 | 0 => 0
 | n + 1 => sumN f n + f n
theorem sumN_none {f : Nat → Int} {n : Nat} (h : ∀ i, i < n → f i = 0) : sumN f n = 0 := by
 induction n with
 | zero => rfl
 | succ n ih => rw [sumN, ih (fun i hi => h i (by omega)), h n (by omega)]; rfl
theorem sumN_add (f g : Nat → Int) (n : Nat) : sumN (fun i => f i + g i) n = sumN f n + sumN g n := by
 induction n with
 | zero => rfl
 | succ n ih => simp only [sumN, ih]; omega
theorem sumN_swap (f : Nat → Nat → Int) (n m : Nat) : sumN (fun i => sumN (fun j => f i j) m) n = sumN (fun j => sumN (fun i => f i j) n) m := by
 induction n with
 | zero => exact (sumN_none fun _ _ => rfl).symm
 | succ n ih => simp only [sumN, ih, sumN_add]
theorem sumN_nonneg {f : Nat → Int} {n : Nat} (h : ∀ i, i < n → 0 ≤ f i) : 0 ≤ sumN f n := by
 induction n with
 | zero => exact Int.le_refl _
 | succ n ih => have := ih (fun i hi => h i (by omega)); have := h n (by omega); rw [sumN]; omega
theorem sumN_le {f g : Nat → Int} {n : Nat} (h : ∀ i, i < n → f i ≤ g i) : sumN f n ≤ sumN g n := by
 induction n with
 | zero => exact Int.le_refl _
 | succ n ih => have := ih (fun i hi => h i (by omega)); have := h n (by omega); rw [sumN, sumN]; omega
theorem sumN_const (c : Int) (n : Nat) : sumN (fun _ => c) n = n * c := by
 induction n with
 | zero => simp [sumN]
 | succ n ih => rw [sumN, ih, Int.natCast_succ, Int.add_mul, Int.one_mul]
end

section
def iOk (w h mx : Int) : Bool := decide (1 ≤ w ∧ 1 ≤ h ∧ 1 ≤ mx ∧ w * h ≤ 4294967296 ∧ w * h * mx ≤ 4294967296)
def iVal (w h mx : Int) : Int := if iOk w h mx = true then w * h * mx else 0
def iCode (w h mx : Int) : Int := if iOk w h mx = true then 0 else 11
theorem iOk_iff {w h mx : Int} : iOk w h mx = true ↔ 1 ≤ w ∧ 1 ≤ h ∧ 1 ≤ mx ∧ w * h ≤ 4294967296 ∧ w * h * mx ≤ 4294967296 := by simp [iOk]
theorem iOk_mul {w h mx : Int} (h1 : 1 ≤ w) (h2 : 1 ≤ h) (h3 : 1 ≤ mx) : iOk w h mx = (mOk w h 4294967296 && mOk (w * h) mx 4294967296) := by
 have p := Int.mul_nonneg (a := w) (b := h) (by omega) (by omega); refine bool_of_iff ?_; rw [iOk_iff, Bool.and_eq_true, mOk_iff, mOk_iff]
 omega
end

section
def hBin (v mx n : Int) : Int := if 1 ≤ mx ∧ mx ≤ 4294967296 ∧ 0 ≤ v ∧ v ≤ mx ∧ 1 ≤ n ∧ n ≤ 128 then v * n / (mx + 1) else 0
theorem hBin_bd {v mx n : Int} (hn : 1 ≤ n) : 0 ≤ hBin v mx n ∧ hBin v mx n < n := by
 unfold hBin
 split
 ·
  rename_i h; obtain ⟨h1, h2, h3, h4, h5, h6⟩ := h; have p : 0 ≤ v * n := Int.mul_nonneg h3 (by omega); refine ⟨Int.ediv_nonneg p (by omega), Int.ediv_lt_of_lt_mul (by omega) ?_⟩; have : v * n ≤ mx * n := Int.mul_le_mul_of_nonneg_right h4 (by omega); rw [Int.mul_add, Int.mul_one, Int.mul_comm n mx]
  omega
 omega

def bump (l : List Int) (i : Nat) : List Int := l.set i (l.getD i 0 + 1)
def hCols (g : Nat → Nat) (l : List Int) : Nat → List Int
 | 0 => l
 | j + 1 => bump (hCols g l j) (g j)
def hRows (g : Nat → Nat → Nat) (wd n : Nat) : Nat → List Int
 | 0 => List.replicate n 0
 | k + 1 => hCols (g k) (hRows g wd n k) wd

structure Cnt (l : List Int) (n : Nat) (m : Nat) : Prop where
 len : l.length = n
 bd : ∀ i, 0 ≤ l.getD i 0 ∧ l.getD i 0 ≤ m
theorem Cnt.zero (n : Nat) : Cnt (List.replicate n 0) n 0 := ⟨by simp, fun i => by
 rw [List.getD_eq_getElem?_getD]
 rcases Nat.lt_or_ge i n with h | h
 ·
  simp [h]
 simp [h]⟩
theorem Cnt.bump {l : List Int} {n m : Nat} (h : Cnt l n m) (i : Nat) : Cnt (bump l i) n (m + 1) := by
 refine ⟨by simp [Go.Proofs.YteejjnhlfgjlaaaGreat.bump, h.len], fun j => ?_⟩; have hj := h.bd j; have hi := h.bd i
 unfold Go.Proofs.YteejjnhlfgjlaaaGreat.bump
 rw [List.getD_eq_getElem?_getD, List.getElem?_set]
 split
 ·
  split
  ·
   rename_i e _; subst e
   show 0 ≤ l.getD i 0 + 1 ∧ l.getD i 0 + 1 ≤ ((m + 1 : Nat) : Int)
   omega
  show (0 : Int) ≤ 0 ∧ (0 : Int) ≤ ((m + 1 : Nat) : Int)
  omega
 rw [← List.getD_eq_getElem?_getD]; omega
theorem Cnt.cols {l : List Int} {n m : Nat} (h : Cnt l n m) (g : Nat → Nat) : ∀ j, Cnt (hCols g l j) n (m + j)
 | 0 => h
 | j + 1 => by have := (h.cols g j).bump (g j); rw [← Nat.add_assoc]; exact this
theorem Cnt.rows (g : Nat → Nat → Nat) (wd n : Nat) : ∀ k, Cnt (hRows g wd n k) n (k * wd)
 | 0 => by rw [Nat.zero_mul]; exact Cnt.zero n
 | k + 1 => by have := (Cnt.rows g wd n k).cols (g k) wd; rw [Nat.add_mul, Nat.one_mul]; exact this

def hG (w mx bins x0 y0 : Int) (zs : List Int) (k j : Nat) : Nat := (hBin (zs.getD (((y0 + k) * w + x0).toNat + j) 0) mx bins).toNat
def hOk (w h mx : Int) (zs : List Int) (bins r0 r1 r2 r3 : Int) : Int :=
 if pValid w h mx zs = false then 1 else if ¬ (1 ≤ bins ∧ bins ≤ 128) then 9 else if (!rEmpty r0 r1 r2 r3 && rInside r0 r1 r2 r3 0 0 w h) = false then 8 else 0
def hList (w h mx : Int) (zs : List Int) (bins r0 r1 r2 r3 : Int) : List Int :=
 if hOk w h mx zs bins r0 r1 r2 r3 = 0 then hRows (hG w mx bins r0 r1 zs) (r2 - r0).toNat bins.toNat (r3 - r1).toNat else []

theorem inside_iff {w h r0 r1 r2 r3 : Int} (hw : 1 ≤ w) (hw' : w ≤ 128) (hh : 1 ≤ h) (hh' : h ≤ 128) : (!rEmpty r0 r1 r2 r3 && rInside r0 r1 r2 r3 0 0 w h) = true ↔ 0 ≤ r0 ∧ r0 < r2 ∧ r2 ≤ w ∧ 0 ≤ r1 ∧ r1 < r3 ∧ r3 ≤ h := by
 have v : rValid 0 0 w h = true := rValid_iff.2 (.inr (by omega))
 constructor
 ·
  intro hc; simp only [Bool.and_eq_true, Bool.not_eq_true', rInside, Bool.or_eq_true, decide_eq_true_eq] at hc; obtain ⟨he, ⟨hv, _⟩, hc⟩ := hc
  rcases hc with hc | hc
  ·
   rw [he] at hc; simp at hc
  rcases rValid_iff.1 hv with h0 | h0
  ·
   rw [rEmpty_iff.2 h0] at he; simp at he
  omega
 intro hc; have he : rEmpty r0 r1 r2 r3 = false := by rw [← Bool.not_eq_true, rEmpty_iff]; omega
 have hv : rValid r0 r1 r2 r3 = true := rValid_iff.2 (.inr (by omega)); simp [he, rInside, hv, v]
 omega
end

section
def tPix (w : Int) (zs : List Int) (r0 r1 : Int) (k j : Nat) : Int := zs.getD ((r1 + k) * w + r0 + j).toNat 0
def tCol (w : Int) (zs : List Int) (r0 r1 : Int) (k j : Nat) : Int := sumN (fun a => tPix w zs r0 r1 a j) k
def tSum (w : Int) (zs : List Int) (r0 r1 : Int) (k j : Nat) : Int := sumN (fun b => tCol w zs r0 r1 k b) j
theorem tSum_rows (w : Int) (zs : List Int) (r0 r1 : Int) (k j : Nat) : tSum w zs r0 r1 k j = sumN (fun a => sumN (fun b => tPix w zs r0 r1 a b) j) k := by
 unfold tSum tCol; exact sumN_swap _ _ _
def tVal (w : Int) (zs : List Int) (r0 r1 : Int) (left top : List Int) (corner : Int) (k j : Nat) : Int :=
 left.getD k 0 + top.getD j 0 - corner + tSum w zs r0 r1 (k + 1) (j + 1)
def gridL (f : Nat → Nat → Int) (wd k j : Nat) : List Int := ((List.range k).flatMap fun a => (List.range wd).map (f a)) ++ (List.range j).map (f k)
theorem gridL_len (f : Nat → Nat → Int) (wd k j : Nat) : (gridL f wd k j).length = k * wd + j := by
 have : ((List.range k).flatMap fun a => (List.range wd).map (f a)).length = k * wd := by
  induction k with
  | zero => simp
  | succ k ih => rw [List.range_succ, List.flatMap_append, List.length_append, ih, Nat.add_mul]; simp
 simp [gridL, this]
theorem gridL_zero (f : Nat → Nat → Int) (wd : Nat) : gridL f wd 0 0 = [] := rfl
theorem gridL_next (f : Nat → Nat → Int) (wd k j : Nat) : gridL f wd k (j + 1) = gridL f wd k j ++ [f k j] := by
 simp [gridL, List.range_succ]
theorem gridL_row (f : Nat → Nat → Int) (wd k : Nat) : gridL f wd k wd = gridL f wd (k + 1) 0 := by
 simp [gridL, List.range_succ]
theorem gridL_all (f : Nat → Nat → Int) (wd k : Nat) {P : Int → Prop} : (∀ v ∈ gridL f wd k 0, P v) ↔ ∀ a, a < k → ∀ b, b < wd → P (f a b) := by
 simp only [gridL, List.range_zero, List.map_nil, List.append_nil, List.mem_flatMap, List.mem_range, List.mem_map]
 constructor
 ·
  intro h a ha b hb; exact h _ ⟨a, ha, b, hb, rfl⟩
 rintro h v ⟨a, ha, b, hb, rfl⟩; exact h a ha b hb
theorem gridL_get (f : Nat → Nat → Int) (wd k j : Nat) (a b : Nat) (hb : b < wd) (h : a < k ∨ (a = k ∧ b < j)) : (gridL f wd k j).getD (a * wd + b) 0 = f a b := by
 induction k generalizing j with
 | zero =>
  rcases h with h | ⟨rfl, h⟩
  ·
   omega
  simp [gridL, List.getD_eq_getElem?_getD, h]
 | succ k ih =>
  have e : gridL f wd (k + 1) j = gridL f wd k wd ++ (List.range j).map (f (k + 1)) := by rw [gridL_row]; simp [gridL]
  rw [e, List.getD_eq_getElem?_getD, List.getElem?_append, gridL_len]; by_cases hk : a < k + 1
  ·
   have : a * wd + b < k * wd + wd := by
    have : a * wd ≤ k * wd := Nat.mul_le_mul_right _ (by omega)
    omega
   rw [if_pos this, ← List.getD_eq_getElem?_getD]; exact ih wd (by omega)
  obtain ⟨rfl, hj⟩ : a = k + 1 ∧ b < j := by omega
  rw [Nat.add_mul, Nat.one_mul, if_neg (by omega), show k * wd + wd + b - (k * wd + wd) = b by omega]; simp [hj]
def tAll (w : Int) (zs : List Int) (r0 r1 : Int) (left top : List Int) (corner : Int) : List Int := gridL (tVal w zs r0 r1 left top corner) top.length left.length 0
def tCode (w h mx : Int) (zs : List Int) (r0 r1 r2 r3 : Int) (left top : List Int) (corner : Int) : Int :=
 if pValid w h mx zs = false then 1 else if iOk w h mx = false then 11 else if (!rEmpty r0 r1 r2 r3 && rInside r0 r1 r2 r3 0 0 w h) = false then 8
 else if ¬ ((left.length : Int) = r3 - r1 ∧ (top.length : Int) = r2 - r0) then 8
 else if (allIn (w * h * mx) [corner] && allIn (w * h * mx) left && allIn (w * h * mx) top) = false then 2
 else if allIn (w * h * mx) (tAll w zs r0 r1 left top corner) = false then 2 else 0
def tIf (w h mx : Int) (zs : List Int) (r0 r1 r2 r3 : Int) (left top : List Int) (corner x : Int) : Int := if tCode w h mx zs r0 r1 r2 r3 left top corner = 0 then x else 0
def tList (w h mx : Int) (zs : List Int) (r0 r1 r2 r3 : Int) (left top : List Int) (corner : Int) : List Int := if tCode w h mx zs r0 r1 r2 r3 left top corner = 0 then tAll w zs r0 r1 left top corner else []

theorem sumN_bd {f : Nat → Int} {n : Nat} {c : Int} (h : ∀ i, i < n → 0 ≤ f i ∧ f i ≤ c) : 0 ≤ sumN f n ∧ sumN f n ≤ n * c :=
 ⟨sumN_nonneg fun i hi => (h i hi).1, by have := sumN_le (g := fun _ => c) (fun i hi => (h i hi).2); rwa [sumN_const] at this⟩
theorem tPix_bd {w h mx : Int} {zs : List Int} (hv : pValid w h mx zs = true) (r0 r1 : Int) (k j : Nat) : 0 ≤ tPix w zs r0 r1 k j ∧ tPix w zs r0 r1 k j ≤ mx := by
 have hm := (pOk_iff.1 (pValid_iff.1 hv).1).2.2.2.2.2.1
 unfold tPix
 rcases Nat.lt_or_ge ((r1 + k) * w + r0 + j).toNat zs.length with h' | h'
 ·
  rw [List.getD_eq_getElem?_getD, List.getElem?_eq_getElem h']; exact (pValid_iff.1 hv).2.2 _ (List.getElem_mem h')
 rw [List.getD_eq_getElem?_getD, List.getElem?_eq_none h']
 show (0 : Int) ≤ 0 ∧ (0 : Int) ≤ mx
 omega
end
end Go.Proofs.YteejjnhlfgjlaaaGreat
