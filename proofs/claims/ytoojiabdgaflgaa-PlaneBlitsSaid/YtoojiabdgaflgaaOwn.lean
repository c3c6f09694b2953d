/-
  Slices of integers that a call makes itself: what it appends, what it reads, what it hands back.
-/
import Derived.Test.YtoojiabdgaflgaaProg
import Derived.Test.YtoojiabdgaflgaaHeap
import Derived.Maps.AppendAt
import Derived.OwnWalk
namespace Go.Proofs.Ytoojiabdgaflgaa
open Go.RowKit

theorem info_int : (Try.prog.info? 3).map (fun i => (i.zero, i.size, i.bytes)) = some (some (.int .i64 0), 1, 8) := by kernel_rfl

/-- The slice v owns the integers zs, in a block from 'base' on. -/
def Own (base : Nat) (w : World) (v : Value) (zs : List Int) : Prop := w.ownsRow base 3 1 v zs.length (zs.map (Value.int .i64))

theorem Own.nil (base : Nat) (w : World) : Own base w (.slice none 0 0) [] := World.ownsRow_nil w base _ _
theorem Own.kept {base : Nat} {w w' : World} {v : Value} {zs : List Int} (h : Own base w v zs) (hb : Below w.heap.size w w') : Own base w' v zs :=
  World.ownsRow.kept h (grown_of_below (r := none) hb) (by cases v.ownBlock <;> simp)
theorem Own.alloc {base : Nat} {w : World} {v : Value} {zs : List Int} (h : Own base w v zs) (o : Obj) : Own base (w.alloc o) v zs := World.ownsRow.alloc h o
theorem Own.keptBy {base g : Nat} {w w' : World} {v : Value} {zs : List Int} (h : Own base w v zs) (hg : w.grownBy w' (some g)) (hne : v.ownBlock ≠ some g) : Own base w' v zs :=
  World.ownsRow.kept h hg (.inr hne)

/-- Its value, and what a reader sees. -/
theorem Own.form {base : Nat} {w : World} {v : Value} {zs : List Int} (h : Own base w v zs) :
    (v = .slice none 0 0 ∧ zs = []) ∨ ∃ g c, v = .slice (some ⟨g, 0, none⟩) zs.length c ∧ base ≤ g ∧ g < w.heap.size ∧ ∀ i, i < zs.length → w.cell? ⟨g, i, none⟩ = some (.int .i64 (zs.getD i 0)) ∧ w.frozen? ⟨g, i, none⟩ = false := by
  have h' := h
  rcases h.2 with ⟨rfl, h0⟩ | ⟨g, c, cur, rfl, hb, hg, _⟩
  · exact .inl ⟨rfl, List.eq_nil_of_length_eq_zero h0⟩
  · refine .inr ⟨g, c, rfl, hb, lt_of_block hg, fun i hi => ⟨?_, World.ownsRow.frozenAt h' i⟩⟩
    rw [World.ownsRow.cellAt h' i (by omega)]
    simp [hi]

theorem Own.row {base : Nat} {w : World} {v : Value} {zs : List Int} (h : Own base w v zs) : ∃ a c, v = .slice a zs.length c ∧ Row w .i64 a zs.length zs := by
  rcases h.form with ⟨rfl, rfl⟩ | ⟨g, c, rfl, _, _, hc⟩
  · exact ⟨none, 0, rfl, rfl, .inl rfl⟩
  · exact ⟨_, c, rfl, rfl, .inr ⟨g, 0, rfl, fun i hi => by rw [Nat.zero_add]; exact (hc i hi).1⟩⟩

theorem Own.stored {base : Nat} {w : World} {g c : Nat} {zs : List Int} (h : Own base w (.slice (some ⟨g, 0, none⟩) zs.length c) zs) (j : Nat) (z : Int) :
    Own base (w.setCell ⟨g, j, none⟩ (.int .i64 z)) (.slice (some ⟨g, 0, none⟩) (zs.set j z).length c) (zs.set j z) ∧ w.grownBy (w.setCell ⟨g, j, none⟩ (.int .i64 z)) (some g) := by
  have := World.ownsRow.stored h j (.int .i64 z)
  refine ⟨?_, this.2⟩
  unfold Own
  rw [List.map_set, List.length_set]
  exact this.1

theorem Own.base {base base' : Nat} {w : World} {v : Value} {zs : List Int} (h : Own base w v zs) (hb : base' ≤ base) : Own base' w v zs := by
  refine ⟨h.1, ?_⟩
  rcases h.2 with h' | ⟨g, cap, cur, e, h1, h2⟩
  · exact .inl h'
  · exact .inr ⟨g, cap, cur, e, by omega, h2⟩

/-- append of one integer. -/
theorem append_int {ops : Array Oper} {rest : List Oper} {o : Oper} {a : Act} {Q : Exit → Act → World → Prop} {w : World} (hgd : o.guard = none) (s x : Operand)
    (ho : o.op = .call { callee := .builtin .append, args := #[s, x], argTypes := #[22, 22] })
    (base : Nat) (v : Value) (zs : List Int) (z : Int) (b c : Nat) (hs : a.eval s = v) (hx : a.eval x = .slice (some ⟨b, 0, none⟩) 1 c) (hown : Own base w v zs)
    (hc : w.cell? ⟨b, 0, none⟩ = some (.int .i64 z)) (hlen : zs.length ≤ 1000000000000) (hbase : base ≤ w.heap.size)
    (h : ∀ v' w', Own base w' v' (zs ++ [z]) → w.grownBy w' v.ownBlock → (v'.ownBlock = v.ownBlock ∨ v'.ownBlock = some w.heap.size) → wpList Try.prog ops Q rest (a.put o.dst v') w') :
    wpList Try.prog ops Q (o :: rest) a w := by
  obtain ⟨i0, hi, hz0, hz1, hz2⟩ := info_parts info_int
  refine wpList_append_own_at w hgd s x 22 ho base 3 i0 (.int .i64 0) 1 8 Try.underlying22 hi hz0 hz1 hz2 rfl (by decide) v zs.length (zs.map (Value.int .i64)) hs hown ⟨b, 0, none⟩ 1 c [.int .i64 z] hx rfl ?_ ?_ ?_ ?_ hbase ?_
  · intro j u hj
    match j, hj with
    | 0, hj => simp at hj; subst hj; simpa [Addr.add] using hc
  · intro u hu; simp at hu; subst hu; rfl
  · unfold maxLen; omega
  · omega
  · intro v' w' h1 h2 _ h4
    refine h v' w' ?_ h2 h4
    unfold Own
    simpa using h1
end Go.Proofs.Ytoojiabdgaflgaa
