/-
  append of a row to a row that the call owns.
-/
import Derived.Test.YtoojiabdgaflgaaMake
namespace Go.Proofs.Ytoojiabdgaflgaa
open Go.RowKit

/-- append of a row. -/
theorem append_row {ops : Array Oper} {rest : List Oper} {o : Oper} {a : Act} {Q : Exit → Act → World → Prop} {w : World} (hgd : o.guard = none) (s x : Operand)
    (ho : o.op = .call { callee := .builtin .append, args := #[s, x], argTypes := #[22, 22] })
    (base : Nat) (v : Value) (zs : List Int) (b f m c : Nat) (ys : List Int) (hs : a.eval s = v) (hx : a.eval x = .slice (some ⟨b, f, none⟩) m c) (hown : Own base w v zs)
    (hrow : Row w .i64 (some ⟨b, f, none⟩) m ys) (hlen : zs.length + m ≤ 1000000000000) (hbase : base ≤ w.heap.size)
    (h : ∀ v' w', Own base w' v' (zs ++ ys) → w.grownBy w' v.ownBlock → (v'.ownBlock = v.ownBlock ∨ v'.ownBlock = some w.heap.size) → wpList Try.prog ops Q rest (a.put o.dst v') w') :
    wpList Try.prog ops Q (o :: rest) a w := by
  obtain ⟨i0, hi, hz0, hz1, hz2⟩ := info_parts info_int
  have hl := hrow.len
  refine wpList_append_own_at w hgd s x 22 ho base 3 i0 (.int .i64 0) 1 8 Try.underlying22 hi hz0 hz1 hz2 rfl (by decide) v zs.length (zs.map (Value.int .i64)) hs hown ⟨b, f, none⟩ m c (ys.map (Value.int .i64)) hx (by simp [hl]) ?_ ?_ ?_ ?_ hbase ?_
  · intro j u hj
    rw [List.getElem?_map] at hj
    cases hy : ys[j]? with
    | none => rw [hy] at hj; simp at hj
    | some y =>
      rw [hy] at hj; simp at hj; subst hj
      obtain ⟨hlt, _⟩ := List.getElem?_eq_some_iff.1 hy
      have := row_cell hrow (j := j) (by omega)
      rw [List.getD_eq_getElem?_getD, hy] at this
      simp only [Addr.add]
      split
      · rename_i e; subst e; rw [Nat.add_zero] at this; exact this
      · exact this
  · intro u hu
    obtain ⟨y, _, rfl⟩ := List.mem_map.1 hu
    rfl
  · unfold maxLen; omega
  · omega
  · intro v' w' h1 h2 _ h4
    refine h v' w' ?_ h2 h4
    unfold Own
    rw [List.length_append, List.map_append, hl]
    exact h1
end Go.Proofs.Ytoojiabdgaflgaa
