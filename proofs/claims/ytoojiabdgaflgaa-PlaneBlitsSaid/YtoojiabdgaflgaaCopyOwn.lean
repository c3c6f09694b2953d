/-
  copy into a row that the call made itself.
-/
import Derived.Test.YtoojiabdgaflgaaGen
import Derived.Laws.CopyOwn
namespace Go.Proofs.Ytoojiabdgaflgaa
open Go.RowKit

theorem take_splice {α : Type} (L : List α) (off n : Nat) (cs : List α) (h : off + cs.length ≤ n) (hn : n ≤ L.length) : (splice L off cs).take n = splice (L.take n) off cs := by
  refine List.ext_getElem? fun i => ?_
  unfold splice
  simp only [List.getElem?_take, List.getElem?_append, List.getElem?_drop, List.length_take]
  have e1 : min off L.length = off := by omega
  have e2 : min off (min n L.length) = off := by omega
  rw [e1, e2]
  by_cases h1 : i < off
  · have : i < n := by omega
    simp [h1, this]
  · by_cases h2 : i - off < cs.length
    · have : i < n := by omega
      simp [h1, h2, this]
    · by_cases h3 : i < n
      · have : off + cs.length + (i - off - cs.length) < n := by omega
        simp [h1, h2, h3, this]
      · have : ¬ (off + cs.length + (i - off - cs.length) < n) := by omega
        simp [h1, h2, h3, this]
theorem map_splice {α β : Type} (f : α → β) (L : List α) (off : Nat) (cs : List α) : (splice L off cs).map f = splice (L.map f) off (cs.map f) := by
  unfold splice; simp [List.map_append, List.map_take, List.map_drop]

theorem oper_copy_own {o : Oper} {a : Act} {Q : Exit → Act → World → Prop} {K : Act → World → Prop} {w : World} (d s : Operand)
    (ho : o.op = .call { callee := .builtin .copy, args := #[d, s], argTypes := #[22, 22] })
    (base g off n cp dc m b f sc : Nat) (zs ys : List Int) (hd : a.eval d = .slice (some ⟨g, off, none⟩) m dc) (hs : a.eval s = .slice (some ⟨b, f, none⟩) m sc)
    (hown : Own base w (.slice (some ⟨g, 0, none⟩) n cp) zs) (hrow : Row w .i64 (some ⟨b, f, none⟩) m ys) (hfit : off + m ≤ zs.length)
    (h : ∀ w', Own base w' (.slice (some ⟨g, 0, none⟩) n cp) (splice zs off ys) → w.grownBy w' (some g) → K (a.put o.dst (.int .i64 m)) w') : o.wp Try.prog a w K Q := by
  have hl := hrow.len
  have hlen : (splice zs off ys).length = zs.length := length_splice _ _ _ (by omega)
  rcases hown.2 with ⟨e, _⟩ | ⟨g', cap, cur, e, hb, hg, h1, h2, h3, h4⟩
  · cases e
  cases e
  have hsz : (Try.prog.info? 3).map (·.size) = some 1 := by kernel_rfl
  have hx := hown.1
  simp only [List.length_map, Nat.mul_one] at hx h3 h4
  have hcl : (ys.map (Value.int .i64)).length = m := by rw [List.length_map, hl]
  have hrun := run_copy_row (P := Try.prog) w 22 22 o.type 3 g off m dc ⟨b, f, none⟩ m sc cur 3 (ys.map (Value.int .i64)) Try.underlying22 hsz hg (by rw [hcl]; simp) (fun j v hv => by
    rw [List.getElem?_map] at hv
    cases hy : ys[j]? with
    | none => rw [hy] at hv; simp at hv
    | some y =>
      rw [hy] at hv; simp at hv; subst hv
      obtain ⟨hlt, _⟩ := List.getElem?_eq_some_iff.1 hy
      have := row_cell hrow (j := j) (by omega)
      rw [List.getD_eq_getElem?_getD, hy] at this
      simp only [Addr.add]
      split
      · rename_i e; subst e; rw [Nat.add_zero] at this; exact this
      · exact this) (by rw [hcl]; omega) (by intro v hv; obtain ⟨y, _, rfl⟩ := List.mem_map.1 hv; rfl)
  have e0 : List.take off cur.toList ++ ys.map (Value.int .i64) ++ List.drop (off + (ys.map (Value.int .i64)).length) cur.toList = splice cur.toList off (ys.map (Value.int .i64)) := by unfold splice; rw [List.append_assoc]
  have hsp : (splice cur.toList off (ys.map (Value.int .i64))).length = cur.size := by rw [length_splice _ _ _ (by rw [hcl]; simp; omega)]; simp
  have hfin := h (w.setRow g (splice cur.toList off (ys.map (Value.int .i64))).toArray) (by
    refine ⟨by simp, .inr ⟨g, cp, _, by rw [hlen], hb, setRow_heap w g cur _ 3 _ hg, by omega, h2, by simp only [Array.size, Nat.mul_one]; rw [hsp]; omega, ?_⟩⟩
    show List.take ((splice zs off ys).length * 1) (splice cur.toList off (ys.map (Value.int .i64))) = (splice zs off ys).map (Value.int .i64)
    rw [Nat.mul_one, hlen, take_splice _ _ _ _ (by rw [hcl]; omega) (by simp; omega), h4, map_splice])
    ⟨rfl, rfl, rfl, by simp [World.setRow], fun k _ hk => setRow_other w g k _ (fun e => hk (by rw [e]))⟩
  unfold Oper.wp
  rw [e0] at hrun
  simp [execOp, ho, resolve, invoke, builtin, hd, hs, hrun, Result.andThen, hl]
  exact hfin
end Go.Proofs.Ytoojiabdgaflgaa
