/-
  A plain region operation by operation: a pure operation, one that is unwanted, a call.
-/
import Derived.Test.YtlidacfokgdlgaaTake
namespace Go.Proofs.Ytlidacfokgdlgaa
open Go.RowKit
section
variable {P : Program} {ops : Array Oper} {Q : Exit → Act → World → Prop} {rest : List Oper} {o : Oper} {a : Act} {w w' : World}
/-- The same, closed to whnf. -/
@[irreducible] def wL (P : Program) (ops : Array Oper) (Q : Exit → Act → World → Prop) (rest : List Oper) (a : Act) (w : World) : Prop := wpList P ops Q rest a w
theorem wL_of (h : wpList P ops Q rest a w) : wL P ops Q rest a w := by unfold wL; exact h
theorem wL_to (h : wL P ops Q rest a w) : wpList P ops Q rest a w := by unfold wL at h; exact h
theorem wL_nil (h : Q .normal a w) : wL P ops Q [] a w := wL_of (wpList_nil h)
theorem lsB {v : Value} (h : wL P ops Q rest (a.put o.dst v) w') (hw : Region.wanted o (yielded ops a.tmps) = true := by rfl)
    (hy : (execOp a.eval o).run P w = .ok (.value v) w' := by (go_simp; (try exact ⟨rfl, rfl⟩))) : wL P ops Q (o :: rest) a w :=
  wL_of <| wpList_step fun K hK => by rw [if_pos hw]; unfold Oper.wp; rw [hy]; exact hK _ _ (wL_to h)
theorem lsA {v : Value} (h : wL P ops Q rest (a.put o.dst v) w) (hw : Region.wanted o (yielded ops a.tmps) = true := by rfl)
    (hy : (execOp a.eval o).run P w = .ok (.value v) w := by (go_simp; (try with_reducible rfl))) : wL P ops Q (o :: rest) a w := lsB h hw hy
theorem lsU (h : wL P ops Q rest (a.put o.dst undef) w) (hw : Region.wanted o (yielded ops a.tmps) = false := by rfl) : wL P ops Q (o :: rest) a w := wL_of (wpList_skip hw (wL_to h))
theorem lsC {f : Nat} {args : Array Value} (h : Calls P f args w fun e w' => ∃ u, e = .returned u ∧ wL P ops Q rest (a.put o.dst u) w') (hw : Region.wanted o (yielded ops a.tmps) = true := by rfl)
    (hy : (execOp a.eval o).run P w = .ok (.enter f args) w := by (go_simp; (try with_reducible rfl); (try exact ⟨rfl, rfl⟩))) : wL P ops Q (o :: rest) a w :=
  wL_of <| wpList_step fun K hK => by
    rw [if_pos hw]; unfold Oper.wp; rw [hy]
    show Calls P f args w _
    refine Calls.mono h fun e w'' he => ?_
    obtain ⟨u, rfl, hu⟩ := he
    exact hK _ _ (wL_to hu)
end
end Go.Proofs.Ytlidacfokgdlgaa
