/-
  The store of a whole struct into a box, as one step.
-/
import Derived.Test.YtlidacfokgdlgaaKA
import Derived.Laws.Tables
namespace Go.Proofs.Ytlidacfokgdlgaa
open Go.RowKit
set_option linter.unusedVariables false
theorem St.setRow {B : Nat} {W w : World} {l : List Ch} {rs : List Ro} (h : St B W l rs w) (i : Nat) {b : Nat} {cs : Array Value} {t : TypeId} (hi : l[i]? = some (.cells b cs t)) (cs' : Array Value) :
    St B W (l.set i (.cells b cs' t)) rs (w.setRow b cs') := by
  have hc := h.all i _ hi
  refine h.upd i hi (c' := .cells b cs' t) ⟨h.since.below.trans ⟨rfl, rfl, rfl, ?_, fun k hk => setRow_other _ _ _ _ (by have := hc.1; omega)⟩, ?_⟩ ⟨hc.1, setRow_heap _ _ _ _ _ _ hc.2⟩ (fun _ e => .inl e) (fun k _ hk => setRow_other _ _ _ _ (fun e => hk (by rw [e]; rfl)))
  · simp [World.setRow]
  · have := h.since.size; simpa [World.setRow] using this
theorem St.rowAt {B : Nat} {W w : World} {l : List Ch} {rs : List Ro} (h : St B W l rs w) (i : Nat) {b : Nat} {cs : Array Value} {t : TypeId} (hi : l[i]? = some (.cells b cs t)) : w.heap[b]? = some (.cells cs t (0, 0)) := (h.all i _ hi).2
theorem storeArm {P : Program} {ops : Array Oper} {Q : Exit → Act → World → Prop} {rest : List Oper} {a : Act} {w : World} {d : Option Nat} {T ty t : TypeId} {x y : Operand} {pos : String} {af : _} {gd : _} {b : Nat} {cs cs' : Array Value}
    (hg : w.heap[b]? = some (.cells cs t (0, 0))) (hsz : (P.info? T).map (·.size) = some cs'.size) (ho : cs.size = cs'.size) (h1 : cs'.all (·.oneCell') = true)
    (hx : a.eval x = .pointer (some ⟨b, 0, none⟩)) (hy : a.eval y = .agg cs')
    (hw : Region.wanted { dst := d, op := .store T x y, type := ty, pos := pos, after := af, guard := gd } (yielded ops a.tmps) = true) (h : wpList P ops Q rest (a.put d undef) (w.setRow b cs')) :
    wpList P ops Q ({ dst := d, op := .store T x y, type := ty, pos := pos, after := af, guard := gd } :: rest) a w :=
  wpList_step fun K hK => by
    rw [if_pos hw]
    exact wp_store_row T x y rfl b cs' hx hy t cs hg hsz ho h1 (hK _ _ h)
end Go.Proofs.Ytlidacfokgdlgaa
