/-
  Slices of structs in the walks of the tape's methods; what a callee made while it moved the tape.
-/
import Derived.Test.YtnnpnljdefmmcaaSane14
import Derived.Test.YtnnpnljdefmmcaaPwMake
namespace Go.Proofs.Ytnnpnljdefmmcaa
open Go.RowKit
set_option linter.unusedVariables false

section
variable {B : Nat} {W w w' : World} {l : List Ch} {rs : List Ro}
theorem St.news (h : St B W l rs w) (i : Nat) {b : Nat} {t : TypeId} (vs : List Value) (hi : l[i]? = some (.cells b vs.toArray t)) : ∀ j u, vs[j]? = some u → w.cell? ⟨b, j, none⟩ = some u := fun j u hj => h.cell i hi j (by simpa using hj)
/-- A slice that a callee made while it also changed a part. -/
theorem St.addE (h : St B W l rs w) (h' : St B W l rs w') {e : TypeId} {sz n : Nat} {v : Value} {vs : List Value} (ho : w'.ownsRow w.heap.size e sz v n vs) : St B W (.arr e sz v n vs :: l) rs w' :=
  h.newOf h' (c := .arr e sz v n vs) (ownsRow_up ho h.size) (fun _ hv => (World.ownsRow.lt ho _ hv).1)
end
section
variable {B0 k B : Nat} {W w w' : World} {l l' : List Ch}
theorem Tk.litArr (h : Tk B0 k B W l w) (i : Nat) {b : Nat} {t : TypeId} (sz n : Nat) (vs : List Value) (hi : l[i]? = some (.cells b vs.toArray t)) (hl : vs.length = n * sz) (hn : n ≤ 1000000) :
    Tk B0 k B W (l.set i (.arr t sz (.slice (some ⟨b, 0, none⟩) n n) n vs)) w := h.map (fun _ hs => hs.litArr i sz n vs hi hl hn) h.tape
theorem Tk.news (h : Tk B0 k B W l w) (i : Nat) {b : Nat} {t : TypeId} (vs : List Value) (hi : l[i]? = some (.cells b vs.toArray t)) : ∀ j u, vs[j]? = some u → w.cell? ⟨b, j, none⟩ = some u := fun j u hj => h.cell i hi j (by simpa using hj)
theorem Tk.arrE (h : Tk B0 k B W l w) (i : Nat) {e : TypeId} {sz : Nat} {v : Value} {n : Nat} {vs : List Value} (hi : l[i]? = some (.arr e sz v n vs)) : w.ownsRow B e sz v n vs := h.out fun _ hs => hs.arrE i hi
theorem Tk.appendE (h : Tk B0 k B W l w) (i : Nat) {e : TypeId} {sz : Nat} {v v' : Value} {n n' : Nat} {vs vs' : List Value} (hi : l[i]? = some (.arr e sz v n vs)) (ho : w'.ownsRow B e sz v' n' vs') (hg : w.grownBy w' v.ownBlock) (hv : v'.ownBlock = v.ownBlock ∨ v'.ownBlock = some w.heap.size) : Tk B0 k B W (l.set i (.arr e sz v' n' vs')) w' := by
  have h1 := h.tape.1
  have h2 := h.kB
  have h3 := h.tape.lt
  have hlow : ∀ j, j < B → w'.heap[j]? = w.heap[j]? := fun j hj => hg.block j (by have := h.size; omega) (fun e => h.out fun _ hs => by have := (hs.lt i hi e.symm).1; omega)
  exact h.map (fun _ hs => hs.appendE i hi ho hg hv) (h.tape.keep (hlow k (by omega)) (fun j hj => hlow j (by omega)))
theorem Tk.arrNilE (h : Tk B0 k B W l w) (e : TypeId) (sz : Nat) : Tk B0 k B W (.arr e sz (.slice none 0 0) 0 [] :: l) w := h.map (fun _ hs => hs.arrNilE e sz) h.tape
theorem Tk.addE (h : Tk B0 k B W l w) (ht : TapeB B0 w' k) (hg : w.grownBy w' (some k)) {e : TypeId} {sz n : Nat} {v : Value} {vs : List Value} (ho : w'.ownsRow w.heap.size e sz v n vs) (hn : l.all Ch.notTape = true := by rfl) : Tk B0 k B W (.arr e sz v n vs :: l) w' := by
  obtain ⟨w1, hs', hW⟩ := (h.next ht hg hn).st
  obtain ⟨w0, hs, _⟩ := h.st
  have hsz := hs.size
  have hb := fun b (hv : v.ownBlock = some b) => (World.ownsRow.lt ho b hv).1
  refine ⟨⟨w1, ?_, hW⟩, ht, h.kB, h.WB⟩
  refine ⟨hs'.hB, hs'.since, fun i c hi => ?_, fun i j c d b hi hj hne hbc hbd => ?_, fun i r hr => by simp at hr⟩
  · cases i with
    | zero => simp at hi; subst hi; exact ownsRow_up ho hsz
    | succ i => exact hs'.all i c (by simpa using hi)
  · cases i with
    | zero =>
      simp at hi; subst hi
      cases j with
      | zero => exact hne rfl
      | succ j =>
        have h1 := hb b hbc
        have h2 := (hs.lt j (by simpa using hj) hbd).2
        omega
    | succ i =>
      cases j with
      | zero =>
        simp at hj; subst hj
        have h1 := hb b hbd
        have h2 := (hs.lt i (by simpa using hi) hbc).2
        omega
      | succ j => exact hs'.sep i j c d b (by simpa using hi) (by simpa using hj) (by omega) hbc hbd
end
theorem info_op : (Try.prog.info? 60).map (fun i => (i.zero, i.size, i.bytes)) = some (some (.agg #[.int .i64 0, .int .i64 0]), 2, 16) := by kernel_rfl
/-- A program that a method of the tape made. -/
def OpsPost (P : List (Int × Int) → Prop) (B0 k : Nat) (W : World) (e : Ending) (w' : World) : Prop :=
  ∃ v L, e = .returned v ∧ P L ∧ 1 ≤ L.length ∧ L.length ≤ 20 ∧ w'.ownsRow W.heap.size 60 2 v L.length (prV L) ∧ TapeB B0 w' k ∧ W.grownBy w' (some k)
def OpsIs (two : Bool) (L : List (Int × Int)) : Prop := ∃ n, n ≤ 3 ∧ OpsM two n L
end Go.Proofs.Ytnnpnljdefmmcaa
