/-
  The memory of a method of the tape: the tape lies below the call's own parts.
-/
import Derived.Test.YtoojiabdgaflgaaSep
namespace Go.Proofs.Ytoojiabdgaflgaa
open Go.RowKit

/-- The world W, but for block k, has become w; the parts l are the call's own. -/
structure Tk (B0 k B : Nat) (W : World) (l : List Ch) (w : World) : Prop where
  st : ∃ w0, St B w0 l [] w ∧ W.grownBy w0 (some k)
  tape : TapeB B0 w k
  kB : k < B
  WB : W.heap.size = B
section
variable {B0 k B : Nat} {W w w' : World} {l l' : List Ch}
theorem Tk.map (h : Tk B0 k B W l w) (f : ∀ w0, St B w0 l [] w → St B w0 l' [] w') (ht : TapeB B0 w' k) : Tk B0 k B W l' w' := by
  obtain ⟨w0, hs, hg⟩ := h.st
  exact ⟨⟨w0, f w0 hs, hg⟩, ht, h.kB, h.WB⟩
theorem Tk.init (ht : TapeB B0 W k) (hB : W.heap.size = B) : Tk B0 k B W [] W := ⟨⟨W, St.init hB, ⟨rfl, rfl, rfl, Nat.le_refl _, fun _ _ _ => rfl⟩⟩, ht, by have := ht.lt; omega, hB⟩
theorem Tk.out {α : Prop} (h : Tk B0 k B W l w) (f : ∀ w0, St B w0 l [] w → α) : α := by
  obtain ⟨w0, hs, _⟩ := h.st; exact f w0 hs
theorem Tk.size (h : Tk B0 k B W l w) : B ≤ w.heap.size := h.out fun _ hs => hs.size
theorem Tk.call (h : Tk B0 k B W l w) (hb : Below w.heap.size w w') : Tk B0 k B W l w' := h.map (fun _ hs => hs.call hb) (h.tape.below hb)
theorem Tk.drewN (h : Tk B0 k B W l w) (m : Nat) : Tk B0 k B W l (w.drewN m) := h.call (below_drewN (Below.refl _ _) _)
theorem Tk.drew (h : Tk B0 k B W l w) : Tk B0 k B W l w.drew := h.call (Below.refl _ _).drew
theorem Tk.alloc (h : Tk B0 k B W l w) (cs : Array Value) (t : TypeId) {D : Nat} (hD : w.heap.size = D) : Tk B0 k B W (.cells D cs t :: l) (w.alloc (.cells cs t)) := h.map (fun _ hs => hs.alloc cs t hD) (h.tape.below (below_self _ _))
theorem Tk.grow (h : Tk B0 k B W l w) {v : Value} {zs : List Int} (hb : Below w.heap.size w w') (ho : Own w.heap.size w' v zs) : Tk B0 k B W (.own v zs :: l) w' := h.map (fun _ hs => hs.grow hb ho) (h.tape.below hb)
theorem Tk.made (h : Tk B0 k B W l w) {D n : Nat} {zs : List Int} (hD : w.heap.size = D) (ho : Own D w' (.slice (some ⟨D, 0, none⟩) n n) zs) (hb : Below w.heap.size w w') : Tk B0 k B W (.own (.slice (some ⟨D, 0, none⟩) n n) zs :: l) w' := h.map (fun _ hs => hs.made hD ho hb) (h.tape.below hb)
theorem Tk.setTape (h : Tk B0 k B W l w) {b : Nat} (hb : B ≤ b) (o : Nat) (u : Value) : TapeB B0 (w.setCell ⟨b, o, none⟩ u) k := by
  have h1 := h.tape.1
  have h2 := h.kB
  exact h.tape.keep (Below.heap_setCell _ _ _ _ (by simp; omega)) (fun j hj => Below.heap_setCell _ _ _ _ (by simp; omega))
theorem Tk.set (h : Tk B0 k B W l w) (i : Nat) {b : Nat} {cs : Array Value} {t : TypeId} (hi : l[i]? = some (.cells b cs t)) (j : Nat) (u : Value) : Tk B0 k B W (l.set i (.cells b (cs.setIfInBounds j u) t)) (w.setCell ⟨b, j, none⟩ u) :=
  h.map (fun _ hs => hs.set i hi j u) (h.setTape (h.out fun _ hs => (hs.all i _ hi).1) _ _)
theorem Tk.store (h : Tk B0 k B W l w) (i : Nat) {g n c : Nat} {zs : List Int} (hi : l[i]? = some (.own (.slice (some ⟨g, 0, none⟩) n c) zs)) (j : Nat) (z : Int) :
    Tk B0 k B W (l.set i (.own (.slice (some ⟨g, 0, none⟩) n c) (zs.set j z))) (w.setCell ⟨g, j, none⟩ (.int .i64 z)) :=
  h.map (fun _ hs => hs.store i hi j z) (h.setTape (h.out fun _ hs => (hs.lt i hi rfl).1) _ _)
theorem Tk.append (h : Tk B0 k B W l w) (i : Nat) {v v' : Value} {zs zs' : List Int} (hi : l[i]? = some (.own v zs)) (ho : Own B w' v' zs') (hg : w.grownBy w' v.ownBlock) (hv : v'.ownBlock = v.ownBlock ∨ v'.ownBlock = some w.heap.size) : Tk B0 k B W (l.set i (.own v' zs')) w' := by
  have h1 := h.tape.1
  have h2 := h.kB
  have h3 := h.tape.lt
  have hlow : ∀ j, j < B → w'.heap[j]? = w.heap[j]? := fun j hj => hg.block j (by have := h.size; omega) (fun e => h.out fun _ hs => by have := (hs.lt i hi e.symm).1; omega)
  exact h.map (fun _ hs => hs.append i hi ho hg hv) (h.tape.keep (hlow k (by omega)) (fun j hj => hlow j (by omega)))
theorem Tk.erase (h : Tk B0 k B W l w) (i : Nat) : Tk B0 k B W (l.eraseIdx i) w := h.map (fun _ hs => hs.erase i) h.tape
theorem Tk.pick (h : Tk B0 k B W l w) (ix : List Nat) (hl : ix.map (fun i => l[i]?) = l'.map some) (hnd : ix.Nodup := by decide) : Tk B0 k B W l' w := h.map (fun _ hs => hs.pick ix hl hnd) h.tape
theorem Tk.cell (h : Tk B0 k B W l w) (i : Nat) {b : Nat} {cs : Array Value} {t : TypeId} (hi : l[i]? = some (.cells b cs t)) (j : Nat) {v : Value} (hv : cs[j]? = some v) : w.cell? ⟨b, j, none⟩ = some v := h.out fun _ hs => hs.cell i hi j hv
theorem Tk.free (h : Tk B0 k B W l w) (i : Nat) {b : Nat} {cs : Array Value} {t : TypeId} (hi : l[i]? = some (.cells b cs t)) (j : Nat) : w.frozen? ⟨b, j, none⟩ = false := h.out fun _ hs => hs.free i hi j
theorem Tk.own (h : Tk B0 k B W l w) (i : Nat) {v : Value} {zs : List Int} (hi : l[i]? = some (.own v zs)) : Own B w v zs := h.out fun _ hs => hs.own i hi
theorem Tk.get (h : Tk B0 k B W l w) (i : Nat) {g n c : Nat} {zs : List Int} (hi : l[i]? = some (.own (.slice (some ⟨g, 0, none⟩) n c) zs)) {j : Nat} (hj : j < zs.length) : w.cell? ⟨g, j, none⟩ = some (.int .i64 (zs.getD j 0)) ∧ w.frozen? ⟨g, j, none⟩ = false := h.out fun _ hs => hs.get i hi hj
theorem Tk.lit (h : Tk B0 k B W l w) (i : Nat) {b : Nat} {t : TypeId} (zs : List Int) (hi : l[i]? = some (.cells b (zs.map (Value.int .i64)).toArray t)) (hn : zs.length ≤ 1000000) : Slc w (some ⟨b, 0, none⟩) zs.length zs.length zs := h.out fun _ hs => hs.lit i zs hi hn
theorem Tk.far (h : Tk B0 k B W l w) (i : Nat) {b : Nat} {cs : Array Value} {t : TypeId} (hi : l[i]? = some (.cells b cs t)) (n : Nat) : Far (some ⟨b, 0, none⟩) n k := .inr ⟨_, rfl, by have := h.out fun _ hs => (hs.all i _ hi).1; have := h.kB; simp; omega⟩
theorem Tk.set4 (h : Tk B0 k B W l w) (i : Nat) {b : Nat} {x0 y0 z0 u0 : Value} {t : TypeId} (hi : l[i]? = some (.cells b #[x0, y0, z0, u0] t)) (x y z u : Value) : Tk B0 k B W (l.set i (.cells b #[x, y, z, u] t)) (Go.Proofs.Ytoojiabdgaflgaa.set4 w b x y z u) := by
  have hb : B ≤ b := h.out fun _ hs => (hs.all i _ hi).1
  have h1 := h.tape.1
  have h2 := h.kB
  exact h.map (fun _ hs => hs.set4 i hi x y z u) (h.tape.keep (set4_other (by omega)) (fun j hj => set4_other (by omega)))
def Ch.notTape : Ch → Bool
  | .tape _ => false
  | _ => true
/-- The tape moves. -/
theorem Tk.next (h : Tk B0 k B W l w) (ht : TapeB B0 w' k) (hg : w.grownBy w' (some k)) (hn : l.all Ch.notTape = true := by rfl) : Tk B0 k B W l w' := by
  obtain ⟨w0, hs, hW⟩ := h.st
  have hkB := h.kB
  obtain ⟨o, ho⟩ : ∃ o, w'.heap[k]? = some o := ⟨_, Array.getElem?_eq_getElem ht.lt⟩
  have h0 : w0.heap.size = B := hs.hB
  let w1 : World := { w0 with heap := w0.heap.setIfInBounds k o }
  have e1 : ∀ j, j ≠ k → w1.heap[j]? = w0.heap[j]? := fun j hj => by
    show (w0.heap.setIfInBounds k o)[j]? = _
    rw [Array.getElem?_setIfInBounds, if_neg (by omega)]
  have e2 : w1.heap[k]? = some o := by
    show (w0.heap.setIfInBounds k o)[k]? = _
    rw [Array.getElem?_setIfInBounds, if_pos rfl, if_pos (by omega)]
  have s1 : w1.heap.size = B := by show (w0.heap.setIfInBounds k o).size = B; rw [Array.size_setIfInBounds]; exact h0
  have hoth : ∀ (i : Nat) (c : Ch) (b : Nat), l[i]? = some c → c.block = some b → w'.heap[b]? = w.heap[b]? := fun i c b hi hb => by
    have := hs.lt i hi hb
    exact hg.block b this.2 (by simp; omega)
  refine ⟨⟨w1, ⟨s1, ⟨⟨hg.os.trans hs.since.below.os, hg.tape.trans hs.since.below.tape, hg.output.trans hs.since.below.output, ?_, fun j hj => ?_⟩, Nat.le_trans hs.size hg.size⟩, fun i c hi => ?_, hs.sep, fun i r hr => by simp at hr⟩, ⟨hW.os, hW.tape, hW.output, by rw [s1, ← h0]; exact hW.size, fun j hj hr => ?_⟩⟩, ht, hkB, h.WB⟩
  · rw [s1]; exact Nat.le_trans hs.size hg.size
  · by_cases hjk : j = k
    · subst hjk; rw [e2, ho]
    · rw [e1 j hjk, ← hs.since.below.block j hj]
      exact hg.block j (by have := hs.size; omega) (by simpa using hjk)
  · have hc := hs.all i c hi
    cases c with
    | cells b cs t => exact ⟨hc.1, by rw [hoth i _ b hi rfl]; exact hc.2⟩
    | own v zs => exact ownsRow_keep (show w.ownsRow B _ _ _ _ _ from hc) (fun b hb => hoth i _ b hi hb)
    | arr e sz v n vs => exact ownsRow_keep (show w.ownsRow B _ _ _ _ _ from hc) (fun b hb => hoth i _ b hi hb)
    | tape k' =>
      have := List.all_eq_true.1 hn _ (List.mem_of_getElem? hi)
      simp [Ch.notTape] at this
  · rw [e1 j (by simpa using hr)]; exact hW.block j hj hr
/-- A callee that moved the tape and made a row. -/
theorem Tk.add (h : Tk B0 k B W l w) (ht : TapeB B0 w' k) (hg : w.grownBy w' (some k)) {v : Value} {zs : List Int} (ho : Own w.heap.size w' v zs) (hn : l.all Ch.notTape = true := by rfl) : Tk B0 k B W (.own v zs :: l) w' := by
  obtain ⟨w1, hs', hW⟩ := (h.next ht hg hn).st
  obtain ⟨w0, hs, _⟩ := h.st
  have hsz := hs.size
  have hb := fun b (hv : v.ownBlock = some b) => (World.ownsRow.lt (show w'.ownsRow _ _ _ _ _ _ from ho) b hv).1
  refine ⟨⟨w1, ?_, hW⟩, ht, h.kB, h.WB⟩
  refine ⟨hs'.hB, hs'.since, fun i c hi => ?_, fun i j c d b hi hj hne hbc hbd => ?_, fun i r hr => by simp at hr⟩
  · cases i with
    | zero => simp at hi; subst hi; exact ho.base hsz
    | succ i => exact hs'.all i c (by simpa using hi)
  · cases i with
    | zero =>
      simp at hi; subst hi
      cases j with
      | zero => exact hne rfl
      | succ j =>
        have h1 := hb b hbc
        have h2 := (hs.lt j (by simpa using hj) hbd).2
        omega
    | succ i =>
      cases j with
      | zero =>
        simp at hj; subst hj
        have h1 := hb b hbd
        have h2 := (hs.lt i (by simpa using hi) hbc).2
        omega
      | succ j => exact hs'.sep i j c d b (by simpa using hi) (by simpa using hj) (by omega) hbc hbd
/-- What is left of a method of the tape. -/
theorem Tk.grown (h : Tk B0 k B W l w) : W.grownBy w (some k) := by
  obtain ⟨w0, hs, hW⟩ := h.st
  exact grown_trans hW (grown_of_below (hs.below))
end
end Go.Proofs.Ytoojiabdgaflgaa
