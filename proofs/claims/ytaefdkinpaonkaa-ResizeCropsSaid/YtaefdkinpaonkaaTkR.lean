/-
  The memory of a method of the tape that makes tables: the parts, the frozen rows, the tape.
-/
import Derived.Test.YtaefdkinpaonkaaTaps2
import Derived.Test.YtaefdkinpaonkaaArr2
namespace Go.Proofs.Ytaefdkinpaonkaa
open Go.RowKit
set_option linter.unusedVariables false

structure TkR (B0 k B : Nat) (W : World) (l : List Ch) (rs : List Ro) (w : World) : Prop where
  st : ∃ w0, St B w0 l rs w ∧ W.grownBy w0 (some k)
  tape : TapeB B0 w k
  kB : k < B
  WB : W.heap.size = B
  new : ∀ r ∈ rs, NewR B r
section
variable {B0 k B : Nat} {W w w' : World} {l l' : List Ch} {rs rs' : List Ro}
theorem TkR.map (h : TkR B0 k B W l rs w) (f : ∀ w0, St B w0 l rs w → St B w0 l' rs' w') (ht : TapeB B0 w' k) (hn : ∀ r ∈ rs', NewR B r) : TkR B0 k B W l' rs' w' := by
  obtain ⟨w0, hs, hg⟩ := h.st
  exact ⟨⟨w0, f w0 hs, hg⟩, ht, h.kB, h.WB, hn⟩
theorem TkR.init (ht : TapeB B0 W k) (hB : W.heap.size = B) : TkR B0 k B W [] [] W := ⟨⟨W, St.init hB, ⟨rfl, rfl, rfl, Nat.le_refl _, fun _ _ _ => rfl⟩⟩, ht, by have := ht.lt; omega, hB, fun r hr => by simp at hr⟩
theorem TkR.out {α : Prop} (h : TkR B0 k B W l rs w) (f : ∀ w0, St B w0 l rs w → α) : α := by
  obtain ⟨w0, hs, _⟩ := h.st; exact f w0 hs
theorem TkR.size (h : TkR B0 k B W l rs w) : B ≤ w.heap.size := h.out fun _ hs => hs.size
theorem TkR.call (h : TkR B0 k B W l rs w) (hb : Below w.heap.size w w') : TkR B0 k B W l rs w' := h.map (fun _ hs => hs.call hb) (h.tape.below hb) h.new
theorem TkR.grown (h : TkR B0 k B W l rs w) : W.grownBy w (some k) := by
  obtain ⟨w0, hs, hg⟩ := h.st
  have hb := hs.below
  have h0 := hs.hB
  have h1 := h.WB
  refine ⟨by rw [← hg.os]; exact hb.os, by rw [← hg.tape]; exact hb.tape, by rw [← hg.output]; exact hb.output, Nat.le_trans hg.size hb.size, fun b hb' hk => ?_⟩
  rw [hb.block b (by omega)]
  exact hg.block b hb' hk
theorem TkR.setTape (h : TkR B0 k B W l rs w) {b : Nat} (hb : B ≤ b) (o : Nat) (u : Value) : TapeB B0 (w.setCell ⟨b, o, none⟩ u) k := by
  have h1 := h.tape.1
  have h2 := h.kB
  exact h.tape.keep (Below.heap_setCell _ _ _ _ (by simp; omega)) (fun j hj => Below.heap_setCell _ _ _ _ (by simp; omega))
theorem TkR.storeTap (h : TkR B0 k B W l rs w) (i : Nat) {e : TypeId} {sz g n c : Nat} {vs : List Value} (hi : l[i]? = some (.arr e sz (.slice (some ⟨g, 0, none⟩) n c) n vs)) (j : Nat) (u : Value) :
    TkR B0 k B W (l.set i (.arr e sz (.slice (some ⟨g, 0, none⟩) n c) n (vs.set j u))) rs (w.setCell ⟨g, j, none⟩ u) :=
  h.map (fun _ hs => hs.storeTap i hi j u) (h.setTape (h.out fun _ hs => (hs.lt i hi rfl).1) _ _) h.new
theorem TkR.pick (h : TkR B0 k B W l rs w) (ix : List Nat) (hl : ix.map (fun i => l[i]?) = l'.map some) (hnd : ix.Nodup := by decide) : TkR B0 k B W l' rs w := h.map (fun _ hs => hs.pick ix hl hnd) h.tape h.new
theorem TkR.lay (h : TkR B0 k B W l rs w) (i : Nat) {a : Option Addr} {n c : Nat} {zs : List Int} (hi : l[i]? = some (.own (.slice a n c) zs)) : NewR B ⟨a, n, c, zs⟩ := h.out fun _ hs => hs.lay i hi
theorem TkR.freeze (h : TkR B0 k B W l rs w) (i : Nat) {a : Option Addr} {n c : Nat} {zs : List Int} (hi : l[i]? = some (.own (.slice a n c) zs)) : TkR B0 k B W (l.eraseIdx i) (⟨a, n, c, zs⟩ :: rs) w := h.map (fun _ hs => hs.freeze i hi) h.tape fun r hr => by
    rcases List.mem_cons.1 hr with rfl | hr
    · exact h.lay i hi
    · exact h.new r hr
theorem TkR.arrOfT (h : TkR B0 k B W l rs w) (i : Nat) {e : TypeId} {sz : Nat} {v : Value} {n : Nat} {vs : List Value} (hi : l[i]? = some (.arr e sz v n vs)) : w.ownsRow B e sz v n vs := h.out fun _ hs => hs.all i _ hi
theorem TkR.outT (h : TkR B0 k B W l rs w) (i : Nat) {v : Value} {n : Nat} {tp : List (Int × Ro)} (hi : l[i]? = some (.arr 32 2 v n (tapV tp))) (hq : TQ B rs tp) : OwnT B w v (tapD tp) := h.out fun _ hs => hs.outT i hi hq
theorem TkR.tapCell (h : TkR B0 k B W l rs w) (i : Nat) {e : TypeId} {g n c : Nat} {tp : List (Int × Ro)} (hi : l[i]? = some (.arr e 2 (.slice (some ⟨g, 0, none⟩) n c) n (tapV tp))) {j : Nat} (hj : j < tp.length) :
    ∃ u u', w.cell? ⟨g, j * 2, none⟩ = some u ∧ w.frozen? ⟨g, j * 2, none⟩ = false ∧ w.cell? ⟨g, j * 2 + 1, none⟩ = some u' ∧ w.frozen? ⟨g, j * 2 + 1, none⟩ = false := h.out fun _ hs => hs.tapCell i hi hj
theorem TkR.addT' (h : TkR B0 k B W l rs w) (hb : Below w.heap.size w w') {v : Value} {ts : List (Int × List Int)} (ho : OwnT w.heap.size w' v ts) :
    ∃ tp R a c, v = .slice a ts.length c ∧ tapD tp = ts ∧ TQ B R tp ∧ (∀ tp', TQ B rs tp' → TQ B R tp') ∧ TkR B0 k B W (.arr 32 2 (.slice a ts.length c) ts.length (tapV tp) :: l) R w' := by
  obtain ⟨a, c, rfl, _⟩ := ho.read
  obtain ⟨w0, hs, hg⟩ := h.st
  obtain ⟨tp, h1, h2, h3⟩ := hs.addT hb ho
  have e : tp.length = ts.length := by rw [← h1, tapD_len]
  rw [e] at h3
  refine ⟨tp, _, a, c, rfl, h1, h2, fun tp' h => h.more _, ⟨⟨w0, h3, hg⟩, h.tape.below hb, h.kB, h.WB, fun r hr => ?_⟩⟩
  rcases List.mem_append.1 hr with hr | hr
  · obtain ⟨p, hp, rfl⟩ := List.mem_map.1 hr
    exact (h2 p hp).2
  · exact h.new r hr
/-- The tape moves. -/
theorem TkR.next (h : TkR B0 k B W l rs w) (ht : TapeB B0 w' k) (hg : w.grownBy w' (some k)) (hn : l.all Ch.notTape = true := by rfl) : TkR B0 k B W l rs w' := by
  obtain ⟨w0, hs, hW⟩ := h.st
  have hkB := h.kB
  obtain ⟨o, ho⟩ : ∃ o, w'.heap[k]? = some o := ⟨_, Array.getElem?_eq_getElem ht.lt⟩
  have h0 : w0.heap.size = B := hs.hB
  let w1 : World := { w0 with heap := w0.heap.setIfInBounds k o }
  have e1 : ∀ j, j ≠ k → w1.heap[j]? = w0.heap[j]? := fun j hj => by
    show (w0.heap.setIfInBounds k o)[j]? = _
    rw [Array.getElem?_setIfInBounds, if_neg (by omega)]
  have e2 : w1.heap[k]? = some o := by
    show (w0.heap.setIfInBounds k o)[k]? = _
    rw [Array.getElem?_setIfInBounds, if_pos rfl, if_pos (by omega)]
  have s1 : w1.heap.size = B := by show (w0.heap.setIfInBounds k o).size = B; rw [Array.size_setIfInBounds]; exact h0
  have hoth : ∀ (i : Nat) (c : Ch) (b : Nat), l[i]? = some c → c.block = some b → w'.heap[b]? = w.heap[b]? := fun i c b hi hb => by
    have := hs.lt i hi hb
    exact hg.block b this.2 (by simp; omega)
  refine ⟨⟨w1, ⟨s1, ⟨⟨hg.os.trans hs.since.below.os, hg.tape.trans hs.since.below.tape, hg.output.trans hs.since.below.output, ?_, fun j hj => ?_⟩, Nat.le_trans hs.size hg.size⟩, fun i c hi => ?_, hs.sep, fun i r hr => ⟨(hs.ro i r hr).1.grown hg ((h.new r (List.mem_of_getElem? hr)).far hkB), (hs.ro i r hr).2⟩⟩, ⟨hW.os, hW.tape, hW.output, by rw [s1, ← h0]; exact hW.size, fun j hj hr => ?_⟩⟩, ht, hkB, h.WB, h.new⟩
  · rw [s1]; exact Nat.le_trans hs.size hg.size
  · by_cases hjk : j = k
    · subst hjk; rw [e2, ho]
    · rw [e1 j hjk, ← hs.since.below.block j hj]
      exact hg.block j (by have := hs.size; omega) (by simpa using hjk)
  · have hc := hs.all i c hi
    cases c with
    | cells b cs t => exact ⟨hc.1, by rw [hoth i _ b hi rfl]; exact hc.2⟩
    | own v zs => exact ownsRow_keep (show w.ownsRow B _ _ _ _ _ from hc) (fun b hb => hoth i _ b hi hb)
    | arr e sz v n vs => exact ownsRow_keep (show w.ownsRow B _ _ _ _ _ from hc) (fun b hb => hoth i _ b hi hb)
    | tape k' =>
      have := List.all_eq_true.1 hn _ (List.mem_of_getElem? hi)
      simp [Ch.notTape] at this
    | blk b o => exact ⟨hc.1, by rw [hoth i _ b hi rfl]; exact hc.2⟩
  · rw [e1 j (by simpa using hr)]; exact hW.block j hj hr
theorem TkR.add (h : TkR B0 k B W l rs w) (ht : TapeB B0 w' k) (hg : w.grownBy w' (some k)) {v : Value} {zs : List Int} (ho : Own w.heap.size w' v zs) (hn : l.all Ch.notTape = true := by rfl) : TkR B0 k B W (.own v zs :: l) rs w' := by
  obtain ⟨w1, hs', hW⟩ := (h.next ht hg hn).st
  obtain ⟨w0, hs, _⟩ := h.st
  have hsz := hs.size
  have hb := fun b (hv : v.ownBlock = some b) => (World.ownsRow.lt (show w'.ownsRow _ _ _ _ _ _ from ho) b hv).1
  refine ⟨⟨w1, ?_, hW⟩, ht, h.kB, h.WB, h.new⟩
  refine ⟨hs'.hB, hs'.since, fun i c hi => ?_, fun i j c d b hi hj hne hbc hbd => ?_, fun i r hr => ⟨(hs'.ro i r hr).1, fun j c b hj hbk => ?_⟩⟩
  · cases i with
    | zero => simp at hi; subst hi; exact ho.base hsz
    | succ i => exact hs'.all i c (by simpa using hi)
  · cases i with
    | zero =>
      simp at hi; subst hi
      cases j with
      | zero => exact hne rfl
      | succ j =>
        have h1 := hb b hbc
        have h2 := (hs.lt j (by simpa using hj) hbd).2
        omega
    | succ i =>
      cases j with
      | zero =>
        simp at hj; subst hj
        have h1 := hb b hbd
        have h2 := (hs.lt i (by simpa using hi) hbc).2
        omega
      | succ j => exact hs'.sep i j c d b (by simpa using hi) (by simpa using hj) (by omega) hbc hbd
  · cases j with
    | zero => simp at hj; subst hj; exact (hs.ro i r hr).1.far (hb b hbk)
    | succ j => exact (hs'.ro i r hr).2 j c b (by simpa using hj) hbk
theorem gen_vcode {P : Program} {c : Code} {Q : Exit → Act → World → Prop} {a : Act} (h : TkR B0 k B W l rs w) (q : ∀ w', TkR B0 k B W l rs w' → c.wp P Q a w') : c.wp P Q a w := q w h
theorem gen_vlist {P : Program} {ops : Array Oper} {Q : Exit → Act → World → Prop} {o : List Oper} {a : Act} (h : TkR B0 k B W l rs w) (q : ∀ w', TkR B0 k B W l rs w' → wpList P ops Q o a w') : wpList P ops Q o a w := q w h
theorem gen_vcalls {P : Program} {f : Nat} {args : Array Value} {post : Ending → World → Prop} (h : TkR B0 k B W l rs w) (q : ∀ w', TkR B0 k B W l rs w' → Calls P f args w' post) : Calls P f args w post := q w h
end
end Go.Proofs.Ytaefdkinpaonkaa
