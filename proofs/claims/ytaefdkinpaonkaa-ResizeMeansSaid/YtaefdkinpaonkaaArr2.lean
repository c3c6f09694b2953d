/-
  Slices of any kind of numbers in the walks of the tape's methods.
-/
import Derived.Test.YtaefdkinpaonkaaKA
namespace Go.Proofs.Ytaefdkinpaonkaa
open Go.RowKit
set_option linter.unusedVariables false

section
variable {B0 k B : Nat} {W w : World} {l : List Ch}
theorem gen_ucode {P : Program} {c : Code} {Q : Exit → Act → World → Prop} {a : Act} (h : Tk B0 k B W l w) (q : ∀ w', Tk B0 k B W l w' → c.wp P Q a w') : c.wp P Q a w := q w h
theorem gen_ulist {P : Program} {ops : Array Oper} {Q : Exit → Act → World → Prop} {o : List Oper} {a : Act} (h : Tk B0 k B W l w) (q : ∀ w', Tk B0 k B W l w' → wpList P ops Q o a w') : wpList P ops Q o a w := q w h
theorem gen_ucalls {P : Program} {f : Nat} {args : Array Value} {post : Ending → World → Prop} (h : Tk B0 k B W l w) (q : ∀ w', Tk B0 k B W l w' → Calls P f args w' post) : Calls P f args w post := q w h
end
theorem St.litArr2 {B : Nat} {W w : World} {l : List Ch} {rs : List Ro} (h : St B W l rs w) (i : Nat) {b : Nat} {t : TypeId} (sz n : Nat) (vs : List Value) (hi : l[i]? = some (.cells b vs.toArray t)) (hl : vs.length = n * sz) (hn : n ≤ 1000000) :
    St B W (l.set i (.arr t sz (.slice (some ⟨b, 0, none⟩) n n) n vs)) rs w := by
  have hc := h.all i _ hi
  refine h.upd i hi h.since ?_ (fun _ e => .inl e) (fun _ _ _ => rfl)
  exact ⟨hl, .inr ⟨b, n, _, rfl, hc.1, hc.2, Nat.le_refl _, by unfold maxLen; omega, by simpa using hl, by rw [List.take_of_length_le (by simp; omega)]⟩⟩
theorem ownsRow_up2 {w : World} {B B' : Nat} {e : TypeId} {sz n : Nat} {v : Value} {vs : List Value} (h : w.ownsRow B e sz v n vs) (hB : B' ≤ B) : w.ownsRow B' e sz v n vs := by
  refine ⟨h.1, ?_⟩
  rcases h.2 with h' | ⟨g, cap, cur, e, h1, h2⟩
  · exact .inl h'
  · exact .inr ⟨g, cap, cur, e, Nat.le_trans hB h1, h2⟩
section
variable {B : Nat} {W w w' : World} {l : List Ch} {rs : List Ro}
/-- A slice that a callee made while it also changed a part. -/
theorem St.addE2 (h : St B W l rs w) (h' : St B W l rs w') {e : TypeId} {sz n : Nat} {v : Value} {vs : List Value} (ho : w'.ownsRow w.heap.size e sz v n vs) : St B W (.arr e sz v n vs :: l) rs w' :=
  h.newOf h' (c := .arr e sz v n vs) (ownsRow_up2 ho h.size) (fun _ hv => (World.ownsRow.lt ho _ hv).1)
end
section
variable {B0 k B : Nat} {W w w' : World} {l l' : List Ch}
theorem Tk.litArr2 (h : Tk B0 k B W l w) (i : Nat) {b : Nat} {t : TypeId} (sz n : Nat) (vs : List Value) (hi : l[i]? = some (.cells b vs.toArray t)) (hl : vs.length = n * sz) (hn : n ≤ 1000000) :
    Tk B0 k B W (l.set i (.arr t sz (.slice (some ⟨b, 0, none⟩) n n) n vs)) w := h.map (fun _ hs => hs.litArr2 i sz n vs hi hl hn) h.tape
theorem Tk.addE2 (h : Tk B0 k B W l w) (ht : TapeB B0 w' k) (hg : w.grownBy w' (some k)) {e : TypeId} {sz n : Nat} {v : Value} {vs : List Value} (ho : w'.ownsRow w.heap.size e sz v n vs) (hn : l.all Ch.notTape = true := by rfl) : Tk B0 k B W (.arr e sz v n vs :: l) w' := by
  obtain ⟨w1, hs', hW⟩ := (h.next ht hg hn).st
  obtain ⟨w0, hs, _⟩ := h.st
  have hsz := hs.size
  have hb := fun b (hv : v.ownBlock = some b) => (World.ownsRow.lt ho b hv).1
  refine ⟨⟨w1, ?_, hW⟩, ht, h.kB, h.WB⟩
  refine ⟨hs'.hB, hs'.since, fun i c hi => ?_, fun i j c d b hi hj hne hbc hbd => ?_, fun i r hr => by simp at hr⟩
  · cases i with
    | zero => simp at hi; subst hi; exact ownsRow_up2 ho hsz
    | succ i => exact hs'.all i c (by simpa using hi)
  · cases i with
    | zero =>
      simp at hi; subst hi
      cases j with
      | zero => exact hne rfl
      | succ j =>
        have h1 := hb b hbc
        have h2 := (hs.lt j (by simpa using hj) hbd).2
        omega
    | succ i =>
      cases j with
      | zero =>
        simp at hj; subst hj
        have h1 := hb b hbd
        have h2 := (hs.lt i (by simpa using hi) hbc).2
        omega
      | succ j => exact hs'.sep i j c d b (by simpa using hi) (by simpa using hj) (by omega) hbc hbd
end
section
variable {B0 k B : Nat} {W w w' : World} {l l' : List Ch} {rs : List Ro}
theorem St.arrOf (h : St B W l rs w) (i : Nat) {e : TypeId} {sz : Nat} {v : Value} {n : Nat} {vs : List Value} (hi : l[i]? = some (.arr e sz v n vs)) : w.ownsRow B e sz v n vs := h.all i _ hi
theorem Tk.arrOf (h : Tk B0 k B W l w) (i : Nat) {e : TypeId} {sz : Nat} {v : Value} {n : Nat} {vs : List Value} (hi : l[i]? = some (.arr e sz v n vs)) : w.ownsRow B e sz v n vs := h.out fun _ hs => hs.all i _ hi
end
end Go.Proofs.Ytaefdkinpaonkaa
