/-
  More on the parts of memory: literals as rows of the call's own; what lay there before.
-/
import Derived.Test.YtoojiabdgaflgaaTk
namespace Go.Proofs.Ytoojiabdgaflgaa
open Go.RowKit

/-- A row laid out of a literal, as the call's own. -/
theorem St.litOwn {B : Nat} {W w : World} {l : List Ch} {rs : List Ro} (h : St B W l rs w) (i : Nat) {b : Nat} (zs : List Int) (hi : l[i]? = some (.cells b (zs.map (Value.int .i64)).toArray 3)) (hn : zs.length ≤ 1000000) :
    St B W (l.set i (.own (.slice (some ⟨b, 0, none⟩) zs.length zs.length) zs)) rs w := by
  have hc := h.all i _ hi
  refine h.upd i hi h.since ?_ (fun _ e => .inl e) (fun _ _ _ => rfl)
  refine ⟨by simp, .inr ⟨b, zs.length, _, rfl, hc.1, hc.2, Nat.le_refl _, by unfold maxLen; omega, by simp, by simpa using List.take_of_length_le (by simp)⟩⟩

/-- Behind an append to nil: the row is a new one. -/
theorem Own.up {B : Nat} {w w' : World} {v : Value} {zs : List Int} (h : Own B w' v zs) (hv : v.ownBlock = none ∨ v.ownBlock = some w.heap.size) : Own w.heap.size w' v zs := by
  refine ⟨h.1, ?_⟩
  rcases h.2 with h' | ⟨g, cap, cur, e, h1, h2⟩
  · exact .inl h'
  · refine .inr ⟨g, cap, cur, e, ?_, h2⟩
    subst e
    rcases hv with e | e
    · cases e
    · cases e; exact Nat.le_refl _
theorem St.farSlc {B : Nat} {W w : World} {l : List Ch} {rs : List Ro} (h : St B W l rs w) (i j : Nat) {a : Option Addr} {n c : Nat} {zs : List Int} {d : Ch} {k : Nat} (hi : l[i]? = some (.own (.slice a n c) zs)) (hj : l[j]? = some d) (hne : i ≠ j) (hk : d.block = some k) : Far a n k := by
  rcases (h.own i hi).form with ⟨e, _⟩ | ⟨g, c', e, _⟩
  · cases e; exact .inl rfl
  · cases e; exact .inr ⟨_, rfl, h.ne i j hi hj hne rfl hk⟩
theorem St.newTape {B : Nat} {W w w' : World} {l : List Ch} {rs : List Ro} (h : St B W l rs w) {k : Nat} (ht : TapeB B w' k) (hb : Below w.heap.size w w') (hk : w.heap.size = k) : St B W (.tape k :: l) rs w' :=
  h.new hb (c := .tape k) ht (fun b e => by cases e; omega)
section
variable {B0 k B : Nat} {W w w' : World} {l l' : List Ch}
theorem Tk.litOwn (h : Tk B0 k B W l w) (i : Nat) {b : Nat} (zs : List Int) (hi : l[i]? = some (.cells b (zs.map (Value.int .i64)).toArray 3)) (hn : zs.length ≤ 1000000) : Tk B0 k B W (l.set i (.own (.slice (some ⟨b, 0, none⟩) zs.length zs.length) zs)) w := h.map (fun _ hs => hs.litOwn i zs hi hn) h.tape
theorem Tk.old (h : Tk B0 k B W l w) {a : Option Addr} {n c : Nat} {zs : List Int} (hs : Slc W a n c zs) (hf : Far a n k) : Slc w a n c zs := by
  obtain ⟨w0, h0, hg⟩ := h.st
  exact h0.old (hs.grown hg hf)
end
end Go.Proofs.Ytoojiabdgaflgaa
