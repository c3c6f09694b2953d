/-
  Slices of floating point bits as a call reads them; quantized lists: the plain law.
-/
import Derived.Test.YtgpblcddebhphaaDoorIeee3
import Derived.Test.YtgpblcddebhphaaDoorKA
namespace Go.Proofs.YtgpblcddebhphaaDoor
open Go.RowKit
set_option linter.unusedVariables false

/-- What a reader of a slice of bits is told. -/
structure Slu (w : World) (a : Option Addr) (n c : Nat) (us : List Int) : Prop where
  row : Row w .u64 a n us
  nc : n ≤ c
  cap : c ≤ 9223372036854775807
theorem Slu.call {w w' : World} {a : Option Addr} {n c : Nat} {us : List Int} (h : Slu w a n c us) (hb : Below w.heap.size w w') : Slu w' a n c us := ⟨h.row.below hb, h.nc, h.cap⟩
theorem Slu.len {w : World} {a : Option Addr} {n c : Nat} {us : List Int} (h : Slu w a n c us) : us.length = n := h.row.len
/-- Each number of a list is a float's bits. -/
def U64s (us : List Int) : Prop := ∀ j, 0 ≤ us.getD j 0 ∧ us.getD j 0 < 18446744073709551616
def nats (us : List Int) : List Nat := us.map Int.toNat
theorem nats_len (us : List Int) : (nats us).length = us.length := List.length_map _
theorem nats_get (us : List Int) (j : Nat) : (nats us).getD j 0 = (us.getD j 0).toNat := by
  unfold nats; rw [List.getD_eq_getElem?_getD, List.getD_eq_getElem?_getD, List.getElem?_map]; cases us[j]? <;> rfl
theorem Slu.lit {w : World} {b : Nat} (us : List Int) (h : ∀ j, j < us.length → w.cell? ⟨b, j, none⟩ = some (.int .u64 (us.getD j 0))) (hn : us.length ≤ 1000000) : Slu w (some ⟨b, 0, none⟩) us.length us.length us :=
  ⟨⟨rfl, .inr ⟨b, 0, rfl, fun i hi => by rw [Nat.zero_add]; exact h i hi⟩⟩, Nat.le_refl _, by omega⟩
section
variable {B : Nat} {W w w' : World} {l : List Ch} {rs : List Ro}
theorem St.oldU (h : St B W l rs w) {a : Option Addr} {n c : Nat} {us : List Int} (hs : Slu W a n c us) : Slu w a n c us := hs.call h.below
theorem St.litU (h : St B W l rs w) (i : Nat) {b : Nat} {t : TypeId} (us : List Int) (hi : l[i]? = some (.cells b (us.map (Value.int .u64)).toArray t)) (hn : us.length ≤ 1000000) : Slu w (some ⟨b, 0, none⟩) us.length us.length us := by
  refine Slu.lit us (fun j hj => h.cell i hi j ?_) hn
  rw [List.getElem?_toArray, List.getElem?_map, List.getD_eq_getElem?_getD, List.getElem?_eq_getElem hj]; rfl
end

theorem outs_all {ol : List Int} {l : List Nat} {s : Int} (hl : ol.length = l.length) (h : ∀ i, i < l.length → ol.getD i 0 = scV (l.getD i 0) s) : ol = qOuts l s := by
  refine List.ext_getElem? fun i => ?_
  unfold qOuts
  rw [List.getElem?_map]
  by_cases hi : i < l.length
  · have := h i hi
    rw [List.getD_eq_getElem?_getD, List.getD_eq_getElem?_getD, List.getElem?_eq_getElem (by omega), List.getElem?_eq_getElem hi] at this
    rw [List.getElem?_eq_getElem (by omega), List.getElem?_eq_getElem hi]
    simpa using this
  · rw [List.getElem?_eq_none (by omega), List.getElem?_eq_none (by omega)]; rfl
theorem set_get {ol : List Int} {j : Nat} {v : Int} (hj : j < ol.length) (i : Nat) : (ol.set j v).getD i 0 = if i = j then v else ol.getD i 0 := by
  rw [List.getD_eq_getElem?_getD, List.getElem?_set]
  by_cases h : j = i
  · subst h; simp [hj]
  · rw [if_neg h, if_neg (fun e => h e.symm), List.getD_eq_getElem?_getD]
/-- What has been written so far. -/
structure QTo (l : List Nat) (s : Int) (ol : List Int) (j : Nat) : Prop where
  len : ol.length = l.length
  vals : ∀ i, i < j → ol.getD i 0 = scV (l.getD i 0) s
theorem QTo.zero (l : List Nat) (s : Int) (n : Nat) (h : n = l.length) : QTo l s (List.replicate n 0) 0 := ⟨by rw [List.length_replicate, h], fun i hi => by omega⟩
theorem QTo.next {l : List Nat} {s : Int} {ol : List Int} {j : Nat} (h : QTo l s ol j) (hj : j < l.length) : QTo l s (ol.set j (scV (l.getD j 0) s)) (j + 1) :=
  ⟨by rw [List.length_set]; exact h.len, fun i hi => by
    rw [set_get (by rw [h.len]; exact hj)]
    split
    · rename_i e; rw [e]
    · exact h.vals i (by omega)⟩
theorem QTo.best {l : List Nat} {s : Int} {ol : List Int} {j : Nat} (h : QTo l s ol (j + 1)) : ol.getD (qBest l s j) 0 = scV (l.getD (qBest l s j) 0) s := h.vals _ (by have := qBest_lt l s j; omega)
theorem QTo.best' {l : List Nat} {s : Int} {ol : List Int} (h : QTo l s ol l.length) (hl : 0 < l.length) : ol.getD (qBest l s l.length) 0 = scV (l.getD (qBest l s l.length) 0) s := h.vals _ (by have := qBest_lt l s l.length; omega)
theorem qCode_err {l : List Nat} {s : Int} (j : Nat) (hj : j < l.length) (h0 : qErr l s j = 0) (h : scC (l.getD j 0) s ≠ 0) : qErr l s l.length = scC (l.getD j 0) s := by
  have h1 : qErr l s (j + 1) = scC (l.getD j 0) s := by simp only [qErr]; rw [if_neg (by simpa using h0)]
  have key : ∀ k, qErr l s (j + 1 + k) = scC (l.getD j 0) s := by
    intro k
    induction k with
    | zero => exact h1
    | succ k ih => show qErr l s ((j + 1 + k) + 1) = _; simp only [qErr]; rw [if_pos (by rw [ih]; exact h), ih]
  have := key (l.length - (j + 1))
  rwa [show j + 1 + (l.length - (j + 1)) = l.length by omega] at this
theorem qErr_next {l : List Nat} {s : Int} {j : Nat} (h0 : qErr l s j = 0) (h : scC (l.getD j 0) s = 0) : qErr l s (j + 1) = 0 := by simp only [qErr]; rw [if_neg (by simpa using h0)]; exact h

/-- What a call answers with a quantized list. -/
def QPost (l : List Nat) (s : Int) (W : World) (e : Ending) (w' : World) : Prop :=
  ∃ v, e = .returned (.tuple #[v, .int .i64 (qCode l s)]) ∧ Own W.heap.size w' v (qList l s) ∧ Below W.heap.size W w'
theorem q_no {l : List Nat} {s : Int} {W w' : World} {k : Int} (hk : qCode l s = k) (h0 : k ≠ 0) (hb : Below W.heap.size W w') : QPost l s W (.returned (.tuple #[.slice none 0 0, .int .i64 k])) w' := by
  refine ⟨_, by rw [hk], ?_, hb⟩
  have : qList l s = [] := by unfold qList; rw [hk, if_neg h0]
  rw [this]; exact Own.nil _ _
theorem q_yes {l : List Nat} {s : Int} {ol : List Int} {W w' : World} {v : Value} (hk : qCode l s = 0) (ho : QTo l s ol l.length) (h : Own W.heap.size w' v (ol.set (qBest l s l.length) (qTop l s))) (hb : Below W.heap.size W w') : QPost l s W (.returned (.tuple #[v, .int .i64 0])) w' := by
  refine ⟨v, by rw [hk], ?_, hb⟩
  have : qList l s = ol.set (qBest l s l.length) (qTop l s) := by unfold qList; rw [if_pos hk, ← outs_all ho.len ho.vals]
  rw [this]; exact h
theorem qc2 {l : List Nat} {s : Int} (h : s < 0 ∨ 24 < s) : qCode l s = 2 := by unfold qCode; rw [if_pos h]
theorem qc5 {l : List Nat} {s : Int} (h : ¬ (s < 0 ∨ 24 < s)) (h2 : l.length = 0 ∨ 8 < l.length) : qCode l s = 5 := by unfold qCode; rw [if_neg h, if_pos h2]
theorem qcE {l : List Nat} {s : Int} (h : ¬ (s < 0 ∨ 24 < s)) (h2 : ¬ (l.length = 0 ∨ 8 < l.length)) (h3 : qErr l s l.length ≠ 0) : qCode l s = qErr l s l.length := by unfold qCode; rw [if_neg h, if_neg h2, if_pos h3]
theorem qc10 {l : List Nat} {s : Int} (h : ¬ (s < 0 ∨ 24 < s)) (h2 : ¬ (l.length = 0 ∨ 8 < l.length)) (h3 : qErr l s l.length = 0) (h4 : (l.length : Int) < qD l s ∨ qD l s < -(l.length : Int)) : qCode l s = 10 := by unfold qCode; rw [if_neg h, if_neg h2, if_neg (by simpa using h3), if_pos h4]
theorem qc3 {l : List Nat} {s : Int} (h : ¬ (s < 0 ∨ 24 < s)) (h2 : ¬ (l.length = 0 ∨ 8 < l.length)) (h3 : qErr l s l.length = 0) (h4 : ¬ ((l.length : Int) < qD l s ∨ qD l s < -(l.length : Int))) (h5 : 32767 < qTop l s ∨ qTop l s < -32767) : qCode l s = 3 := by unfold qCode; rw [if_neg h, if_neg h2, if_neg (by simpa using h3), if_neg h4, if_pos h5]
theorem qc0 {l : List Nat} {s : Int} (h : ¬ (s < 0 ∨ 24 < s)) (h2 : ¬ (l.length = 0 ∨ 8 < l.length)) (h3 : qErr l s l.length = 0) (h4 : ¬ ((l.length : Int) < qD l s ∨ qD l s < -(l.length : Int))) (h5 : ¬ (32767 < qTop l s ∨ qTop l s < -32767)) : qCode l s = 0 := by unfold qCode; rw [if_neg h, if_neg h2, if_neg (by simpa using h3), if_neg h4, if_neg h5]
end Go.Proofs.YtgpblcddebhphaaDoor
