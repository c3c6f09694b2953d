/-
  The needed columns grow with the range; a tile is named if it has a needed column and a needed row: the plain law.
-/
import Derived.Test.YtlidacfokgdlgaaKL
namespace Go.Proofs.Ytlidacfokgdlgaa
open Go.RowKit
set_option linter.unusedVariables false

theorem hasL_iff {l : List Int} {n : Int} : hasL l n = true ↔ n ∈ l := by
  unfold hasL; rw [List.any_eq_true]
  constructor
  · rintro ⟨x, hx, h⟩; have : x = n := by simpa using h
    subst this; exact hx
  · exact fun h => ⟨n, h, by simp⟩
theorem getD_in {l : List Int} {i : Nat} (hi : i < l.length) : l.getD i 0 ∈ l := by
  rw [List.getD_eq_getElem?_getD, List.getElem?_eq_getElem hi]; exact List.getElem_mem hi
/-- Ascending below a bound. -/
def AscL (l : List Int) (b : Int) : Prop := (∀ v, v ∈ l → v < b) ∧ ∀ i, i + 1 < l.length → l.getD i 0 < l.getD (i + 1) 0
theorem AscL.snoc {l : List Int} {b v c : Int} (h : AscL l b) (h1 : b ≤ v) (h2 : v < c) : AscL (l ++ [v]) c := by
  refine ⟨fun x hx => ?_, fun i hi => ?_⟩
  · rcases List.mem_append.1 hx with hx | hx
    · have := h.1 x hx; omega
    · have : x = v := by simpa using hx
      omega
  · rw [List.length_append, List.length_singleton] at hi
    rw [List.getD_eq_getElem?_getD, List.getD_eq_getElem?_getD, List.getElem?_append_left (by omega)]
    by_cases h' : i + 1 < l.length
    · rw [List.getElem?_append_left h', ← List.getD_eq_getElem?_getD, ← List.getD_eq_getElem?_getD]; exact h.2 i h'
    · have e : i + 1 = l.length := by omega
      rw [e, List.getElem?_append_right (Nat.le_refl _), ← List.getD_eq_getElem?_getD]
      have := h.1 _ (getD_in (l := l) (i := i) (by omega))
      simp only [Nat.sub_self, List.getElem?_cons_zero, Option.getD_some]
      omega
theorem AscL.more {l : List Int} {b c : Int} (h : AscL l b) (h1 : b ≤ c) : AscL l c := ⟨fun v hv => by have := h.1 v hv; omega, h.2⟩
theorem outL_asc (P : Nat → Bool) : ∀ n : Nat, AscL (outL P n) (n : Int)
  | 0 => ⟨fun v hv => (nomatch hv), fun i hi => absurd hi (Nat.not_lt_zero _)⟩
  | n + 1 => by
    simp only [outL]
    split
    · exact (outL_asc P n).snoc (Int.le_refl _) (by omega)
    · exact (outL_asc P n).more (by omega)
section
variable {kd sb ep ef kw kh : Int} {wn rn cn : Nat} {sh sh2 : Int} {xn yn : Nat} {bins : Int} {on : Nat} {mx : Int} {X Y : Tbl}
theorem stCol_asc {n a b : Int} {i : Nat} (h : i + 1 < (stCol kd sb ep ef kw kh wn rn cn sh sh2 xn yn bins on mx X Y n a b).length) :
    (stCol kd sb ep ef kw kh wn rn cn sh sh2 xn yn bins on mx X Y n a b).getD i 0 < (stCol kd sb ep ef kw kh wn rn cn sh sh2 xn yn bins on mx X Y n a b).getD (i + 1) 0 := by
  unfold stCol ndL at h ⊢
  by_cases hf : stFine kd sb ep ef kw kh wn rn cn sh sh2 xn yn bins on mx X Y n a b = true
  · rw [if_pos hf] at h ⊢; exact (outL_asc _ _).2 i h
  · rw [if_neg hf] at h; simp at h
theorem stCol_mem {n a b v : Int} (h : v ∈ stCol kd sb ep ef kw kh wn rn cn sh sh2 xn yn bins on mx X Y n a b) : 0 ≤ v ∧ v < n := ndL_mem h
theorem stCol_len {n a b : Int} (hn : n ≤ 128) : (stCol kd sb ep ef kw kh wn rn cn sh sh2 xn yn bins on mx X Y n a b).length ≤ 128 := by
  unfold stCol ndL
  split
  · have := outL_len (fun m => mkTo kd (if kd = 2 then (rn : Int) else kw) n (stPol kd ep) X a m (b - a).toNat) n.toNat
    omega
  · simp
theorem stRow_len {n a b : Int} (hn : n ≤ 128) : (stRow kd sb ep ef kw kh wn rn cn sh sh2 xn yn bins on mx X Y n a b).length ≤ 128 := by
  unfold stRow ndL
  split
  · have := outL_len (fun m => mkTo kd (if kd = 2 then (cn : Int) else kh) n (stPol kd ep) Y a m (b - a).toNat) n.toNat
    omega
  · simp
theorem mkTo_app {kd side n p : Int} {T : Tbl} {a : Int} {m d : Nat} : ∀ e : Nat, mkTo kd side n p T a m (d + e) = (mkTo kd side n p T a m d || mkTo kd side n p T (a + (d : Int)) m e)
  | 0 => by simp [mkTo]
  | e + 1 => by
    show mkTo kd side n p T a m (d + e + 1) = _
    simp only [mkTo]
    rw [mkTo_app e, Bool.or_assoc, show a + (((d + e : Nat)) : Int) = a + (d : Int) + (e : Int) by omega]
theorem stCol_split {n a b c v : Int} (h0 : 0 ≤ a) (h1 : a ≤ b) (h2 : b ≤ c) (h3 : c ≤ 128) :
    v ∈ stCol kd sb ep ef kw kh wn rn cn sh sh2 xn yn bins on mx X Y n a c ↔ v ∈ stCol kd sb ep ef kw kh wn rn cn sh sh2 xn yn bins on mx X Y n a b ∨ v ∈ stCol kd sb ep ef kw kh wn rn cn sh sh2 xn yn bins on mx X Y n b c := by
  have e : ∀ f t : Int, 0 ≤ f → f ≤ 128 → 0 ≤ t → t ≤ 128 → stFine kd sb ep ef kw kh wn rn cn sh sh2 xn yn bins on mx X Y n f t = stFine kd sb ep ef kw kh wn rn cn sh sh2 xn yn bins on mx X Y n 0 0 := fun f t f0 f1 t0 t1 => by
    unfold stFine
    rw [show decide (1 ≤ n ∧ n ≤ 128 ∧ 0 ≤ f ∧ f ≤ 128 ∧ 0 ≤ t ∧ t ≤ 128) = decide (1 ≤ n ∧ n ≤ 128 ∧ (0 : Int) ≤ 0 ∧ (0 : Int) ≤ 128 ∧ (0 : Int) ≤ 0 ∧ (0 : Int) ≤ 128) from decide_eq_decide.2 (by omega)]
  unfold stCol ndL
  rw [e a c h0 (by omega) (by omega) h3, e a b h0 (by omega) (by omega) (by omega), e b c (by omega) (by omega) (by omega) h3]
  by_cases hf : stFine kd sb ep ef kw kh wn rn cn sh sh2 xn yn bins on mx X Y n 0 0 = true
  · rw [if_pos hf, if_pos hf, if_pos hf, outL_mem, outL_mem, outL_mem]
    have q : ∀ m, mkTo kd (if kd = 2 then (rn : Int) else kw) n (stPol kd ep) X a m (c - a).toNat = (mkTo kd (if kd = 2 then (rn : Int) else kw) n (stPol kd ep) X a m (b - a).toNat || mkTo kd (if kd = 2 then (rn : Int) else kw) n (stPol kd ep) X b m (c - b).toNat) := fun m => by
      have := mkTo_app (kd := kd) (side := if kd = 2 then (rn : Int) else kw) (n := n) (p := stPol kd ep) (T := X) (a := a) (m := m) (d := (b - a).toNat) (c - b).toNat
      rw [show (b - a).toNat + (c - b).toNat = (c - a).toNat by omega, show a + (((b - a).toNat : Nat) : Int) = b by omega] at this
      exact this
    constructor
    · rintro ⟨m, m1, m2, m3⟩
      rw [q, Bool.or_eq_true] at m3
      rcases m3 with m3 | m3
      · exact .inl ⟨m, m1, m2, m3⟩
      · exact .inr ⟨m, m1, m2, m3⟩
    · rintro (⟨m, m1, m2, m3⟩ | ⟨m, m1, m2, m3⟩)
      · exact ⟨m, m1, m2, by rw [q, m3, Bool.true_or]⟩
      · exact ⟨m, m1, m2, by rw [q, m3, Bool.or_true]⟩
  · rw [if_neg hf, if_neg hf, if_neg hf]; simp
end
theorem tl_has {C R : List Int} {w h tw th : Int} {i : Nat} (hi : (i : Int) < gNx w h tw th * gNy w h tw th) :
    hasL (tlL C R w h tw th) (i : Int) = (memL C (gT0 w h tw th i) (gT2 w h tw th i) && memL R (gT1 w h tw th i) (gT3 w h tw th i)) := by
  rw [Bool.eq_iff_iff, hasL_iff]
  unfold tlL
  rw [outL_mem]
  constructor
  · rintro ⟨m, m1, m2, m3⟩
    have : i = m := by omega
    subst this; exact m3
  · exact fun hp => ⟨i, by omega, rfl, hp⟩
/-- Among the first j. -/
def memJ (l : List Int) (a b : Int) (j : Nat) : Bool := (l.take j).any fun v => decide (a ≤ v ∧ v < b)
theorem memJ_zero (l : List Int) (a b : Int) : memJ l a b 0 = false := by simp [memJ]
theorem memJ_succ {l : List Int} {a b : Int} {j : Nat} (hj : j < l.length) : memJ l a b (j + 1) = (memJ l a b j || decide (a ≤ l.getD j 0 ∧ l.getD j 0 < b)) := by
  unfold memJ
  rw [List.take_add_one, List.any_append, List.getElem?_eq_getElem hj, List.getD_eq_getElem?_getD, List.getElem?_eq_getElem hj]
  simp
theorem memJ_all (l : List Int) (a b : Int) : memJ l a b l.length = memL l a b := by unfold memJ memL; rw [List.take_length]
end Go.Proofs.Ytlidacfokgdlgaa
