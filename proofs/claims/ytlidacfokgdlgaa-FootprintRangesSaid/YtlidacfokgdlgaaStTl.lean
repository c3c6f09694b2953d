/-
  The needed tiles of a stage: the plain law.
-/
import Derived.Test.YtlidacfokgdlgaaStCol2
import Derived.Test.YtlidacfokgdlgaaGridPlain
import Derived.Test.YtlidacfokgdlgaaKA
namespace Go.Proofs.Ytlidacfokgdlgaa
open Go.RowKit
set_option linter.unusedVariables false

def memL (l : List Int) (a b : Int) : Bool := l.any fun v => decide (a ≤ v ∧ v < b)
theorem memL_yes {l : List Int} {a b : Int} {i : Nat} (hi : i < l.length) (h : a ≤ l.getD i 0 ∧ l.getD i 0 < b) : memL l a b = true := by
  unfold memL; rw [List.any_eq_true]
  refine ⟨l.getD i 0, ?_, by simpa using h⟩
  rw [List.getD_eq_getElem?_getD, List.getElem?_eq_getElem hi]; exact List.getElem_mem hi
theorem memL_no {l : List Int} {a b : Int} (h : ∀ i, i < l.length → ¬ (a ≤ l.getD i 0 ∧ l.getD i 0 < b)) : memL l a b = false := by
  unfold memL; rw [List.any_eq_false]
  intro x hx
  obtain ⟨i, hi, rfl⟩ := List.mem_iff_getElem.1 hx
  have := h i hi
  rw [List.getD_eq_getElem?_getD, List.getElem?_eq_getElem hi] at this
  simpa using this
theorem memL_congr {l : List Int} {a b c d : Int} (h : ∀ v, v ∈ l → (a ≤ v ∧ v < b ↔ c ≤ v ∧ v < d)) : memL l a b = memL l c d := by
  unfold memL
  rw [Bool.eq_iff_iff, List.any_eq_true, List.any_eq_true]
  constructor <;> rintro ⟨x, hx, hp⟩ <;> refine ⟨x, hx, ?_⟩
  · have := (h x hx).1 (by simpa using hp); simpa using this
  · have := (h x hx).2 (by simpa using hp); simpa using this
theorem memL_nil (a b : Int) : memL [] a b = false := rfl
theorem outL_mem {P : Nat → Bool} {v : Int} : ∀ {n : Nat}, v ∈ outL P n ↔ ∃ m : Nat, m < n ∧ v = (m : Int) ∧ P m = true
  | 0 => by simp [outL]
  | n + 1 => by
    simp only [outL]
    by_cases hp : P n = true
    · rw [if_pos hp, List.mem_append, outL_mem, List.mem_singleton]
      constructor
      · rintro (⟨m, h1, h2, h3⟩ | h)
        · exact ⟨m, by omega, h2, h3⟩
        · exact ⟨n, by omega, h, hp⟩
      · rintro ⟨m, h1, h2, h3⟩
        rcases Nat.lt_or_ge m n with h | h
        · exact .inl ⟨m, h, h2, h3⟩
        · have : m = n := by omega
          subst this; exact .inr h2
    · rw [if_neg hp, outL_mem]
      constructor
      · rintro ⟨m, h1, h2, h3⟩; exact ⟨m, by omega, h2, h3⟩
      · rintro ⟨m, h1, h2, h3⟩
        rcases Nat.lt_or_ge m n with h | h
        · exact ⟨m, h, h2, h3⟩
        · have : m = n := by omega
          subst this; exact absurd h3 hp
theorem outL_upto {P Q : Nat → Bool} : ∀ {n : Nat}, (∀ m, m < n → P m = Q m) → outL P n = outL Q n
  | 0, _ => rfl
  | n + 1, h => by simp only [outL]; rw [h n (by omega), outL_upto (n := n) fun m hm => h m (by omega)]
theorem outL_no {P : Nat → Bool} : ∀ {n : Nat}, (∀ m, m < n → P m = false) → outL P n = []
  | 0, _ => rfl
  | n + 1, h => by simp only [outL]; rw [h n (by omega), if_neg (by decide)]; exact outL_no fun m hm => h m (by omega)
theorem ndL_mem {fine : Bool} {kd ep side n : Int} {T : Tbl} {a b v : Int} (h : v ∈ ndL fine kd ep side n T a b) : 0 ≤ v ∧ v < n := by
  unfold ndL at h
  by_cases hf : fine = true
  · rw [if_pos hf, outL_mem] at h
    obtain ⟨m, h1, rfl, _⟩ := h; omega
  · rw [if_neg hf] at h; cases h
theorem ndL_none {fine : Bool} {kd ep side n : Int} {T : Tbl} {a b : Int} (h : fine = false ∨ b ≤ a) : ndL fine kd ep side n T a b = [] := by
  unfold ndL
  by_cases hf : fine = true
  · rw [if_pos hf, show (b - a).toNat = 0 by rcases h with h | h; rw [hf] at h; cases h; omega]
    exact outL_no fun _ _ => rfl
  · rw [if_neg hf]
def tlP (C R : List Int) (w h tw th : Int) (i : Nat) : Bool := memL C (gT0 w h tw th i) (gT2 w h tw th i) && memL R (gT1 w h tw th i) (gT3 w h tw th i)
def tlL (C R : List Int) (w h tw th : Int) : List Int := outL (tlP C R w h tw th) (gNx w h tw th * gNy w h tw th).toNat
def tlQ (C R : List Int) (nx : Nat) (tw th : Int) (i : Nat) : Bool := memL C (((i % nx : Nat) : Int) * tw) ((((i % nx : Nat) : Int) + 1) * tw) && memL R (((i / nx : Nat) : Int) * th) ((((i / nx : Nat) : Int) + 1) * th)
theorem tl_nil {C R : List Int} {w h tw th : Int} (hc : C = [] ∨ R = []) : tlL C R w h tw th = [] := by
  unfold tlL; refine outL_no fun m _ => ?_
  unfold tlP
  rcases hc with rfl | rfl
  · rw [memL_nil, Bool.false_and]
  · rw [memL_nil, Bool.and_false]
theorem tl_zero {C R : List Int} {w h tw th : Int} (hn : gNx w h tw th = 0 ∨ gNy w h tw th = 0) : tlL C R w h tw th = [] := by
  unfold tlL; rw [show gNx w h tw th * gNy w h tw th = 0 by rcases hn with e | e <;> rw [e] <;> simp]; rfl
theorem tl_same {C R : List Int} {w h tw th : Int} {nx ny : Nat} (hx : gNx w h tw th = nx) (hy : gNy w h tw th = ny) (hC : ∀ v, v ∈ C → 0 ≤ v ∧ v < w) (hR : ∀ v, v ∈ R → 0 ≤ v ∧ v < h) (h0 : nx ≠ 0) (h1 : ny ≠ 0) : outL (tlQ C R nx tw th) (nx * ny) = tlL C R w h tw th := by
  unfold tlL
  rw [hx, hy, show ((nx : Int) * (ny : Int)).toNat = nx * ny by rw [← Int.natCast_mul]; rfl]
  refine outL_upto fun i hi => ?_
  cases hg : gOk w h tw th with
  | false => have := (gN_no hg).1; omega
  | true =>
    have ht : gTok w h tw th i = true := gTok_iff.2 ⟨hg, by omega, by rw [hx, hy]; exact_mod_cast hi⟩
    unfold tlP tlQ gT0 gT1 gT2 gT3
    rw [if_pos ht, if_pos ht, if_pos ht, if_pos ht, hx]
    have e1 : (i : Int) % (nx : Int) = ((i % nx : Nat) : Int) := by simp
    have e2 : (i : Int) / (nx : Int) = ((i / nx : Nat) : Int) := by simp
    rw [e1, e2]
    generalize ((i % nx : Nat) : Int) = x at *
    generalize ((i / nx : Nat) : Int) = y at *
    have f1 : (x + 1) * tw = x * tw + tw := by rw [Int.add_mul, Int.one_mul]
    have f2 : (y + 1) * th = y * th + th := by rw [Int.add_mul, Int.one_mul]
    rw [f1, f2]
    generalize x * tw = u
    generalize y * th = v
    rw [memL_congr (l := C) (c := u) (d := min (u + tw) w) fun z hz => by have := hC z hz; omega, memL_congr (l := R) (c := v) (d := min (v + th) h) fun z hz => by have := hR z hz; omega]
theorem stFine_no {kd sb ep ef kw kh : Int} {wn rn cn : Nat} {sh sh2 : Int} {xn yn : Nat} {bins : Int} {on : Nat} {mx : Int} {X Y : Tbl} {n f t : Int} (h : ¬ (0 ≤ f ∧ f ≤ 128 ∧ 0 ≤ t ∧ t ≤ 128)) : stFine kd sb ep ef kw kh wn rn cn sh sh2 xn yn bins on mx X Y n f t = false := by
  unfold stFine; rw [decide_eq_false (by omega), Bool.false_and]
theorem tl_invalid {kd sb ep ef kw kh : Int} {wn rn cn : Nat} {sh sh2 : Int} {xn yn : Nat} {bins : Int} {on : Nat} {mx : Int} {X Y : Tbl} {w h tw th x0 y0 x1 y1 : Int} (hv : rValid x0 y0 x1 y1 = false) :
    tlL (stCol kd sb ep ef kw kh wn rn cn sh sh2 xn yn bins on mx X Y w x0 x1) (stRow kd sb ep ef kw kh wn rn cn sh sh2 xn yn bins on mx X Y h y0 y1) w h tw th = [] := by
  refine tl_nil ?_
  unfold stCol stRow
  by_cases hx : 0 ≤ x0 ∧ x0 ≤ 128 ∧ 0 ≤ x1 ∧ x1 ≤ 128
  · by_cases hy : 0 ≤ y0 ∧ y0 ≤ 128 ∧ 0 ≤ y1 ∧ y1 ≤ 128
    · by_cases hxx : x1 ≤ x0
      · exact .inl (ndL_none (.inr hxx))
      · by_cases hyy : y1 ≤ y0
        · exact .inr (ndL_none (.inr hyy))
        · exfalso
          unfold rValid at hv; simp at hv; omega
    · exact .inr (ndL_none (.inl (stFine_no hy)))
  · exact .inl (ndL_none (.inl (stFine_no hx)))
end Go.Proofs.Ytlidacfokgdlgaa
