/-
  The needed coordinates: the plain law; arrays and slices of truth values as memory.
-/
import Derived.Test.YtlidacfokgdlgaaStAc2
import Derived.Test.YtlidacfokgdlgaaStAc3
import Derived.Laws.Rows
namespace Go.Proofs.Ytlidacfokgdlgaa
open Go.RowKit
set_option linter.unusedVariables false

/-- Marked by one output coordinate: the first c source coordinates from first on. -/
def mkIn (n p first : Int) (m : Nat) : Nat → Bool
  | 0 => false
  | c + 1 => mkIn n p first m c || (bOk (first + (c : Int)) n p && decide (bIdx (first + (c : Int)) n p = (m : Int)))
def mkTo (kd side n p : Int) (T : Tbl) (a : Int) (m : Nat) : Nat → Bool
  | 0 => false
  | d + 1 => mkTo kd side n p T a m d || mkIn n p (spF kd (a + (d : Int)) side T) m (spC kd (a + (d : Int)) side T).toNat
theorem mkIn_out {n p first : Int} {m : Nat} (h : n ≤ (m : Int)) (hb : ∀ i, bOk i n p = true → bIdx i n p < n) : ∀ c, mkIn n p first m c = false
  | 0 => rfl
  | c + 1 => by
    simp only [mkIn]; rw [mkIn_out h hb c, Bool.false_or]
    cases hk : bOk (first + (c : Int)) n p with
    | false => rfl
    | true => have := hb _ hk; simp; omega
theorem mkTo_out {kd side n p : Int} {T : Tbl} {a : Int} {m : Nat} (h : n ≤ (m : Int)) (hb : ∀ i, bOk i n p = true → bIdx i n p < n) : ∀ d, mkTo kd side n p T a m d = false
  | 0 => rfl
  | d + 1 => by simp only [mkTo]; rw [mkTo_out h hb d, mkIn_out h hb, Bool.or_false]
def outL (P : Nat → Bool) : Nat → List Int
  | 0 => []
  | m + 1 => if P m = true then outL P m ++ [(m : Int)] else outL P m
theorem outL_len (P : Nat → Bool) : ∀ m, (outL P m).length ≤ m
  | 0 => Nat.le_refl _
  | m + 1 => by
    have := outL_len P m
    simp only [outL]; split
    · rw [List.length_append, List.length_singleton]; omega
    · omega
theorem outL_more {P : Nat → Bool} {n : Nat} (h : ∀ m, n ≤ m → P m = false) : ∀ d, outL P (n + d) = outL P n
  | 0 => rfl
  | d + 1 => by
    show outL P (n + d + 1) = _
    simp only [outL]; rw [h (n + d) (by omega)]; simpa using outL_more h d
theorem outL_congr {P Q : Nat → Bool} (h : ∀ m, P m = Q m) : ∀ n, outL P n = outL Q n
  | 0 => rfl
  | n + 1 => by simp only [outL]; rw [h, outL_congr h n]
def stPol (kd ep : Int) : Int := if kd = 4 ∨ kd = 5 ∨ kd = 6 then 3 else ep
def ndL (fine : Bool) (kd ep side n : Int) (T : Tbl) (a b : Int) : List Int := if fine = true then outL (fun m => mkTo kd side n (stPol kd ep) T a m (b - a).toNat) n.toNat else []
def bvs (N : Nat) (P : Nat → Bool) : List Value := (List.range N).map fun m => .bool (P m)
theorem bvs_len (N : Nat) (P : Nat → Bool) : (bvs N P).length = N := by simp [bvs]
theorem bvs_get {N : Nat} (P : Nat → Bool) {j : Nat} (h : j < N) : (bvs N P)[j]? = some (.bool (P j)) := by
  unfold bvs; rw [List.getElem?_map, List.getElem?_range h]; rfl
theorem bvs_set {N j : Nat} (P : Nat → Bool) (h : j < N) : (bvs N P).set j (.bool true) = bvs N (fun m => P m || decide (m = j)) := by
  refine List.ext_getElem (by simp [bvs]) fun i h1 h2 => ?_
  rw [List.getElem_set]
  by_cases e : j = i
  · subst e; simp [bvs]
  · rw [if_neg e]; have : ¬ i = j := fun e' => e e'.symm; simp [bvs, this]
theorem bvs_congr {N : Nat} {P Q : Nat → Bool} (h : ∀ m, P m = Q m) : bvs N P = bvs N Q := by unfold bvs; rw [funext h]
theorem bvs_zero (N : Nat) : List.replicate N (Value.bool false) = bvs N (fun _ => false) := by
  refine List.ext_getElem (by simp [bvs]) fun i h1 h2 => ?_
  simp [bvs]
theorem bvs_zeroA : Array.replicate 128 (Value.bool false) = (bvs 128 (fun _ => false)).toArray := by rw [← bvs_zero, List.toArray_replicate]
theorem bvs_setA {N j : Nat} (P : Nat → Bool) (h : j < N) : (bvs N P).toArray.setIfInBounds j (.bool true) = (bvs N (fun m => P m || decide (m = j))).toArray := by
  rw [← bvs_set P h]; simp
theorem info_bool : (Try.prog.info? 4).map (fun i => (i.zero, i.size, i.bytes)) = some (some (.bool false), 1, 1) := by kernel_rfl
theorem make_bool {ops : Array Oper} {rest : List Oper} {o : Oper} {a : Act} {Q : Exit → Act → World → Prop} {w : World} (hgd : o.guard = none) (l c : Operand)
    (ho : o.op = Op.makeSlice 75 l c) (base : Nat) (L C : Int) (n : Nat) (hl : a.eval l = .int .i64 L) (hc : a.eval c = .int .i64 C) (hL : L = (n : Int)) (hC : C = (n : Int)) (hn : n ≤ 1000000) (hbase : base ≤ w.heap.size)
    (h : ∀ w', w'.ownsRow base 4 1 (.slice (some ⟨w.heap.size, 0, none⟩) n n) n (bvs n (fun _ => false)) → Below w.heap.size w w' → wpList Try.prog ops Q rest (a.put o.dst (.slice (some ⟨w.heap.size, 0, none⟩) n n)) w') :
    wpList Try.prog ops Q (o :: rest) a w := by
  obtain ⟨i0, hi, hz0, hz1, hz2⟩ := info_parts info_bool
  refine wpList_make_full w hgd l c 75 ho base 4 i0 (.bool false) 1 Try.underlying75 hi hz0 hz1 .i64 .i64 L C n hl hc hL hC (by rw [hz2]; omega) (by unfold maxLen; omega) hbase ?_
  intro w' h1 h2
  refine h w' ?_ (below_of_grown_none h2)
  have e : (madeCells (Value.bool false).cells (n * 1)).toList = List.replicate n (.bool false) := by
    rw [Nat.mul_one]; exact toList_madeCells_one _ _
  rw [e, bvs_zero] at h1
  exact h1
section
variable {B : Nat} {W w w' : World} {l : List Ch} {rs : List Ro}
theorem St.madeB (h : St B W l rs w) {D n : Nat} {vs : List Value} (hD : w.heap.size = D) (ho : w'.ownsRow B 4 1 (.slice (some ⟨D, 0, none⟩) n n) n vs) (hb : Below w.heap.size w w') : St B W (.arr 4 1 (.slice (some ⟨D, 0, none⟩) n n) n vs :: l) rs w' :=
  h.new hb (c := .arr 4 1 (.slice (some ⟨D, 0, none⟩) n n) n vs) ho (fun b e => by cases e; exact Nat.le_of_eq hD)
theorem St.loadArr (h : St B W l rs w) (i : Nat) {b : Nat} {P : Nat → Bool} (hi : l[i]? = some (.cells b (bvs 128 P).toArray 72)) : (Instr.loadAt 72 (.pointer (some ⟨b, 0, none⟩))).run Try.prog w = .ok (.agg (bvs 128 P).toArray) w := by
  simp only [Instr.loadAt, Instr.sureAddr, Sem.run_bind, Sem.run_pure, Result.andThen]
  exact run_loadVar_row _ _ 72 72 _ (0, 0) _ (h.all i _ hi).2 Try.underlying72 rfl (by
    have : (Try.prog.info? 72).map (·.size) = some 128 := by kernel_rfl
    rw [this]; simp [bvs])
end
theorem idx128 (P : Nat → Bool) {i : Nat} (hi : i < 128) (w : World) : (Instr.index 72 (.agg (bvs 128 P).toArray) (.int .i64 i)).run Try.prog w = .ok (.bool (P i)) w := by
  have h := Try.underlying72
  have h2 : (bvs 128 P).toArray[i]? = some (.bool (P i)) := by simpa using bvs_get P hi
  simp [Instr.index, run_underlying h, asIntOf, go_sem, hi]
  simp at h2
  simp [h2]
theorem zero128 (w : World) : (zeroValue 72).run Try.prog w = .ok (.agg (Array.replicate 128 (.bool false))) w := by kernel_rfl
end Go.Proofs.Ytlidacfokgdlgaa
