/-
  Plain law: what the counts of a histogram count.
-/
import Derived.Test.YtoojiabdgaflgaaHistPlain
namespace Go.Proofs.Ytoojiabdgaflgaa

theorem bump_len (l : List Int) (i : Nat) : (bump l i).length = l.length := by simp [bump]
theorem bump_get (l : List Int) (i m : Nat) (hm : m < l.length) : (bump l i).getD m 0 = l.getD m 0 + if i = m then 1 else 0 := by
  unfold bump
  rw [List.getD_eq_getElem?_getD, List.getElem?_set]
  by_cases e : i = m
  · subst e; simp [hm]
  · simp [e]
/-- All the bumps of a list of places. -/
def bumps (l : List Int) : List Nat → List Int
  | [] => l
  | i :: is => bumps (bump l i) is
theorem bumps_append (l : List Int) (a b : List Nat) : bumps l (a ++ b) = bumps (bumps l a) b := by
  induction a generalizing l with
  | nil => rfl
  | cons x a ih => exact ih _
theorem bumps_len (l : List Int) (a : List Nat) : (bumps l a).length = l.length := by
  induction a generalizing l with
  | nil => rfl
  | cons x a ih => rw [bumps, ih, bump_len]
theorem bumps_get (l : List Int) (a : List Nat) (m : Nat) (hm : m < l.length) : (bumps l a).getD m 0 = l.getD m 0 + (a.countP (fun i => decide (i = m)) : Nat) := by
  induction a generalizing l with
  | nil => simp [bumps]
  | cons x a ih =>
    rw [bumps, ih _ (by rw [bump_len]; exact hm), bump_get _ _ _ hm, List.countP_cons]
    by_cases e : x = m <;> simp [e] <;> omega
theorem hCols_bumps (g : Nat → Nat) (l : List Int) (j : Nat) : hCols g l j = bumps l ((List.range j).map g) := by
  induction j with
  | zero => rfl
  | succ j ih => rw [hCols, ih, List.range_succ, List.map_append, bumps_append]; rfl
theorem hRows_bumps (g : Nat → Nat → Nat) (wd n k : Nat) : hRows g wd n k = bumps (List.replicate n 0) ((List.range k).flatMap fun y => (List.range wd).map (g y)) := by
  induction k with
  | zero => rfl
  | succ k ih => rw [hRows, hCols_bumps, ih, List.range_succ, List.flatMap_append, bumps_append]; simp
theorem hRows_len (g : Nat → Nat → Nat) (wd n k : Nat) : (hRows g wd n k).length = n := by rw [hRows_bumps, bumps_len]; simp
theorem hRows_get (g : Nat → Nat → Nat) (wd n k m : Nat) (hm : m < n) : (hRows g wd n k).getD m 0 = (((List.range k).flatMap fun y => (List.range wd).map (g y)).countP (fun i => decide (i = m)) : Nat) := by
  rw [hRows_bumps, bumps_get _ _ _ (by simpa using hm), List.getD_eq_getElem?_getD]
  simp [hm]
/-- The pixels of a plane, row by row, are its list. -/
theorem rows_take (zs : List Int) (wd k : Nat) (f : Int → Nat) (hl : k * wd ≤ zs.length) : ((List.range k).flatMap fun y => (List.range wd).map (fun j => f (zs.getD (y * wd + j) 0))) = (zs.take (k * wd)).map f := by
  induction k with
  | zero => simp
  | succ k ih =>
    rw [Nat.add_mul, Nat.one_mul] at hl
    rw [List.range_succ, List.flatMap_append, ih (by omega), Nat.add_mul, Nat.one_mul, List.take_add, List.map_append]
    congr 1
    simp only [List.flatMap_cons, List.flatMap_nil, List.append_nil]
    refine List.ext_getElem (by simp; omega) fun i h1 h2 => ?_
    simp at h1
    simp [List.getElem?_eq_getElem (show k * wd + i < zs.length by omega)]

/-- The counts of a whole plane. -/
def nBin (mx bins : Int) (zs : List Int) (m : Nat) : Nat := zs.countP (fun z => decide ((hBin z mx bins).toNat = m))
theorem whole_counts {w h mx bins : Int} {zs : List Int} (hv : pValid w h mx zs = true) (b1 : 1 ≤ bins) (b2 : bins ≤ 128) :
    hOk w h mx zs bins 0 0 w h = 0 ∧ (hList w h mx zs bins 0 0 w h).length = bins.toNat ∧ ∀ m, m < bins.toNat → (hList w h mx zs bins 0 0 w h).getD m 0 = nBin mx bins zs m := by
  obtain ⟨hp, hl, _⟩ := pValid_iff.1 hv
  obtain ⟨p1, p2, p3, p4, p5, _, _⟩ := pOk_iff.1 hp
  have h0 : hOk w h mx zs bins 0 0 w h = 0 := by
    unfold hOk
    rw [if_neg (by rw [hv]; simp), if_neg (by simp; omega), if_neg (by rw [(inside_iff p1 p2 p3 p4).2 (by omega)]; simp)]
  have h1 : hList w h mx zs bins 0 0 w h = hRows (hG w mx bins 0 0 zs) w.toNat bins.toNat h.toNat := by
    unfold hList; rw [if_pos h0, Int.sub_zero, Int.sub_zero]
  refine ⟨h0, by rw [h1, hRows_len], fun m hm => ?_⟩
  have e : zs.length = h.toNat * w.toNat := by
    have : ((h.toNat * w.toNat : Nat) : Int) = h * w := by rw [Int.natCast_mul, Int.toNat_of_nonneg (by omega), Int.toNat_of_nonneg (by omega)]
    rw [Int.mul_comm] at this
    omega
  have hg : ∀ y j, hG w mx bins 0 0 zs y j = (hBin (zs.getD (y * w.toNat + j) 0) mx bins).toNat := fun y j => by
    unfold hG
    congr 3
    have : ((y * w.toNat : Nat) : Int) = y * w := by rw [Int.natCast_mul, Int.toNat_of_nonneg (by omega)]
    rw [Int.zero_add, Int.add_zero, ← this, Int.toNat_natCast]
  rw [h1, hRows_get _ _ _ _ _ hm]
  rw [show (fun y => (List.range w.toNat).map (hG w mx bins 0 0 zs y)) = fun y => (List.range w.toNat).map (fun j => (hBin (zs.getD (y * w.toNat + j) 0) mx bins).toNat) from funext fun y => congrArg (fun f => (List.range w.toNat).map f) (funext fun j => hg y j)]
  rw [rows_take zs w.toNat h.toNat (fun z => (hBin z mx bins).toNat) (by omega), ← e, List.take_length, List.countP_map]
  rfl
theorem nBin_set {mx bins : Int} {zs : List Int} {i : Nat} (z : Int) (m : Nat) (hi : i < zs.length) :
    (nBin mx bins (zs.set i z) m : Int) = nBin mx bins zs m - (if (hBin (zs.getD i 0) mx bins).toNat = m then 1 else 0) + (if (hBin z mx bins).toNat = m then 1 else 0) := by
  unfold nBin
  induction zs generalizing i with
  | nil => simp at hi
  | cons x zs ih =>
    cases i with
    | zero =>
      simp only [List.set_cons_zero, List.countP_cons, List.getD_cons_zero, decide_eq_true_eq]
      split <;> split <;> simp <;> omega
    | succ i =>
      simp only [List.set_cons_succ, List.countP_cons, List.getD_cons_succ, decide_eq_true_eq]
      have := ih (i := i) (by simpa using hi)
      split <;> split <;> split <;> simp_all <;> omega
end Go.Proofs.Ytoojiabdgaflgaa
