/-
  Plain law of the laws of tables: tables between equal lengths, sums of weights, valid tables; with no program in sight.
-/
import Derived.Test.YtaefdkinpaonkaaBoxPlain
import Derived.Test.YtaefdkinpaonkaaTab3
namespace Go.Proofs.Ytaefdkinpaonkaa
set_option linter.unusedVariables false

theorem id_lnTap {N j : Nat} {s : Int} (hN : 1 ≤ N) (hj : j < N) : lnTap (N : Int) (N : Int) s j = ((j : Int), [2 ^ s.toNat, 0]) := by
  have hP : lnP (N : Int) (N : Int) j = 2 * (N : Int) * (j : Int) := by
    unfold lnP
    rw [Int.add_mul, Int.one_mul, Int.mul_comm 2, Int.mul_assoc, Int.mul_comm (j : Int), Int.mul_comm 2]
    omega
  have hK : lnK (N : Int) (N : Int) j = j := by unfold lnK; rw [hP]; exact Int.mul_ediv_cancel_left _ (by omega)
  have hR : lnR (N : Int) (N : Int) j = 0 := by unfold lnR; rw [hP]; exact Int.mul_emod_right _ _
  have hW : lnW (N : Int) (N : Int) s j = 0 := by
    unfold lnW; rw [hR, Int.zero_mul, Int.zero_add]
    exact Int.ediv_eq_zero_of_lt (by omega) (by omega)
  unfold lnTap; rw [hK, hW, Int.sub_zero]
theorem id_bxK {N j : Nat} (hN : 1 ≤ N) : bxK (N : Int) (N : Int) j = j := by unfold bxK; exact Int.mul_ediv_cancel _ (by omega)
theorem id_bxN {N j : Nat} (hN : 1 ≤ N) : bxN (N : Int) (N : Int) j = 1 := by
  have hE : bxE (N : Int) (N : Int) j = (j : Int) + 1 := by
    unfold bxE
    have h := Int.add_mul_ediv_right ((N : Int) - 1) ((j : Int) + 1) (c := (N : Int)) (by omega)
    rw [Int.add_comm, h, Int.ediv_eq_zero_of_lt (by omega) (by omega), Int.zero_add]
  unfold bxN; rw [hE, id_bxK hN]; omega
theorem dvW_one {S n : Int} (hn : 1 ≤ n) : dvW S n [n] = [S] := by
  have h1 : S * n / n = S := Int.mul_ediv_cancel _ (by omega)
  have hM : dvM S n [n] 1 = 0 := by unfold dvM; simp [sumN, h1]
  unfold dvW
  show (dvGo (dvF S n [n], dvR S n [n]) (dvM S n [n] 1).toNat).1 = _
  rw [hM]; simp [dvGo, dvF, h1]
theorem id_bxTap {N j : Nat} {s : Int} (hN : 1 ≤ N) : bxTap (N : Int) (N : Int) s j = ((j : Int), [2 ^ s.toNat]) := by
  have hl : bxLens (N : Int) (N : Int) j 1 = [(N : Int)] := by
    have : bxL (N : Int) (N : Int) j 0 = N := by
      unfold bxL; rw [id_bxK hN]
      unfold mnI mxI
      simp
      rw [Int.add_mul, Int.one_mul]; omega
    unfold bxLens; simp [List.range_succ, this]
  unfold bxTap
  rw [id_bxK hN, id_bxN hN, hl, dvW_one (by omega)]
theorem bxBad_no {n m : Int} {M : Nat} (h : ∀ j, j < M → bxN n m j ≤ 8) : bxBad n m M = false := by
  induction M with
  | zero => rfl
  | succ M ih => exact bxBad_next (ih fun j hj => h j (by omega)) (by have := h M (by omega); omega)
theorem id_codes {N : Nat} {s : Int} (hN : 1 ≤ N) (hN' : N ≤ 128) (hs : 0 ≤ s ∧ s ≤ 14) : tgCode (N : Int) (N : Int) s = 0 ∧ bxCode (N : Int) (N : Int) s = 0 := by
  have h0 : tgCode (N : Int) (N : Int) s = 0 := by unfold tgCode; rw [if_neg (by omega), if_neg (by omega)]
  exact ⟨h0, bx_0 h0 (bxBad_no fun j hj => by rw [id_bxN hN]; omega)⟩
theorem id_bxT {N : Nat} {s : Int} (hN : 1 ≤ N) (hN' : N ≤ 128) (hs : 0 ≤ s ∧ s ≤ 14) : (bxT (N : Int) (N : Int) s).length = N ∧ ∀ j, j < N → (bxT (N : Int) (N : Int) s).getD j (0, []) = ((j : Int), [2 ^ s.toNat]) := by
  unfold bxT bxTo; rw [if_pos (id_codes hN hN' hs).2]
  refine ⟨by simp, fun j hj => ?_⟩
  rw [rangeD _ _ (by simpa using hj), id_bxTap hN]
theorem id_lnT {N : Nat} {s : Int} (hN : 1 ≤ N) (hN' : N ≤ 128) (hs : 0 ≤ s ∧ s ≤ 14) : (lnT (N : Int) (N : Int) s).length = N ∧ ∀ j, j < N → (lnT (N : Int) (N : Int) s).getD j (0, []) = ((j : Int), [2 ^ s.toNat, 0]) := by
  unfold lnT lnTo; rw [if_pos (id_codes hN hN' hs).1]
  refine ⟨by simp, fun j hj => ?_⟩
  rw [rangeD _ _ (by simpa using hj), id_lnTap hN hj]

-- sums and valid tables
theorem tvTo_ok {ts : Tbl} (h : ∀ i, i < ts.length → tvOne (ts.getD i (0, [])) = 0) : ∀ j, j ≤ ts.length → tvTo ts j = 0 := by
  intro j hj
  induction j with
  | zero => rfl
  | succ j ih => exact tvTo_next (ih (by omega)) (h j (by omega))
theorem wAll_of {l : List Int} (h : ∀ i, i < l.length → -32767 ≤ l.getD i 0 ∧ l.getD i 0 ≤ 32767) : wAll l = true := by
  unfold wAll; rw [List.all_eq_true]; intro x hx
  obtain ⟨i, hi, rfl⟩ := List.getElem_of_mem hx
  have := h i hi
  rw [List.getD_eq_getElem?_getD, List.getElem?_eq_getElem hi] at this
  unfold wOk; simpa using this
theorem ln_one {n m s : Int} {i : Nat} (hn : 1 ≤ n ∧ n ≤ 128) (hm : 1 ≤ m ∧ m ≤ 128) (hs : 0 ≤ s ∧ s ≤ 14) (hi : (i : Int) < m) : tvOne (lnTap n m s i) = 0 := by
  obtain ⟨f1, f2, f3, f4, f5, f6, f7, f8⟩ := ln_facts hn hm hi
  obtain ⟨w1, w2, w3, w4⟩ := lnW_bd (n := n) (i := i) hm hs
  obtain ⟨b1, b2⟩ := sh_bd hs
  have hK : -128 ≤ lnK n m i ∧ lnK n m i ≤ 256 := by
    have hP : lnP n m i = (2 * (i : Int) + 1) * n - m := rfl
    unfold lnK
    constructor
    · exact (Int.le_ediv_iff_mul_le (by omega)).2 (by omega)
    · have h3 : (2 * (i : Int) + 1) * n ≤ (2 * m) * 128 := Int.mul_le_mul (by omega) hn.2 (by omega) (by omega)
      have : lnP n m i / (2 * m) < 257 := Int.ediv_lt_of_lt_mul (by omega) (by omega)
      omega
  unfold tvOne lnTap
  rw [if_neg (by simp), if_neg, if_neg]
  · unfold tFirst; simp; omega
  · rw [wAll_of]
    · simp
    · intro k hk
      rcases k with _ | _ | k
      · simp; omega
      · simp; omega
      · exfalso; simp only [List.length_cons, List.length_nil] at hk; omega
theorem ln_valid {n m s : Int} (hn : 1 ≤ n ∧ n ≤ 128) (hm : 1 ≤ m ∧ m ≤ 128) (hs : 0 ≤ s ∧ s ≤ 14) : tgCode n m s = 0 ∧ (lnT n m s).length = m.toNat ∧ tvCode (lnT n m s) n = 0 ∧ ∀ i, i < m.toNat → (lnT n m s).getD i (0, []) = lnTap n m s i := by
  have h0 : tgCode n m s = 0 := by unfold tgCode; rw [if_neg (by omega), if_neg (by omega)]
  have hl : (lnT n m s).length = m.toNat := by unfold lnT lnTo; rw [if_pos h0]; simp
  have hg : ∀ i, i < m.toNat → (lnT n m s).getD i (0, []) = lnTap n m s i := fun i hi => by unfold lnT lnTo; rw [if_pos h0, rangeD _ _ hi]
  refine ⟨h0, hl, ?_, hg⟩
  unfold tvCode
  rw [if_neg (by rw [hl]; omega)]
  exact tvTo_ok (fun i hi => by rw [hl] at hi; rw [hg i hi]; exact ln_one hn hm hs (by omega)) _ (Nat.le_refl _)

theorem bxK_mono {n m : Int} (hn : 1 ≤ n) (hm : 1 ≤ m) (i : Nat) : bxK n m i ≤ bxK n m (i + 1) := by
  unfold bxK
  refine Int.ediv_le_ediv (by omega) ?_
  rw [show ((i + 1 : Nat) : Int) = (i : Int) + 1 by omega, Int.add_mul, Int.one_mul]; omega
theorem bx_end {n m : Int} {i : Nat} (hn : 1 ≤ n ∧ n ≤ 128) (hm : 1 ≤ m ∧ m ≤ 128) (hi : (i : Int) < m) : 0 ≤ bxK n m i ∧ bxK n m i + (bxN n m i : Int) ≤ n := by
  obtain ⟨f1, f2, f3, f4, f5, f6, f7⟩ := bx_facts hn hm hi
  have hp := bxN_pos hn hm hi
  have h1 : ((i : Int) + 1) * n ≤ m * n := Int.mul_le_mul_of_nonneg_right (by omega) (by omega)
  have h2 : bxE n m i < n + 1 := by
    unfold bxE
    have h4 : (n + 1) * m = m * n + m := by rw [Int.add_mul, Int.one_mul, Int.mul_comm]
    exact Int.ediv_lt_of_lt_mul (by omega) (by rw [h4]; omega)
  refine ⟨f4, ?_⟩
  unfold bxN at hp ⊢; omega
theorem sumN_scale {S n : Int} (hn : 1 ≤ n) (f : Nat → Int) (k : Nat) : sumN (fun i => S * f i / n) k * n ≤ S * sumN f k := by
  induction k with
  | zero => simp [sumN]
  | succ k ih =>
    simp only [sumN]
    have h := Int.ediv_mul_le (S * f k) (b := n) (by omega)
    rw [Int.add_mul, Int.mul_add]; omega
theorem dvW_sum {S n : Int} {l : List Int} (hi : DvIn S n l) (hs : sumN (fun i => l.getD i 0) l.length = n) : sumN (fun j => (dvW S n l).getD j 0) l.length = S := by
  have hM : 0 ≤ dvM S n l l.length := by
    have h := sumN_scale (S := S) hi.n0 (fun i => l.getD i 0) l.length
    rw [hs] at h
    have h2 := Int.le_of_mul_le_mul_right h (show 0 < n by have := hi.n0; omega)
    unfold dvM; omega
  have h := dvGo_sum (dvF S n l, dvR S n l) (by rw [dvF_len, dvR_len]) (by rw [dvF_len]; have := hi.l0; omega) (dvM S n l l.length).toNat
  simp only [dvF_len] at h
  unfold dvW
  rw [h, sumN_eq (g := fun i => S * l.getD i 0 / n) (fun i _ => dvF_get _ _ _ _)]
  unfold dvM at hM ⊢; omega
theorem sumN_one_le {f : Nat → Int} {k : Nat} (h : ∀ i, 0 ≤ f i) : ∀ i, i < k → f i ≤ sumN f k := by
  induction k with
  | zero => intro i hi; omega
  | succ k ih =>
    intro i hi
    have h0 := h k; have h1 : 0 ≤ sumN f k := sumN_nonneg fun i _ => h i
    simp only [sumN]
    by_cases e : i = k
    · subst e; omega
    · have := ih i (by omega); omega
theorem dvW_nonneg {S n : Int} {l : List Int} (hi : DvIn S n l) (i : Nat) : 0 ≤ (dvW S n l).getD i 0 := by
  have h : DvGo S n l (dvGo (dvF S n l, dvR S n l) (dvM S n l l.length).toNat).1 (dvGo (dvF S n l, dvR S n l) (dvM S n l l.length).toNat).2 (dvM S n l l.length).toNat := ⟨rfl⟩
  exact (h.bd hi i).1
theorem bx_one {n m s : Int} {i : Nat} (hn : 1 ≤ n ∧ n ≤ 128) (hm : 1 ≤ m ∧ m ≤ 128) (hs : 0 ≤ s ∧ s ≤ 14) (hi : (i : Int) < m) (h8 : bxN n m i ≤ 8) (hin : DvIn (2 ^ s.toNat) n (bxLens n m i (bxN n m i))) :
    tvOne (bxTap n m s i) = 0 ∧ (bxTap n m s i).2.length = bxN n m i ∧ sumN (fun j => (bxTap n m s i).2.getD j 0) (bxTap n m s i).2.length = 2 ^ s.toNat ∧ ∀ j, 0 ≤ (bxTap n m s i).2.getD j 0 ∧ (bxTap n m s i).2.getD j 0 ≤ 16384 := by
  have hlen : (bxTap n m s i).2.length = bxN n m i := by show (dvW _ _ _).length = _; rw [dvW_len, bxLens_len]
  have hsum : sumN (fun j => (bxTap n m s i).2.getD j 0) (bxTap n m s i).2.length = 2 ^ s.toNat := by
    have := dvW_sum hin (bx_sum hn hm hi)
    rw [hlen]
    rw [bxLens_len] at this
    exact this
  obtain ⟨b1, b2⟩ := sh_bd hs
  have hw : ∀ j, 0 ≤ (bxTap n m s i).2.getD j 0 ∧ (bxTap n m s i).2.getD j 0 ≤ 16384 := by
    intro j
    refine ⟨dvW_nonneg hin j, ?_⟩
    by_cases hj : j < (bxTap n m s i).2.length
    · have := sumN_one_le (f := fun j => (bxTap n m s i).2.getD j 0) (k := (bxTap n m s i).2.length) (fun j => dvW_nonneg hin j) j hj
      have h9 : (bxTap n m s i).2.getD j 0 ≤ 2 ^ s.toNat := by rw [← hsum]; exact this
      omega
    · rw [List.getD_eq_getElem?_getD, List.getElem?_eq_none (by omega)]; simp
  have he := bx_end hn hm hi
  have hp := bxN_pos hn hm hi
  refine ⟨?_, hlen, hsum, hw⟩
  have hk : (bxTap n m s i).1 = bxK n m i := rfl
  unfold tvOne
  rw [if_neg (by rw [hlen]; omega), if_neg (by rw [wAll_of (fun j hj => by have := hw j; omega)]; simp), if_neg]
  rw [hk]; unfold tFirst; simp; omega
theorem bxBad_all {n m : Int} {M : Nat} (h : bxBad n m M = false) : ∀ j, j < M → bxN n m j ≤ 8 := by
  intro j hj
  by_cases q : bxN n m j ≤ 8
  · exact q
  · rw [bxBad_at (j := j) (by omega) M hj] at h; cases h
theorem bx_code {n m s : Int} (hn : 1 ≤ n ∧ n ≤ 128) (hm : 1 ≤ m ∧ m ≤ 128) (hs : 0 ≤ s ∧ s ≤ 14) : bxCode n m s = 0 ∨ bxCode n m s = 9 := by
  have h0 : tgCode n m s = 0 := by unfold tgCode; rw [if_neg (by omega), if_neg (by omega)]
  unfold bxCode; rw [if_neg (by rw [h0]; simp)]; split <;> simp
end Go.Proofs.Ytaefdkinpaonkaa
