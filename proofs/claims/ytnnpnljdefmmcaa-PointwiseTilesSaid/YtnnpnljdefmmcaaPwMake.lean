/-
  Plain law: the programs that a tape makes: they are valid and their values are small.
-/
import Derived.Test.YtnnpnljdefmmcaaPwLaw
namespace Go.Proofs.Ytnnpnljdefmmcaa
set_option linter.unusedSimpArgs false

/-- A program that a tape makes, in k steps. -/
inductive OpsM : Bool → Nat → List (Int × Int) → Prop
  | one : OpsM false 0 [(0, 0)]
  | two {c : Int} (h : 3 ≤ c ∧ c ≤ 9) : OpsM true 0 [(0, 0), (1, 0), (c, 0)]
  | bin {b : Bool} {k : Nat} {l : List (Int × Int)} {g c : Int} (hl : OpsM b k l) (hg : -100 ≤ g ∧ g ≤ 199) (hc : 3 ≤ c ∧ c ≤ 9) : OpsM b (k + 1) (l ++ [(2, g), (c, 0)])
  | sh {b : Bool} {k : Nat} {l : List (Int × Int)} {g : Int} (hl : OpsM b k l) (hg : 0 ≤ g ∧ g ≤ 3) : OpsM b (k + 1) (l ++ [(10, g)])
  | ab {b : Bool} {k : Nat} {l : List (Int × Int)} (hl : OpsM b k l) : OpsM b (k + 1) (l ++ [(11, 0)])

theorem OpsM.len {b : Bool} {k : Nat} {l : List (Int × Int)} (h : OpsM b k l) : 1 ≤ l.length ∧ l.length ≤ 3 + 2 * k := by
  induction h with
  | one => simp
  | two => simp
  | bin _ _ _ ih => simp; omega
  | sh _ _ ih => simp; omega
  | ab _ ih => simp; omega
theorem pwArg_0 {c : Int} (h : c ≠ 2 ∧ c ≠ 10) : pwArg c 0 = true := by unfold pwArg; rw [if_neg h.1, if_neg h.2]; rfl
theorem vGo_bin {g c : Int} (two : Bool) (hg : -100 ≤ g ∧ g ≤ 199) (hc : 3 ≤ c ∧ c ≤ 9) : vGo [(2, g), (c, 0)] two 1 = 0 := by
  rw [vGo_rec, if_neg (by simp [pwK]), if_pos (by simp [pwArg]; omega), vGo_rec, if_neg (by simp [pwK_2 hc.1 hc.2, pwK_0]; omega), if_pos (pwArg_0 (by dsimp only; omega))]
  simp [vGo, pwK_2 hc.1 hc.2, pwK_0]
theorem vGo_sh {g : Int} (two : Bool) (hg : 0 ≤ g ∧ g ≤ 3) : vGo [(10, g)] two 1 = 0 := by
  rw [vGo_rec, if_neg (by simp [pwK]), if_pos (by simp [pwArg]; omega)]
  simp [vGo, pwK]
theorem vGo_ab (two : Bool) : vGo [(11, 0)] two 1 = 0 := by
  rw [vGo_rec, if_neg (by simp [pwK]), if_pos (pwArg_0 (by simp))]
  simp [vGo, pwK]
theorem OpsM.valid {b : Bool} {k : Nat} {l : List (Int × Int)} (h : OpsM b k l) : vGo l b 0 = 0 := by
  induction h with
  | one => rw [vGo_rec, if_neg (by simp [pwK]), if_pos (pwArg_0 (by simp))]; simp [vGo, pwK]
  | two h =>
    rename_i c
    rw [vGo_rec, if_neg (by simp [pwK]), if_pos (pwArg_0 (by simp)), vGo_rec, if_neg (by simp [pwK]), if_pos (pwArg_0 (by simp)), vGo_rec, if_neg (by simp [pwK_2 h.1 h.2, pwK_0]; omega), if_pos (pwArg_0 (by dsimp only; omega))]
    simp [vGo, pwK_2 h.1 h.2, pwK_0]
  | bin hl hg hc ih => rw [vGo_app _ _ _ _ ih]; exact vGo_bin _ hg hc
  | sh hl hg ih => rw [vGo_app _ _ _ _ ih]; exact vGo_sh _ hg
  | ab hl ih => rw [vGo_app _ _ _ _ ih]; exact vGo_ab _
theorem OpsM.head {b : Bool} {k : Nat} {l : List (Int × Int)} (h : OpsM b k l) (hb : b = false) : ∃ t, l = (0, 0) :: t ∧ noSrc t := by
  induction h with
  | one => exact ⟨[], rfl, fun o ho => by simp at ho⟩
  | two _ => cases hb
  | bin hl hg hc ih =>
    obtain ⟨t, rfl, ht⟩ := ih hb
    refine ⟨_, rfl, fun o ho => ?_⟩
    replace ho : o ∈ t ++ [_, _] := ho
    simp only [List.mem_append, List.mem_cons, List.not_mem_nil, or_false] at ho
    rcases ho with ho | rfl | rfl
    · exact ht o ho
    · simp
    · simp; omega
  | sh hl hg ih =>
    obtain ⟨t, rfl, ht⟩ := ih hb
    refine ⟨_, rfl, fun o ho => ?_⟩
    replace ho : o ∈ t ++ [_] := ho
    simp only [List.mem_append, List.mem_cons, List.not_mem_nil, or_false] at ho
    rcases ho with ho | rfl
    · exact ht o ho
    · simp
  | ab hl ih =>
    obtain ⟨t, rfl, ht⟩ := ih hb
    refine ⟨_, rfl, fun o ho => ?_⟩
    replace ho : o ∈ t ++ [_] := ho
    simp only [List.mem_append, List.mem_cons, List.not_mem_nil, or_false] at ho
    rcases ho with ho | rfl
    · exact ht o ho
    · simp
theorem mul_small {x y M : Int} (hx : -M ≤ x ∧ x ≤ M) (hy : -199 ≤ y ∧ y ≤ 199) : -(199 * M) ≤ x * y ∧ x * y ≤ 199 * M := by
  have h1 : x.natAbs ≤ M.toNat := by omega
  have h2 : y.natAbs ≤ 199 := by omega
  have h3 := Nat.mul_le_mul h1 h2
  rw [← Int.natAbs_mul] at h3
  omega
theorem shV_small {x s M : Int} (hx : -M ≤ x ∧ x ≤ M) (hs : 0 ≤ s ∧ s ≤ 3) : -(M + 8) ≤ shV x s ∧ shV x s ≤ M + 8 := by
  by_cases hk : -17592186044416 ≤ x ∧ x ≤ 17592186044416
  · have h : s = 0 ∨ s = 1 ∨ s = 2 ∨ s = 3 := by omega
    unfold shV
    rcases h with rfl | rfl | rfl | rfl
    · rw [if_pos (by omega), if_pos rfl]; omega
    · rw [if_pos (by omega), if_neg (by omega)]; simp; omega
    · rw [if_pos (by omega), if_neg (by omega)]; simp; omega
    · rw [if_pos (by omega), if_neg (by omega)]; simp; omega
  · rw [shV_no (by omega)]; omega
theorem bin_small {c x y M : Int} (h : 3 ≤ c ∧ c ≤ 9) (hM : 9 ≤ M) (hx : -M ≤ x ∧ x ≤ M) (hy : -199 ≤ y ∧ y ≤ 199) (a b : Int) : -(200 * M) ≤ pwVal c 0 x y a b ∧ pwVal c 0 x y a b ≤ 200 * M := by
  have m5 := mnI_or x y
  have m6 := mxI_or x y
  rcases codes (c := c) (by omega) (by omega) with rfl | rfl | rfl | rfl | rfl | rfl | rfl | rfl | rfl | rfl | rfl | rfl
  · omega
  · omega
  · omega
  · show -(200 * M) ≤ x + y ∧ x + y ≤ 200 * M; omega
  · show -(200 * M) ≤ x - y ∧ x - y ≤ 200 * M; omega
  · have := mul_small hx hy
    show -(200 * M) ≤ x * y ∧ x * y ≤ 200 * M; omega
  · show -(200 * M) ≤ mnI x y ∧ mnI x y ≤ 200 * M; omega
  · show -(200 * M) ≤ mxI x y ∧ mxI x y ≤ 200 * M; omega
  · show -(200 * M) ≤ absI (x - y) ∧ absI (x - y) ≤ 200 * M
    unfold absI; split <;> omega
  · have h1 := fdiv_bd x y
    have h2 := absI_bd hx
    show -(200 * M) ≤ Int.fdiv x y ∧ Int.fdiv x y ≤ 200 * M
    omega
  · omega
  · omega
theorem pow200 (k : Nat) : (1 : Int) ≤ 200 ^ k := by have : (0 : Int) < 200 ^ k := Int.pow_pos (by decide); omega
theorem pow200_le {k : Nat} (h : k ≤ 2) : (200 : Int) ^ k ≤ 40000 := by
  rcases (show k = 0 ∨ k = 1 ∨ k = 2 by omega) with rfl | rfl | rfl <;> decide
/-- The values of such a program are small. -/
theorem OpsM.eval {b : Bool} {k : Nat} {l : List (Int × Int)} {u v : Int} (h : OpsM b k l) (hk : k ≤ 3) (hu : 0 ≤ u ∧ u ≤ 1000) (hv : 0 ≤ v ∧ v ≤ 255) (hb : b = true → u ≤ 255) :
    ∃ r, eGo l [] u v = (r, 0) ∧ -(65025 * 200 ^ k) ≤ r ∧ r ≤ 65025 * 200 ^ k := by
  induction h with
  | one =>
    refine ⟨u, ?_, by omega, by omega⟩
    rw [eGo_cons, if_pos (by rw [accOk_iff]; show _ ≤ u ∧ u ≤ _; omega)]
    rfl
  | two h =>
    rename_i c
    have hu2 := hb rfl
    have hm : 0 ≤ u * v ∧ u * v ≤ 65025 := by
      have h1 : u.toNat ≤ 255 := by omega
      have h2 : v.toNat ≤ 255 := by omega
      have h3 := Nat.mul_le_mul h1 h2
      have h4 := Int.mul_nonneg hu.1 hv.1
      have h5 : ((u.toNat * v.toNat : Nat) : Int) = u * v := by rw [Int.natCast_mul, Int.toNat_of_nonneg hu.1, Int.toNat_of_nonneg hv.1]
      omega
    have hp : -65025 ≤ pwVal c 0 u v u v ∧ pwVal c 0 u v u v ≤ 65025 := by
      have m5 := mnI_or u v
      have m6 := mxI_or u v
      rcases codes (c := c) (by omega) (by omega) with rfl | rfl | rfl | rfl | rfl | rfl | rfl | rfl | rfl | rfl | rfl | rfl
      · omega
      · omega
      · omega
      · show -65025 ≤ u + v ∧ u + v ≤ 65025; omega
      · show -65025 ≤ u - v ∧ u - v ≤ 65025; omega
      · show -65025 ≤ u * v ∧ u * v ≤ 65025; omega
      · show -65025 ≤ mnI u v ∧ mnI u v ≤ 65025; omega
      · show -65025 ≤ mxI u v ∧ mxI u v ≤ 65025; omega
      · show -65025 ≤ absI (u - v) ∧ absI (u - v) ≤ 65025
        unfold absI; split <;> omega
      · have h1 := fdiv_bd u v
        have h2 := absI_bd (x := u) (c := 255) (by omega)
        show -65025 ≤ Int.fdiv u v ∧ Int.fdiv u v ≤ 65025
        omega
      · omega
      · omega
    refine ⟨pwVal c 0 u v u v, ?_, by omega, by omega⟩
    rw [eGo_cons, if_pos (by rw [accOk_iff]; show _ ≤ u ∧ u ≤ _; omega), eGo_cons, if_pos (by rw [accOk_iff]; show _ ≤ v ∧ v ≤ _; omega), eGo_cons]
    have e : pwK c = 2 := pwK_2 h.1 h.2
    have e1 : pwVal ((0 : Int), (0 : Int)).1 ((0 : Int), (0 : Int)).2 (([] : List Int).getD (pwK ((0 : Int), (0 : Int)).1 - 1) 0) (([] : List Int).getD 0 0) u v = u := rfl
    simp only [e]
    refine (if_pos (show accOk (pwVal c 0 u v u v) = true from ?_)).trans ?_
    · rw [accOk_iff]; omega
    · rfl
  | bin hl hg hc ih =>
    rename_i b k l g c
    obtain ⟨r, h1, h2, h3⟩ := ih (by omega) hb
    have hp := bin_small hc (M := 65025 * 200 ^ k) (x := r) (y := g) (by have := pow200 k; omega) ⟨h2, h3⟩ (by omega) u v
    have hpl := pow200_le (k := k) (by omega)
    refine ⟨pwVal c 0 r g u v, ?_, by rw [Int.pow_succ]; omega, by rw [Int.pow_succ]; omega⟩
    rw [eGo_app u v l _ [] r h1 (by have := vGo_two _ _ _ hl.valid; exact this), eGo_cons, if_pos (by rw [accOk_iff]; show _ ≤ g ∧ g ≤ _; omega), eGo_cons]
    have e : pwK c = 2 := pwK_2 hc.1 hc.2
    simp only [e]
    refine (if_pos (show accOk (pwVal c 0 r g u v) = true from ?_)).trans ?_
    · rw [accOk_iff]; omega
    · rfl
  | sh hl hg ih =>
    rename_i b k l g
    obtain ⟨r, h1, h2, h3⟩ := ih (by omega) hb
    have hp := shV_small (x := r) (s := g) ⟨h2, h3⟩ hg
    have hpl := pow200_le (k := k) (by omega)
    have hp1 := pow200 k
    refine ⟨shV r g, ?_, by rw [Int.pow_succ]; omega, by rw [Int.pow_succ]; omega⟩
    rw [eGo_app u v l _ [] r h1 (by have := vGo_two _ _ _ hl.valid; exact this), eGo_cons, if_pos (by rw [accOk_iff]; show _ ≤ shV r g ∧ shV r g ≤ _; omega)]
    rfl
  | ab hl ih =>
    rename_i b k l
    obtain ⟨r, h1, h2, h3⟩ := ih (by omega) hb
    have hp := absI_bd (x := r) ⟨h2, h3⟩
    have hpl := pow200_le (k := k) (by omega)
    have hp1 := pow200 k
    refine ⟨absI r, ?_, by rw [Int.pow_succ]; omega, by rw [Int.pow_succ]; omega⟩
    rw [eGo_app u v l _ [] r h1 (by have := vGo_two _ _ _ hl.valid; exact this), eGo_cons, if_pos (by rw [accOk_iff]; show _ ≤ absI r ∧ absI r ≤ _; omega)]
    rfl
theorem OpsM.code {b : Bool} {k : Nat} {l : List (Int × Int)} (h : OpsM b k l) (hk : k ≤ 3) : vCode l true = 0 := by
  rw [vCode_zero]
  have := h.len
  exact ⟨by omega, by omega, vGo_two _ _ _ h.valid⟩
/-- PointwiseJoins. -/
theorem joins_all {k k' : Nat} {l m t : List (Int × Int)} {u v : Int} (hl : OpsM true k l) (hk : k ≤ 3) (hm : OpsM false k' m) (hk' : k' ≤ 3) (ht : m = (0, 0) :: t) (hu : 0 ≤ u ∧ u ≤ 255) (hv : 0 ≤ v ∧ v ≤ 255) :
    (evR l u v).2 = 0 ∧ (0 ≤ (evR l u v).1 → (evR l u v).1 ≤ 1000 → (evR (l ++ t) u v).2 = 0 ∧ (evR m (evR l u v).1 0).2 = 0 ∧ (evR (l ++ t) u v).1 = (evR m (evR l u v).1 0).1) := by
  obtain ⟨r, h1, _, _⟩ := hl.eval hk (by omega) hv (fun _ => hu.2) (u := u) (v := v)
  rw [evR_two (hl.code hk) (by omega) (by omega), h1]
  refine ⟨rfl, fun hr0 hr1 => ?_⟩
  obtain ⟨t', ht', hn⟩ := hm.head rfl
  have e : t' = t := by rw [ht] at ht'; exact (List.cons.inj ht').2.symm
  subst e
  obtain ⟨q, h2, _, _⟩ := hm.eval hk' (u := r) (v := 0) (by omega) (by omega) (by simp)
  have hvm := hm.valid
  rw [ht, vGo_rec, if_neg (by simp [pwK]), if_pos (pwArg_0 (by simp))] at hvm
  have hvt : vGo t' true 1 = 0 := vGo_two _ _ _ hvm
  have hvl : vGo l true 0 = 0 := hl.valid
  have hc : vCode (l ++ t') true = 0 := by
    rw [vCode_zero]
    have g1 := hl.len
    have g2 := hm.len
    rw [ht, List.length_cons] at g2
    rw [List.length_append]
    exact ⟨by omega, by omega, by rw [vGo_app _ _ _ _ hvl]; exact hvt⟩
  rw [evR_two hc (by omega) (by omega), evR_two (hm.code hk') (by dsimp only; omega) (by omega), eGo_app u v l t' [] r h1 hvl]
  dsimp only
  have e2 : eGo m [] r 0 = eGo t' [r] r 0 := by
    rw [ht, eGo_cons, if_pos (by rw [accOk_iff]; show _ ≤ r ∧ r ≤ _; omega)]
    rfl
  rw [e2] at h2 ⊢
  rw [eGo_src u v r 0 t' [r] hn, h2]
  exact ⟨rfl, rfl, rfl⟩
end Go.Proofs.Ytnnpnljdefmmcaa
