/-
  Plain law: values are within the interval of a program; a program behind another one computes the composition.
-/
import Derived.Test.YtnnpnljdefmmcaaPwPlain
namespace Go.Proofs.Ytnnpnljdefmmcaa
def Cont : List (Int × Int) → List Int → Prop
  | [], [] => True
  | p :: ps, z :: zs => (p.1 ≤ z ∧ z ≤ p.2) ∧ Cont ps zs
  | _, _ => False
theorem Cont.len : ∀ {ps : List (Int × Int)} {zs : List Int}, Cont ps zs → ps.length = zs.length
  | [], [], _ => rfl
  | _ :: _, _ :: _, h => by simp [Cont.len h.2]
  | [], _ :: _, h => h.elim
  | _ :: _, [], h => h.elim
theorem Cont.get : ∀ {ps : List (Int × Int)} {zs : List Int}, Cont ps zs → ∀ i, (ps.getD i (0, 0)).1 ≤ zs.getD i 0 ∧ zs.getD i 0 ≤ (ps.getD i (0, 0)).2
  | [], [], _, i => by simp
  | p :: ps, z :: zs, h, 0 => h.1
  | p :: ps, z :: zs, h, i + 1 => by simpa using Cont.get h.2 i
  | [], _ :: _, h, _ => h.elim
  | _ :: _, [], h, _ => h.elim
theorem Cont.drop : ∀ {ps : List (Int × Int)} {zs : List Int}, Cont ps zs → ∀ k, Cont (ps.drop k) (zs.drop k)
  | _, _, h, 0 => by simpa using h
  | [], [], _, k + 1 => by simp [Cont]
  | _ :: _, _ :: _, h, k + 1 => by simpa using Cont.drop h.2 k
  | [], _ :: _, h, _ + 1 => h.elim
  | _ :: _, [], h, _ + 1 => h.elim

theorem shV_mono {x y s : Int} (h : x ≤ y) (hx : accOk x = true) (hy : accOk y = true) (hs : 0 ≤ s ∧ s ≤ 24) : shV x s ≤ shV y s := by
  rw [accOk_iff] at hx hy
  by_cases h0 : s = 0
  · subst h0; rw [shV_zero hx, shV_zero hy]; exact h
  · obtain ⟨p1, p2, p3⟩ := sh_pow (s := s) (by omega) (by omega)
    obtain ⟨P, hP⟩ : ∃ P, (2 : Int) ^ (s - 1).toNat = P := ⟨_, rfl⟩
    rw [shV_yes (by omega) hP p3, shV_yes (by omega) hP p3, hP]
    rw [hP] at p1
    exact Int.ediv_le_ediv (by omega) (by omega)
theorem mnI_le (x y : Int) : mnI x y ≤ x ∧ mnI x y ≤ y := by unfold mnI; split <;> omega
theorem mxI_ge (x y : Int) : x ≤ mxI x y ∧ y ≤ mxI x y := by unfold mxI; split <;> omega
theorem mnI_or (x y : Int) : mnI x y = x ∨ mnI x y = y := by unfold mnI; split <;> omega
theorem mxI_or (x y : Int) : mxI x y = x ∨ mxI x y = y := by unfold mxI; split <;> omega
/-- A product with a number of an interval lies between the products with its ends. -/
theorem mul_btw {x a b c : Int} (h : a ≤ x ∧ x ≤ b) : mnI (a * c) (b * c) ≤ x * c ∧ x * c ≤ mxI (a * c) (b * c) := by
  have m1 := mnI_le (a * c) (b * c)
  have m2 := mxI_ge (a * c) (b * c)
  rcases Int.le_total 0 c with hc | hc
  · have h1 := Int.mul_le_mul_of_nonneg_right h.1 hc
    have h2 := Int.mul_le_mul_of_nonneg_right h.2 hc
    omega
  · have h1 := Int.mul_le_mul_of_nonpos_right h.1 hc
    have h2 := Int.mul_le_mul_of_nonpos_right h.2 hc
    omega
theorem mul_in {x y a b c d : Int} (hx : a ≤ x ∧ x ≤ b) (hy : c ≤ y ∧ y ≤ d) :
    mnI (mnI (mnI (a * c) (a * d)) (b * c)) (b * d) ≤ x * y ∧ x * y ≤ mxI (mxI (mxI (a * c) (a * d)) (b * c)) (b * d) := by
  have h1 := mul_btw (c := y) hx
  have h2 := mul_btw (c := a) hy
  have h3 := mul_btw (c := b) hy
  rw [Int.mul_comm c a, Int.mul_comm d a, Int.mul_comm y a] at h2
  rw [Int.mul_comm c b, Int.mul_comm d b, Int.mul_comm y b] at h3
  revert h1 h2 h3
  generalize a * c = p1
  generalize a * d = p2
  generalize b * c = p3
  generalize b * d = p4
  generalize a * y = q1
  generalize b * y = q2
  generalize x * y = r
  intro h1 h2 h3
  have a1 := mnI_le p1 p2
  have a2 := mnI_le (mnI p1 p2) p3
  have a3 := mnI_le (mnI (mnI p1 p2) p3) p4
  have a4 := mnI_or q1 q2
  have a5 := mnI_or p1 p2
  have a6 := mnI_or p3 p4
  have b1 := mxI_ge p1 p2
  have b2 := mxI_ge (mxI p1 p2) p3
  have b3 := mxI_ge (mxI (mxI p1 p2) p3) p4
  have b4 := mxI_or q1 q2
  have b5 := mxI_or p1 p2
  have b6 := mxI_or p3 p4
  omega
theorem pwMul_ok {x y : Int × Int} (h : pwMul x y = true) : accOk (x.1 * y.1) = true ∧ accOk (x.1 * y.2) = true ∧ accOk (x.2 * y.1) = true ∧ accOk (x.2 * y.2) = true := by
  simpa [pwMul] using h
theorem absI_mx {x a b : Int} (h : a ≤ x ∧ x ≤ b) : 0 ≤ absI x ∧ absI x ≤ mxI (absI a) (absI b) := by
  have h2 := mxI_ge (absI a) (absI b)
  revert h2
  generalize mxI (absI a) (absI b) = m
  unfold absI
  intro h2
  repeat' split at h2
  all_goals (repeat' split)
  all_goals omega
/-- The interval of an operation holds its value. -/
theorem pwInt_val {c g a b u v x y : Int} {X Y : Int × Int} (h1 : 0 ≤ c) (h2 : c ≤ 11) (h : pwIok c g X Y a b = true) (hx : X.1 ≤ x ∧ x ≤ X.2) (hy : Y.1 ≤ y ∧ y ≤ Y.2) (hX : accOk X.1 = true ∧ accOk X.2 = true) (hu : 0 ≤ u ∧ u ≤ a) (hv : 0 ≤ v ∧ v ≤ b) (hg : pwArg c g = true) :
    ((pwInt c g X Y a b).1 ≤ pwVal c g x y u v ∧ pwVal c g x y u v ≤ (pwInt c g X Y a b).2) ∧ accOk (pwVal c g x y u v) = true ∧ accOk (pwInt c g X Y a b).1 = true ∧ accOk (pwInt c g X Y a b).2 = true := by
  have hk : accOk (pwInt c g X Y a b).1 = true ∧ accOk (pwInt c g X Y a b).2 = true := by
    unfold pwIok at h
    rw [Bool.and_eq_true, Bool.and_eq_true] at h
    exact h.2
  have hm : (pwInt c g X Y a b).1 ≤ pwVal c g x y u v ∧ pwVal c g x y u v ≤ (pwInt c g X Y a b).2 := by
    have m1 := mnI_le X.1 Y.1
    have m2 := mnI_le X.2 Y.2
    have m3 := mxI_ge X.1 Y.1
    have m4 := mxI_ge X.2 Y.2
    have m5 := mnI_or x y
    have m6 := mxI_or x y
    have m7 := mnI_le x y
    have m8 := mxI_ge x y
    have m9 := mnI_or X.1 Y.1
    have m10 := mnI_or X.2 Y.2
    have m11 := mxI_or X.1 Y.1
    have m12 := mxI_or X.2 Y.2
    have ax := absI_mx hx
    clear h hk
    rcases codes h1 h2 with rfl | rfl | rfl | rfl | rfl | rfl | rfl | rfl | rfl | rfl | rfl | rfl
    · exact ⟨hu.1, hu.2⟩
    · exact ⟨hv.1, hv.2⟩
    · exact ⟨Int.le_refl _, Int.le_refl _⟩
    · show X.1 + Y.1 ≤ x + y ∧ x + y ≤ X.2 + Y.2; omega
    · show X.1 - Y.2 ≤ x - y ∧ x - y ≤ X.2 - Y.1; omega
    · exact mul_in hx hy
    · show mnI X.1 Y.1 ≤ mnI x y ∧ mnI x y ≤ mnI X.2 Y.2; omega
    · show mxI X.1 Y.1 ≤ mxI x y ∧ mxI x y ≤ mxI X.2 Y.2; omega
    · show 0 ≤ absI (x - y) ∧ absI (x - y) ≤ mxI (X.2 - Y.1) (Y.2 - X.1)
      have := mxI_ge (X.2 - Y.1) (Y.2 - X.1); unfold absI; split <;> omega
    · show -mxI (absI X.1) (absI X.2) ≤ Int.fdiv x y ∧ Int.fdiv x y ≤ mxI (absI X.1) (absI X.2)
      have h1 := fdiv_bd x y
      omega
    · have hs : 0 ≤ g ∧ g ≤ 24 := by simpa [pwArg] using hg
      rw [accOk_iff, accOk_iff] at hX
      exact ⟨shV_mono hx.1 (by rw [accOk_iff]; omega) (by rw [accOk_iff]; omega) hs, shV_mono hx.2 (by rw [accOk_iff]; omega) (by rw [accOk_iff]; omega) hs⟩
    · exact ax
  refine ⟨hm, ?_, hk⟩
  rw [accOk_iff, accOk_iff] at hk
  rw [accOk_iff]
  omega
theorem Cont.step {ps : List (Int × Int)} {zs : List Int} (h : Cont ps zs) {p : Int × Int} {z : Int} (hp : p.1 ≤ z ∧ z ≤ p.2) (k : Nat) : Cont (p :: ps.drop k) (z :: zs.drop k) := ⟨hp, h.drop k⟩
def allAcc (ps : List (Int × Int)) : Prop := ∀ i, accOk (ps.getD i (0, 0)).1 = true ∧ accOk (ps.getD i (0, 0)).2 = true
theorem allAcc.nil : allAcc [] := fun i => by simp [accOk]
theorem allAcc.step {ps : List (Int × Int)} (h : allAcc ps) {p : Int × Int} (hp : accOk p.1 = true ∧ accOk p.2 = true) (k : Nat) : allAcc (p :: ps.drop k) := fun i => by
  cases i with
  | zero => exact hp
  | succ i =>
    have := h (k + i)
    rw [List.getD_eq_getElem?_getD] at this ⊢
    simpa [List.getElem?_drop] using this
theorem within_go {a b u v : Int} (hu : 0 ≤ u ∧ u ≤ a) (hv : 0 ≤ v ∧ v ≤ b) : ∀ (l : List (Int × Int)) (ps : List (Int × Int)) (zs : List Int), Cont ps zs → allAcc ps → vGo l true zs.length = 0 → (iGo l ps a b).2.2 = 0 →
    (eGo l zs u v).2 = 0 ∧ (iGo l ps a b).1 ≤ (eGo l zs u v).1 ∧ (eGo l zs u v).1 ≤ (iGo l ps a b).2.1
  | [], ps, zs, h, _, _, _ => by
    unfold iGo eGo
    have := h.get 0
    rw [List.headD_eq_head?_getD, List.headD_eq_head?_getD]
    rw [List.getD_eq_getElem?_getD, List.getD_eq_getElem?_getD, ← List.head?_eq_getElem?, ← List.head?_eq_getElem?] at this
    exact ⟨rfl, this.1, this.2⟩
  | o :: l, ps, zs, h, ha, hl, hi => by
    obtain ⟨h1, h2, _, h4, h5, h6⟩ := vGo_cons hl
    unfold iGo at hi ⊢
    unfold eGo
    split at hi
    · rename_i hk
      rw [if_pos hk]
      obtain ⟨m1, m2, m3⟩ := pwInt_val h1 h2 hk (h.get (pwK o.1 - 1)) (h.get 0) (ha _) hu hv h5
      rw [if_pos m2]
      refine within_go hu hv l _ _ (h.step m1 _) (ha.step m3 _) ?_ hi
      rw [← h6]
      simp only [List.length_cons, List.length_drop]
      congr 1
      omega
    · simp at hi
theorem evR_two {l : List (Int × Int)} {u v : Int} (h : vCode l true = 0) (hu : 0 ≤ u ∧ u ≤ 4294967296) (hv : 0 ≤ v ∧ v ≤ 4294967296) : evR l u v = eGo l [] u v := by
  unfold evR
  rw [if_neg (by simp [h]), if_neg (by rw [pixOk_iff, pixOk_iff]; simp; omega)]
/-- PointwiseWithin. -/
theorem within_all {l : List (Int × Int)} {a b u v : Int} (hu : 0 ≤ u ∧ u ≤ a) (hv : 0 ≤ v ∧ v ≤ b) :
    ((ivR l a b).2.2 = 0 → (evR l u v).2 = 0 ∧ (ivR l a b).1 ≤ (evR l u v).1 ∧ (evR l u v).1 ≤ (ivR l a b).2.1) ∧ ((ivR l a b).2.2 ≠ 0 → (ivR l a b).1 = 0 ∧ (ivR l a b).2.1 = 0) := by
  have hz : ∀ (l ps : List (Int × Int)), (iGo l ps a b).2.2 ≠ 0 → (iGo l ps a b).1 = 0 ∧ (iGo l ps a b).2.1 = 0 := by
    intro l
    induction l with
    | nil => intro ps h; exact absurd rfl h
    | cons o l ih =>
      intro ps h
      unfold iGo at h ⊢
      split
      · rename_i hk; rw [if_pos hk] at h; exact ih _ h
      · exact ⟨rfl, rfl⟩
  unfold ivR
  by_cases h1 : vCode l true ≠ 0
  · rw [if_pos h1]; exact ⟨fun h => absurd h h1, fun _ => ⟨rfl, rfl⟩⟩
  · rw [if_neg h1]
    by_cases h2 : ¬ (valOk a = true ∧ valOk b = true)
    · rw [if_pos h2]; exact ⟨fun h => by simp at h, fun _ => ⟨rfl, rfl⟩⟩
    · rw [if_neg h2]
      have h3 := Decidable.not_not.1 h2
      rw [valOk_iff', valOk_iff'] at h3
      have h4 := Decidable.not_not.1 h1
      refine ⟨fun h => ?_, hz l []⟩
      rw [evR_two h4 (by omega) (by omega)]
      exact within_go hu hv l [] [] trivial allAcc.nil (vCode_zero.1 h4).2.2 h

/-! ## composition -/
theorem eGo_cons (o : Int × Int) (l : List (Int × Int)) (st : List Int) (a b : Int) : eGo (o :: l) st a b = if accOk (pwVal o.1 o.2 (st.getD (pwK o.1 - 1) 0) (st.getD 0 0) a b) = true then eGo l (pwVal o.1 o.2 (st.getD (pwK o.1 - 1) 0) (st.getD 0 0) a b :: st.drop (pwK o.1)) a b else (0, 11) := rfl
theorem vGo_rec (o : Int × Int) (l : List (Int × Int)) (two : Bool) (d : Nat) : vGo (o :: l) two d = if ¬ (0 ≤ o.1 ∧ o.1 ≤ 11) ∨ (o.1 = 1 ∧ two = false) ∨ d < pwK o.1 then 1 else if pwArg o.1 o.2 = true then vGo l two (d + 1 - pwK o.1) else 10 := rfl
theorem iGo_cons (o : Int × Int) (l : List (Int × Int)) (st : List (Int × Int)) (a b : Int) : iGo (o :: l) st a b = if pwIok o.1 o.2 (st.getD (pwK o.1 - 1) (0, 0)) (st.getD 0 (0, 0)) a b = true then iGo l (pwInt o.1 o.2 (st.getD (pwK o.1 - 1) (0, 0)) (st.getD 0 (0, 0)) a b :: st.drop (pwK o.1)) a b else (0, 0, 11) := rfl
theorem eGo_app (u v : Int) : ∀ (l m : List (Int × Int)) (st : List Int) (r : Int), (eGo l st u v) = (r, 0) → vGo l true st.length = 0 → eGo (l ++ m) st u v = eGo m [r] u v
  | [], m, st, r, h, hv => by
    unfold vGo at hv
    have hl : st.length = 1 := by
      split at hv
      · assumption
      · omega
    match st, hl with
    | [z], _ =>
      unfold eGo at h
      simp at h
      subst h
      simp
  | o :: l, m, st, r, h, hv => by
    obtain ⟨h1, h2, _, h4, h5, h6⟩ := vGo_cons hv
    rw [List.cons_append]
    rw [eGo_cons] at h
    rw [eGo_cons]
    split at h
    · rename_i hk
      rw [if_pos hk]
      refine eGo_app u v l m _ r h ?_
      rw [← h6]
      simp only [List.length_cons, List.length_drop]
      congr 1
      omega
    · simp at h
theorem vGo_app : ∀ (l m : List (Int × Int)) (two : Bool) (d : Nat), vGo l two d = 0 → vGo (l ++ m) two d = vGo m two 1
  | [], m, two, d, h => by
    unfold vGo at h
    have hl : d = 1 := by
      split at h
      · assumption
      · omega
    subst hl; rfl
  | o :: l, m, two, d, h => by
    obtain ⟨h1, h2, h3, h4, h5, h6⟩ := vGo_cons h
    rw [List.cons_append, vGo_rec]
    rw [if_neg (fun hc => by
      rcases hc with hc | hc | hc
      · omega
      · have := h3 hc.1; rw [hc.2] at this; cases this
      · omega), if_pos h5]
    exact vGo_app l m two _ h6
/-- A program that names no source. -/
def noSrc (l : List (Int × Int)) : Prop := ∀ o, o ∈ l → o.1 ≠ 0 ∧ o.1 ≠ 1
theorem pwVal_src {c : Int} (h : c ≠ 0 ∧ c ≠ 1) (g x y a b a' b' : Int) : pwVal c g x y a b = pwVal c g x y a' b' := by
  unfold pwVal; rw [if_neg h.1, if_neg h.2, if_neg h.1, if_neg h.2]
theorem eGo_src (a b a' b' : Int) : ∀ (l : List (Int × Int)) (st : List Int), noSrc l → eGo l st a b = eGo l st a' b'
  | [], _, _ => rfl
  | o :: l, st, h => by
    unfold eGo
    rw [pwVal_src (h o (by simp)) _ _ _ a b a' b', eGo_src a b a' b' l _ (fun o' ho => h o' (by simp [ho]))]
end Go.Proofs.Ytnnpnljdefmmcaa
