/-
  Resizing with tables: small tables give no error; the tile of a rectangle is that of the whole result.
-/
import Derived.Test.YtaefdkinpaonkaaRzLaw
import Derived.Test.YtaefdkinpaonkaaRzChk
import Derived.Test.YtaefdkinpaonkaaTabLaw
import Derived.Test.YtaefdkinpaonkaaCvLaw
namespace Go.Proofs.Ytaefdkinpaonkaa
set_option linter.unusedVariables false

theorem bd_of8 {ws : List Int} {lo hi c m : Int} (h1 : 1 ≤ ws.length) (h2 : ws.length ≤ 8) (hw : wAll ws = true)
    (hl : -m ≤ lo) (hlh : lo ≤ hi) (hh : hi ≤ m) (hm : 0 ≤ m ∧ m ≤ 67105793) :
    bdOk ws lo hi = true ∧ -(262136 * m) ≤ bLo ws lo hi ws.length ∧ bHi ws lo hi ws.length ≤ 262136 * m ∧ bLo ws lo hi ws.length ≤ bHi ws lo hi ws.length := by
  have hw' : ∀ i, i < ws.length → -32767 ≤ ws.getD i 0 ∧ ws.getD i 0 ≤ 32767 := fun i hi => wAll_iff.1 hw i hi
  have h0 : 0 ≤ 32767 * m := by omega
  have hn : (ws.length : Int) * (32767 * m) ≤ 8 * (32767 * m) := Int.mul_le_mul_of_nonneg_right (by omega) h0
  have a1 := sumN_abs (f := fun i => mnI (ws.getD i 0 * lo) (ws.getD i 0 * hi)) (n := ws.length) (c := 32767 * m) (fun i hi' => mn_bd (mul_abs (hw' i hi') (by omega)) (mul_abs (hw' i hi') (by omega)))
  have a2 := sumN_abs (f := fun i => mxI (ws.getD i 0 * lo) (ws.getD i 0 * hi)) (n := ws.length) (c := 32767 * m) (fun i hi' => mx_bd (mul_abs (hw' i hi') (by omega)) (mul_abs (hw' i hi') (by omega)))
  have a3 := sum_in (ws := ws) (lo := lo) (hi := hi) (v := fun _ => lo) (n := ws.length) (fun _ _ => by omega)
  refine ⟨?_, ?_, ?_, ?_⟩
  · unfold bdOk
    rw [bArg_iff.2 ⟨wCode_zero.2 ⟨h1, by omega, hw⟩, hlh, by omega, by omega⟩]
    unfold accOk bLo bHi
    simp only [Bool.true_and, Bool.and_eq_true, decide_eq_true_eq]
    omega
  · unfold bLo; omega
  · unfold bHi; omega
  · omega
theorem ac_in {mx s M : Int} {x : Tbl} (h : ∀ i, i < x.length → -M ≤ rzLo mx s (x.getD i (0, [])) ∧ rzLo mx s (x.getD i (0, [])) ≤ rzHi mx s (x.getD i (0, [])) ∧ rzHi mx s (x.getD i (0, [])) ≤ M) :
    ∀ j, j < x.length → -M ≤ acLo mx s x (j + 1) ∧ acLo mx s x (j + 1) ≤ acHi mx s x (j + 1) ∧ acHi mx s x (j + 1) ≤ M := by
  intro j hj
  induction j with
  | zero => have := h 0 hj; simp only [acLo, acHi]; rw [if_pos trivial, if_pos trivial]; exact this
  | succ j ih =>
    have h1 := ih (by omega)
    have h2 := h (j + 1) hj
    rw [show acLo mx s x (j + 1 + 1) = if acLo mx s x (j + 1) ≤ rzLo mx s (x.getD (j + 1) (0, [])) then acLo mx s x (j + 1) else rzLo mx s (x.getD (j + 1) (0, [])) from by
      show (if j + 1 = 0 then _ else _) = _; rw [if_neg (by omega)],
      show acHi mx s x (j + 1 + 1) = if rzHi mx s (x.getD (j + 1) (0, [])) ≤ acHi mx s x (j + 1) then acHi mx s x (j + 1) else rzHi mx s (x.getD (j + 1) (0, [])) from by
      show (if j + 1 = 0 then _ else _) = _; rw [if_neg (by omega)]]
    split <;> split <;> omega
theorem acOk_all {lo hi : Int} {x : Tbl} (h : ∀ i, i < x.length → bdOk (x.getD i (0, [])).2 lo hi = true) : ∀ j, j ≤ x.length → acOk lo hi x j = true := by
  intro j hj
  induction j with
  | zero => rfl
  | succ j ih => exact acOk_next (ih (by omega)) (h j (by omega))
theorem sh_small {a s m : Int} (hm : 0 ≤ m ∧ m ≤ 17179082760) (ha : -m ≤ a ∧ a ≤ m) (hs : 8 ≤ s ∧ s ≤ 24) : -67105793 ≤ shV a s ∧ shV a s ≤ 67105793 := by
  obtain ⟨p1, p2, p3⟩ := sh_pow (s := s) (by omega) (by omega)
  have hP : (128 : Int) ≤ 2 ^ (s - 1).toNat := by
    have := pow_le (show 7 ≤ (s - 1).toNat by omega)
    simpa using this
  obtain ⟨P, hPP⟩ : ∃ P, (2 : Int) ^ (s - 1).toNat = P := ⟨_, rfl⟩
  rw [shV_yes (by omega) hPP p3, hPP]
  rw [hPP] at p1 p2 hP
  constructor
  · refine Int.le_ediv_of_mul_le (by omega) ?_
    have : 2 * P * 67105793 ≥ 2 * 128 * 67105793 := by omega
    omega
  · refine Int.le_of_lt_add_one (Int.ediv_lt_of_lt_mul (by omega) ?_)
    rw [Int.mul_comm]
    have h1 : 2 * P * (67105793 + 1) = P * 134211588 := by rw [Int.mul_assoc, Int.mul_comm 2, Int.mul_assoc]; rfl
    have h2 : P * 134211588 = P * 134211587 + P := by omega
    omega
theorem rz_ok {w h mx s s2 out : Int} {x y : Tbl} (hx : ∀ i, i < x.length → tvOne (x.getD i (0, [])) = 0) (hy : ∀ i, i < y.length → tvOne (y.getD i (0, [])) = 0) (lx : 1 ≤ x.length ∧ x.length ≤ 6) (ly : 1 ≤ y.length ∧ y.length ≤ 6)
    (hw : 1 ≤ w ∧ w ≤ 128) (hh : 1 ≤ h ∧ h ≤ 128) (hm : 1 ≤ mx ∧ mx ≤ 65535) (hs : 8 ≤ s ∧ s ≤ 24) (hs2 : 0 ≤ s2 ∧ s2 ≤ 24) (ho : 1 ≤ out ∧ out ≤ 4294967296) : rzCode w h mx x y s s2 out = 0 := by
  have tx : tvCode x w = 0 := tv_ok (by omega) (tvTo_ok hx _ (Nat.le_refl _))
  have ty : tvCode y h = 0 := tv_ok (by omega) (tvTo_ok hy _ (Nat.le_refl _))
  have hmul : (x.length : Int) * (y.length : Int) ≤ 6 * 6 := Int.mul_le_mul (by omega) (by omega) (by omega) (by omega)
  have key : ∀ i, i < x.length → bdOk (x.getD i (0, [])).2 0 mx = true ∧ -67105793 ≤ rzLo mx s (x.getD i (0, [])) ∧ rzLo mx s (x.getD i (0, [])) ≤ rzHi mx s (x.getD i (0, [])) ∧ rzHi mx s (x.getD i (0, [])) ≤ 67105793 := by
    intro i hi
    obtain ⟨l1, l2, hwA, _, _⟩ := tvOne_zero (hx i hi)
    obtain ⟨b1, b2, b3, b4⟩ := bd_of8 (c := 0) (lo := 0) (hi := mx) (m := mx) l1 l2 hwA (by omega) (by omega) (by omega) (by omega)
    have e1 := sh_small (a := bLo (x.getD i (0, [])).2 0 mx (x.getD i (0, [])).2.length) (s := s) (m := 17179082760) (by omega) (by omega) hs
    have e2 := sh_small (a := bHi (x.getD i (0, [])).2 0 mx (x.getD i (0, [])).2.length) (s := s) (m := 17179082760) (by omega) (by omega) hs
    have e3 := shV_mono (a := bLo (x.getD i (0, [])).2 0 mx (x.getD i (0, [])).2.length) (b := bHi (x.getD i (0, [])).2 0 mx (x.getD i (0, [])).2.length) (s := s) (by omega) b4 (by omega)
    exact ⟨b1, e1.1, e3, e2.2⟩
  have hac := ac_in (M := 67105793) (fun i hi => (key i hi).2) (x.length - 1) (by omega)
  rw [show x.length - 1 + 1 = x.length by omega] at hac
  have ac : acCode mx s x y = 0 := by
    unfold acCode
    rw [if_neg (by rw [acOk_all (fun i hi => (key i hi).1) _ (Nat.le_refl _)]; simp), if_neg (by
      rw [acOk_all (fun i hi => ?_) _ (Nat.le_refl _)]; simp
      obtain ⟨l1, l2, hwA, _, _⟩ := tvOne_zero (hy i hi)
      exact (bd_of8 (c := 0) (m := 67105793) l1 l2 hwA hac.1 hac.2.1 hac.2.2 (by omega)).1)]
  unfold rzCode shOk valOk
  rw [if_neg (by rw [tx]; simp), if_neg (by rw [ty]; simp), if_neg (by omega), if_neg (fun h => h ⟨by simp; omega, by simp; omega⟩), if_neg (fun h => h ⟨by simp; omega, by simp; omega⟩), ac]
theorem rzT_ok {w h mx : Int} {zs : List Int} {p f s s2 out r0 r1 r2 r3 : Int} {x y : Tbl} (hv : pValid w h mx zs = true) (hb : bValid p f mx = true) (hc : rzCode w h mx x y s s2 out = 0)
    (hin : 0 ≤ r0 ∧ r0 < r2 ∧ r2 ≤ (x.length : Int) ∧ 0 ≤ r1 ∧ r1 < r3 ∧ r3 ≤ (y.length : Int)) : rzTC w h mx zs p f x y s s2 out r0 r1 r2 r3 = 0 := by
  obtain ⟨tv1, tv2, _⟩ := rz_zero hc
  obtain ⟨a1, a2, _⟩ := tv_pos tv1
  obtain ⟨b1, b2, _⟩ := tv_pos tv2
  unfold rzTC
  rw [if_neg (by rw [hv, hb]; simp), if_neg (by rw [hc]; simp), if_neg (by rw [(rIs_iff (by omega) (by omega) (by omega) (by omega)).2 hin]; simp)]
theorem rG_valid2 {F : Int → Int → Int} {w h out : Int} (ho : 1 ≤ out ∧ out ≤ 4294967296) (hF : ∀ x y, 0 ≤ F x y ∧ F x y ≤ out) (hw : 1 ≤ w ∧ w ≤ 6) (hh : 1 ≤ h ∧ h ≤ 6) : pValid w h out (rG F 0 0 w h) = true := by
  have h1 : w * h ≤ 6 * 6 := Int.mul_le_mul hw.2 hh.2 (by omega) (by omega)
  have h2 : 0 ≤ w * h := Int.mul_nonneg (by omega) (by omega)
  refine rG_valid (mx := 1) (zs := List.replicate (w * h).toNat 0) ho hF (pValid_iff.2 ⟨pOk_iff.2 ⟨by omega, by omega, by omega, by omega, by omega, by omega, by omega⟩, ?_, ?_⟩)
  · rw [List.length_replicate]; omega
  · intro z hz
    rw [(List.mem_replicate.1 hz).2]; omega
end Go.Proofs.Ytaefdkinpaonkaa
