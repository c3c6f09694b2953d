/-
  Resizing with box tables over a whole plane: the rounded mean, within one unit for each of the two rounds.
-/
import Derived.Test.YtaefdkinpaonkaaRzOk
namespace Go.Proofs.Ytaefdkinpaonkaa
set_option linter.unusedVariables false

theorem sumN_mulL (c : Int) (g : Nat → Int) (n : Nat) : sumN (fun i => c * g i) n = c * sumN g n := by
  induction n with
  | zero => simp [sumN]
  | succ n ih => simp only [sumN]; rw [ih, Int.mul_add]
theorem sumN_mulR (g : Nat → Int) (c : Int) (n : Nat) : sumN (fun i => g i * c) n = sumN g n * c := by
  induction n with
  | zero => simp [sumN]
  | succ n ih => simp only [sumN]; rw [ih, Int.add_mul]
theorem sumN_rows (f : Nat → Int) (n m : Nat) : sumN f (m * n) = sumN (fun j => sumN (fun i => f (j * n + i)) n) m := by
  induction m with
  | zero => simp [sumN]
  | succ m ih => rw [Nat.add_mul, Nat.one_mul, sumN_split, ih]; rfl
/-- Weights of a box over n columns: n of them, their sum, each near the even part. -/
structure BoxW (n : Nat) (ws : List Int) : Prop where
  len : ws.length = n
  sum : sumN (fun i => ws.getD i 0) n = 16384
  pos : ∀ i, i < n → 0 ≤ ws.getD i 0
  near : ∀ i, i < n → -(n : Int) + 1 ≤ (n : Int) * ws.getD i 0 - 16384 ∧ (n : Int) * ws.getD i 0 - 16384 ≤ n - 1
def boxWb (n : Nat) (ws : List Int) : Bool := decide (ws.length = n) && decide (sumN (fun i => ws.getD i 0) n = 16384) && (List.range n).all (fun i => decide (0 ≤ ws.getD i 0) && decide (-(n : Int) + 1 ≤ (n : Int) * ws.getD i 0 - 16384 ∧ (n : Int) * ws.getD i 0 - 16384 ≤ n - 1))
theorem boxW_of {n : Nat} {ws : List Int} (h : boxWb n ws = true) : BoxW n ws := by
  unfold boxWb at h
  simp only [Bool.and_eq_true, decide_eq_true_eq, List.all_eq_true, List.mem_range] at h
  exact ⟨h.1.1, h.1.2, fun i hi => (h.2 i hi).1, fun i hi => (h.2 i hi).2⟩
theorem box1 (n : Nat) (h1 : 1 ≤ n) (h6 : n ≤ 6) : bxCode (n : Int) 1 14 = 0 ∧ bxT (n : Int) 1 14 = [(0, ((bxT (n : Int) 1 14).getD 0 (0, [])).2)] ∧ BoxW n ((bxT (n : Int) 1 14).getD 0 (0, [])).2 ∧ tvOne (0, ((bxT (n : Int) 1 14).getD 0 (0, [])).2) = 0 := by
  rcases (show n = 1 ∨ n = 2 ∨ n = 3 ∨ n = 4 ∨ n = 5 ∨ n = 6 by omega) with rfl | rfl | rfl | rfl | rfl | rfl <;>
  exact ⟨by decide +kernel, by decide +kernel, boxW_of (by decide +kernel), by decide +kernel⟩
/-- One round: the weighted sum of numbers from 0 to m is near their sum. -/
theorem round1 {n : Nat} {ws : List Int} (hw : BoxW n ws) {v : Nat → Int} {m : Int} (hv : ∀ i, i < n → 0 ≤ v i ∧ v i ≤ m) (hm : 0 ≤ m ∧ m ≤ 65535) :
    0 ≤ shV (sumN (fun i => ws.getD i 0 * v i) n) 14 ∧ shV (sumN (fun i => ws.getD i 0 * v i) n) 14 ≤ m ∧
    -((n : Int) * 16384 + (n : Int) * ((n - 1) * m)) ≤ 32768 * ((n : Int) * shV (sumN (fun i => ws.getD i 0 * v i) n) 14 - sumN v n) ∧ 32768 * ((n : Int) * shV (sumN (fun i => ws.getD i 0 * v i) n) 14 - sumN v n) ≤ (n : Int) * 16384 + (n : Int) * ((n - 1) * m) := by
  obtain ⟨S, hS⟩ : ∃ S, sumN (fun i => ws.getD i 0 * v i) n = S := ⟨_, rfl⟩
  have a1 : 0 ≤ S := by rw [← hS]; exact sumN_nonneg fun i hi => Int.mul_nonneg (hw.pos i hi) (hv i hi).1
  have a2 : S ≤ 16384 * m := by
    rw [← hS, ← hw.sum, ← sumN_mulR]
    exact sumN_le fun i hi => Int.mul_le_mul_of_nonneg_left (hv i hi).2 (hw.pos i hi)
  -- twice the error of the weights
  have a3 : 2 * ((n : Int) * S) - 32768 * sumN v n = sumN (fun i => ((n : Int) * ws.getD i 0 - 16384) * (2 * v i - m)) n := by
    have e1 : sumN (fun i => ((n : Int) * ws.getD i 0 - 16384) * (2 * v i - m)) n = sumN (fun i => (2 * (n : Int)) * (ws.getD i 0 * v i) + ((-32768) * v i + ((-((n : Int) * m)) * ws.getD i 0 + 16384 * m))) n := by
      refine sumN_congr fun i hi => ?_
      have : ((n : Int) * ws.getD i 0 - 16384) * (2 * v i - m) = (n : Int) * ws.getD i 0 * (2 * v i) - (n : Int) * ws.getD i 0 * m - 16384 * (2 * v i) + 16384 * m := by
        rw [Int.sub_mul, Int.mul_sub, Int.mul_sub]; omega
      rw [this, show (n : Int) * ws.getD i 0 * (2 * v i) = 2 * (n : Int) * (ws.getD i 0 * v i) by rw [Int.mul_left_comm, Int.mul_assoc, Int.mul_assoc], show -((n : Int) * m) * ws.getD i 0 = -((n : Int) * ws.getD i 0 * m) by rw [Int.neg_mul, Int.mul_right_comm]]
      omega
    rw [e1, sumN_add, sumN_mulL, sumN_add, sumN_mulL, sumN_add, sumN_mulL, sumN_const, hS, hw.sum]
    have : -((n : Int) * m) * 16384 = -((n : Int) * (16384 * m)) := by rw [Int.neg_mul, Int.mul_assoc, Int.mul_comm m]
    rw [this, Int.mul_assoc]; omega
  have a4 := sumN_abs (f := fun i => ((n : Int) * ws.getD i 0 - 16384) * (2 * v i - m)) (n := n) (c := ((n : Int) - 1) * m) (fun i hi => mul_abs (c := (n : Int) - 1) (m := m) (by have := hw.near i hi; omega) (by have := hv i hi; omega))
  rw [← a3] at a4
  have e14 : shV S 14 = (S + 8192) / 16384 := shV_yes (P := 8192) (Q := 16384) (by omega) rfl rfl
  rw [hS, e14]
  have d1 := Int.mul_ediv_add_emod (S + 8192) 16384
  have d2 := Int.emod_nonneg (S + 8192) (b := 16384) (by omega)
  have d3 := Int.emod_lt_of_pos (S + 8192) (b := 16384) (by omega)
  obtain ⟨g, hg⟩ : ∃ g, (S + 8192) / 16384 = g := ⟨_, rfl⟩
  rw [hg] at d1 ⊢
  have n0 : (0 : Int) ≤ n := by omega
  have b1 : (n : Int) * (16384 * g - S) ≤ (n : Int) * 8192 := Int.mul_le_mul_of_nonneg_left (by omega) n0
  have b2 : (n : Int) * (-8192) ≤ (n : Int) * (16384 * g - S) := Int.mul_le_mul_of_nonneg_left (by omega) n0
  have b3 : (n : Int) * (16384 * g - S) = 16384 * ((n : Int) * g) - (n : Int) * S := by rw [Int.mul_sub, Int.mul_left_comm]
  refine ⟨by omega, by omega, ?_, ?_⟩
  · omega
  · omega
/-- The pixel of a box table over the whole plane. -/
theorem rz_mean {nw nh : Nat} {mx : Int} {zs : List Int} (hv : pValid (nw : Int) (nh : Int) mx zs = true) (hm : mx ≤ 65535) (w1 : 1 ≤ nw) (w6 : nw ≤ 6) (h1 : 1 ≤ nh) (h6 : nh ≤ 6) :
    -((2 + mx / 2000) * (zs.length : Int)) ≤ rzP (nw : Int) (nh : Int) zs 0 0 (bxT (nw : Int) 1 14) (bxT (nh : Int) 1 14) 14 14 mx 0 0 * (zs.length : Int) - sumN (fun i => zs.getD i 0) zs.length ∧
    rzP (nw : Int) (nh : Int) zs 0 0 (bxT (nw : Int) 1 14) (bxT (nh : Int) 1 14) 14 14 mx 0 0 * (zs.length : Int) - sumN (fun i => zs.getD i 0) zs.length ≤ (2 + mx / 2000) * (zs.length : Int) := by
  obtain ⟨p1, p2, p3, p4, p5, p6, p7⟩ := pOk_iff.1 (pValid_iff.1 hv).1
  have hl : zs.length = nh * nw := by
    have := (pValid_iff.1 hv).2.1
    rw [← Int.natCast_mul] at this
    rw [Nat.mul_comm]; omega
  obtain ⟨-, ex, bx, -⟩ := box1 nw w1 w6
  obtain ⟨-, ey, by', -⟩ := box1 nh h1 h6
  obtain ⟨ws, hws⟩ : ∃ ws, ((bxT (nw : Int) 1 14).getD 0 (0, [])).2 = ws := ⟨_, rfl⟩
  obtain ⟨us, hus⟩ : ∃ us, ((bxT (nh : Int) 1 14).getD 0 (0, [])).2 = us := ⟨_, rfl⟩
  rw [hws] at ex bx
  rw [hus] at ey by'
  have hb : bValid 0 0 mx = true := by unfold bValid; simp
  obtain ⟨P, hP⟩ : ∃ P : Nat → Nat → Int, (fun j i => zs.getD (j * nw + i) 0) = P := ⟨_, rfl⟩
  have hpix : ∀ i j : Nat, i < nw → j < nh → pPix (nw : Int) (nh : Int) zs 0 0 (0 + (i : Int)) ((0 : Int) + (j : Int)) = P j i := fun i j hi hj => by
    rw [pPix_in zs p2 p4 (by omega) (by omega) (by omega), ← hP]
    show zs.getD _ 0 = zs.getD _ 0
    congr 1
    have : ((0 : Int) + (j : Int)) * (nw : Int) + (0 + (i : Int)) = ((j * nw + i : Nat) : Int) := by simp
    rw [this]; exact Int.toNat_natCast _
  have hPb : ∀ i j : Nat, i < nw → j < nh → 0 ≤ P j i ∧ P j i ≤ mx := fun i j hi hj => by rw [← hpix i j hi hj]; exact pPix_bd hv hb _ _
  obtain ⟨G, hG⟩ : ∃ G : Nat → Int, (fun j => shV (sumN (fun i => ws.getD i 0 * P j i) nw) 14) = G := ⟨_, rfl⟩
  have hGr := fun (j : Nat) (hj : j < nh) => round1 bx (v := P j) (m := mx) (fun i hi => hPb i j hi hj) ⟨by omega, hm⟩
  have hr := round1 by' (v := G) (m := mx) (fun j hj => by rw [← hG]; exact ⟨(hGr j hj).1, (hGr j hj).2.1⟩) ⟨by omega, hm⟩
  have hX : rzP (nw : Int) (nh : Int) zs 0 0 (bxT (nw : Int) 1 14) (bxT (nh : Int) 1 14) 14 14 mx 0 0 = shV (sumN (fun j => us.getD j 0 * G j) nh) 14 := by
    unfold rzP
    rw [ex, ey]
    show clV (shV (rzS _ _ zs 0 0 (0, ws) (0, us) 14 us.length) 14) mx = _
    have : rzS (nw : Int) (nh : Int) zs 0 0 (0, ws) (0, us) 14 us.length = sumN (fun j => us.getD j 0 * G j) nh := by
      rw [by'.len]
      unfold rzS
      refine sumN_congr fun j hj => ?_
      show us.getD j 0 * rzM _ _ zs 0 0 (0, ws) 14 ((0 : Int) + (j : Int)) = _
      rw [← hG]
      show _ = us.getD j 0 * shV (sumN (fun i => ws.getD i 0 * P j i) nw) 14
      rw [rzM_eq]
      show us.getD j 0 * shV (sumN (fun i => ws.getD i 0 * pPix _ _ zs 0 0 ((0 : Int) + (i : Int)) ((0 : Int) + (j : Int))) ws.length) 14 = _
      rw [bx.len]
      congr 2
      exact sumN_congr fun i hi => by rw [hpix i j hi hj]
    rw [this]
    exact clV_id hr.1 hr.2.1
  have hsum : sumN (fun i => zs.getD i 0) zs.length = sumN (fun j => sumN (P j) nw) nh := by
    rw [hl, sumN_rows]
    exact sumN_congr fun j _ => sumN_congr fun i _ => by rw [← hP]
  obtain ⟨X, hXX⟩ : ∃ X, shV (sumN (fun j => us.getD j 0 * G j) nh) 14 = X := ⟨_, rfl⟩
  rw [hX, hXX, hsum, hl]
  rw [hXX] at hr
  obtain ⟨_, _, r1, r2⟩ := hr
  obtain ⟨E, hE⟩ : ∃ E : Int, (nw : Int) * 16384 + (nw : Int) * ((nw - 1) * mx) = E := ⟨_, rfl⟩
  have s1 := sumN_abs (f := fun j => 32768 * ((nw : Int) * G j - sumN (P j) nw)) (n := nh) (c := E) (fun j hj => by
    have := hGr j hj; rw [hE] at this; rw [← hG]; exact ⟨this.2.2.1, this.2.2.2⟩)
  have s2 : sumN (fun j => 32768 * ((nw : Int) * G j - sumN (P j) nw)) nh = 32768 * ((nw : Int) * sumN G nh - sumN (fun j => sumN (P j) nw) nh) := by
    rw [sumN_mulL]
    congr 1
    have e : sumN (fun j => (nw : Int) * G j - sumN (P j) nw) nh = sumN (fun j => (nw : Int) * G j + (-1) * sumN (P j) nw) nh := sumN_congr fun j _ => by omega
    rw [e, sumN_add, sumN_mulL, sumN_mulL]; omega
  rw [s2] at s1
  obtain ⟨T, hT⟩ : ∃ T, sumN (fun j => sumN (P j) nw) nh = T := ⟨_, rfl⟩
  obtain ⟨SG, hSG⟩ : ∃ T, sumN G nh = T := ⟨_, rfl⟩
  rw [hT, hSG] at s1
  rw [hSG] at r1 r2
  rw [hT, Int.natCast_mul]
  clear hGr hX hXX hsum hT hSG s2 hPb hpix
  -- numbers up to six
  rcases (show nw = 1 ∨ nw = 2 ∨ nw = 3 ∨ nw = 4 ∨ nw = 5 ∨ nw = 6 by omega) with rfl | rfl | rfl | rfl | rfl | rfl <;>
  rcases (show nh = 1 ∨ nh = 2 ∨ nh = 3 ∨ nh = 4 ∨ nh = 5 ∨ nh = 6 by omega) with rfl | rfl | rfl | rfl | rfl | rfl <;>
  (subst hE; omega)
end Go.Proofs.Ytaefdkinpaonkaa
