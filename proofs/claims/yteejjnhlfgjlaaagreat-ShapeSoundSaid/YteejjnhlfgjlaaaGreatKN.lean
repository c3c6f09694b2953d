/-
 Plain law: convolutions: the pixels, the sums, the errors; results as grids and their crops. Contracts: the errors of kernels, in the program and in the reference.
-/
import Derived.Test.YteejjnhlfgjlaaaGreatKE
import Derived.Test.YteejjnhlfgjlaaaGreatKF
import Derived.Test.YteejjnhlfgjlaaaGreatKA
namespace Go.Proofs.YteejjnhlfgjlaaaGreat
section
open Go.RowKit

def tI (c x : Int) : Int := if c = 0 then x else 0
def tL (c : Int) (l : List Int) : List Int := if c = 0 then l else []
def TPost (c dx dy out : Int) (l : List Int) (W : World) (e : Ending) (w' : World) : Prop :=
 ∃ v, e = .returned (.tuple #[.agg #[.int .i64 (tI c dx), .int .i64 (tI c dy), .int .i64 (tI c out), v], .int .i64 c]) ∧ Own W.heap.size w' v (tL c l) ∧ Below W.heap.size W w'

theorem TPost.no {c dx dy out k : Int} {l : List Int} {W w' : World} (hk : c = k) (h0 : k ≠ 0) (hb : Below W.heap.size W w') : TPost c dx dy out l W (.returned (.tuple #[.agg #[.int .i64 0, .int .i64 0, .int .i64 0, .slice none 0 0], .int .i64 k])) w' := by
 subst hk; exact ⟨_, by unfold tI; rw [if_neg h0, if_neg h0, if_neg h0], by unfold tL; rw [if_neg h0]; exact Own.nil _ _, hb⟩
theorem TPost.yes {c dx dy out : Int} {v : Value} {l : List Int} {W w' : World} (hc : c = 0) (ho : Own W.heap.size w' v l) (hb : Below W.heap.size W w') : TPost c dx dy out l W (.returned (.tuple #[.agg #[.int .i64 dx, .int .i64 dy, .int .i64 out, v], .int .i64 0])) w' := by
 subst hc; exact ⟨_, by unfold tI; rw [if_pos rfl, if_pos rfl, if_pos rfl], by unfold tL; rw [if_pos rfl]; exact ho, hb⟩
theorem bValid_f {p f m : Int} (h : bValid p f m = true) (hm : 0 ≤ m) : 0 ≤ f ∧ f ≤ m := by
 unfold bValid at h
 split at h
 ·
  have := of_decide_eq_true h; omega
 split at h
 ·
  have := of_decide_eq_true h; omega
 cases h
theorem pPix_bd {w h mx : Int} {zs : List Int} {p f : Int} (hv : pValid w h mx zs = true) (hb : bValid p f mx = true) (x y : Int) : 0 ≤ pPix w h zs p f x y ∧ pPix w h zs p f x y ≤ mx := by
 have hp := pOk_iff.1 (pValid_iff.1 hv).1
 unfold pPix
 split
 ·
  rcases Nat.lt_or_ge (bIdx y h p * w + bIdx x w p).toNat zs.length with h1 | h1
  ·
   exact (pValid_iff.1 hv).2.2 _ (getD_mem' h1)
  rw [List.getD_eq_getElem?_getD, List.getElem?_eq_none h1]
  show (0 : Int) ≤ 0 ∧ (0 : Int) ≤ mx
  omega
 exact bValid_f hb (by omega)

def cvF (w h : Int) (zs : List Int) (p f kw kh : Int) (ws : List Int) (x y : Int) (k : Nat) : Int :=
 ws.getD k 0 * pPix w h zs p f (x + (k : Int) % kw - kw / 2) (y + (k : Int) / kw - kh / 2)
def cvS (w h : Int) (zs : List Int) (p f kw kh : Int) (ws : List Int) (x y : Int) (n : Nat) : Int := sumN (cvF w h zs p f kw kh ws x y) n
def cvP (w h : Int) (zs : List Int) (p f kw kh : Int) (ws : List Int) (shift out x y : Int) : Int := clV (shV (cvS w h zs p f kw kh ws x y ws.length) shift) out
def cvCode (mx kw kh : Int) (ws : List Int) (shift out : Int) : Int :=
 if ¬ (sideOk kw = true ∧ sideOk kh = true ∧ (ws.length : Int) = kw * kh) then 9
 else if ¬ (wAll ws = true ∧ shOk shift = true) then 10
 else if ¬ (valOk mx = true ∧ valOk out = true) then 2
 else if bdOk ws 0 mx = false then 11 else 0
def rIs (r0 r1 r2 r3 w h : Int) : Bool := !rEmpty r0 r1 r2 r3 && rInside r0 r1 r2 r3 0 0 w h
def cvTC (w h mx : Int) (zs : List Int) (p f kw kh : Int) (ws : List Int) (shift out r0 r1 r2 r3 : Int) : Int :=
 if ¬ (pValid w h mx zs = true ∧ bValid p f mx = true) then 1
 else if cvCode mx kw kh ws shift out ≠ 0 then cvCode mx kw kh ws shift out
 else if rIs r0 r1 r2 r3 w h = false then 8 else 0
def rG (F : Int → Int → Int) (r0 r1 r2 r3 : Int) : List Int := gridL (fun k j => F (r0 + j) (r1 + k)) (r2 - r0).toNat (r3 - r1).toNat 0
def cvL (w h : Int) (zs : List Int) (p f kw kh : Int) (ws : List Int) (shift out r0 r1 r2 r3 : Int) : List Int := rG (cvP w h zs p f kw kh ws shift out) r0 r1 r2 r3

theorem cvF_bd {w h mx : Int} {zs : List Int} {p f : Int} (hv : pValid w h mx zs = true) (hb : bValid p f mx = true) {ws : List Int} (hw : wAll ws = true) (kw kh x y : Int) {k : Nat} (hk : k < ws.length) :
  -140733193388032 ≤ cvF w h zs p f kw kh ws x y k ∧ cvF w h zs p f kw kh ws x y k ≤ 140733193388032 := by
 have hp := pOk_iff.1 (pValid_iff.1 hv).1; have h1 := wAll_iff.1 hw k hk; have h2 := pPix_bd hv hb (x + (k : Int) % kw - kw / 2) (y + (k : Int) / kw - kh / 2)
 unfold cvF
 generalize ws.getD k 0 = z at *; generalize pPix w h zs p f (x + (k : Int) % kw - kw / 2) (y + (k : Int) / kw - kh / 2) = v at *; have h3 : z.natAbs ≤ 32767 := by omega
 have h4 : v.natAbs ≤ 4294967296 := by omega
 have h5 := Nat.mul_le_mul h3 h4; rw [← Int.natAbs_mul] at h5
 omega
theorem cvS_bd {w h mx : Int} {zs : List Int} {p f : Int} (hv : pValid w h mx zs = true) (hb : bValid p f mx = true) {ws : List Int} (hw : wAll ws = true) (kw kh x y : Int) {n : Nat} (hn : n ≤ ws.length) (h81 : ws.length ≤ 81) :
  -11399388664430592 ≤ cvS w h zs p f kw kh ws x y n ∧ cvS w h zs p f kw kh ws x y n ≤ 11399388664430592 := by
 have := sumN_abs (f := cvF w h zs p f kw kh ws x y) (n := n) (c := 140733193388032) (fun i hi => cvF_bd hv hb hw kw kh x y (by omega))
 unfold cvS
 omega
theorem cv_len {mx kw kh shift out : Int} {ws : List Int} (h : cvCode mx kw kh ws shift out = 0) : 1 ≤ kw ∧ kw ≤ 9 ∧ 1 ≤ kh ∧ kh ≤ 9 ∧ (ws.length : Int) = kw * kh ∧ ws.length ≤ 81 ∧ 1 ≤ ws.length ∧ wAll ws = true ∧ 0 ≤ shift ∧ shift ≤ 24 ∧ 1 ≤ out ∧ out ≤ 4294967296 ∧ bdOk ws 0 mx = true := by
 unfold cvCode at h
 split at h
 ·
  omega
 rename_i h1
 split at h
 ·
  omega
 rename_i h2
 split at h
 ·
  omega
 rename_i h3
 split at h
 ·
  omega
 rename_i h4; simp only [Decidable.not_not, sideOk, shOk, valOk, decide_eq_true_eq] at h1 h2 h3; have h5 : kw * kh ≤ 9 * 9 := Int.mul_le_mul h1.1.2 h1.2.1.2 (by omega) (by omega); have h6 : 1 * 1 ≤ kw * kh := Int.mul_le_mul h1.1.1 h1.2.1.1 (by omega) (by omega); refine ⟨h1.1.1, h1.1.2, h1.2.1.1, h1.2.1.2, h1.2.2, by omega, by omega, h2.1, h2.2.1, h2.2.2, h3.2.1, h3.2.2, by simpa using h4⟩

theorem cvF_at {kw kh : Int} {KW jj ii : Nat} (hw : kw = KW) (hi : ii < KW) (w h : Int) (zs : List Int) (p f : Int) (ws : List Int) (x y : Int) :
  cvF w h zs p f kw kh ws x y (jj * KW + ii) = ws.getD (jj * KW + ii) 0 * pPix w h zs p f (x + ii - kw / 2) (y + jj - kh / 2) := by
 have e1 : ((jj * KW + ii : Nat) : Int) % kw = ii := by
  rw [hw, ← Int.natCast_emod]; congr 1; rw [Nat.add_comm, Nat.add_mul_mod_self_right, Nat.mod_eq_of_lt hi]
 have e2 : ((jj * KW + ii : Nat) : Int) / kw = jj := by
  rw [hw, ← Int.natCast_ediv]; congr 1; rw [Nat.add_comm, Nat.add_mul_div_right _ _ (by omega), Nat.div_eq_of_lt hi, Nat.zero_add]
 unfold cvF
 rw [e1, e2]
/-! ### Grids -/
theorem rIs_iff {r0 r1 r2 r3 w h : Int} (hw : 1 ≤ w) (hw' : w ≤ 128) (hh : 1 ≤ h) (hh' : h ≤ 128) : rIs r0 r1 r2 r3 w h = true ↔ 0 ≤ r0 ∧ r0 < r2 ∧ r2 ≤ w ∧ 0 ≤ r1 ∧ r1 < r3 ∧ r3 ≤ h := by
 unfold rIs
 rw [inside_iff hw hw' hh hh']
theorem rG_len (F : Int → Int → Int) (r0 r1 r2 r3 : Int) : (rG F r0 r1 r2 r3).length = (r3 - r1).toNat * (r2 - r0).toNat := by unfold rG; rw [gridL_len]; rfl
end

section
open Go.RowKit
attribute [local go_sem ↓] Go.wp_at_zero Go.wp_at_succ
set_option linter.unusedVariables false
set_option linter.unusedSimpArgs false

set_option maxHeartbeats 800000 in
theorem rside_any (v : Int) (w : World) : Calls Tryz.prog 88 #[.int .i64 v] w fun e w' => e = .returned (.bool (sideOk v)) ∧ w' = w := by
 go_enter Tryz.func88, Tryz.ntmps88
 go_wp2
 all_goals (go_ret; refine ⟨ret_b (bool_of_iff ?_), rfl⟩; simp only [sideOk, valOk, decide_eq_true_eq, Bool.false_eq_true, false_iff, true_iff, Bool.and_eq_true, iff_false, iff_true] <;> omega)

set_option maxHeartbeats 800000 in
theorem rval_any (v : Int) (w : World) : Calls Tryz.prog 91 #[.int .i64 v] w fun e w' => e = .returned (.bool (valOk v)) ∧ w' = w := by
 go_enter Tryz.func91, Tryz.ntmps91
 go_wp2
 all_goals (go_ret; refine ⟨ret_b (bool_of_iff ?_), rfl⟩; simp only [sideOk, valOk, decide_eq_true_eq, Bool.false_eq_true, false_iff, true_iff, Bool.and_eq_true, iff_false, iff_true] <;> omega)

set_option maxRecDepth 100000 in
set_option maxHeartbeats 3200000 in
theorem ccheck_any (mx kw kh shift out : Int) (a : Option Addr) (n c : Nat) (ws : List Int) (W : World) (hs : Slc W a n c ws) :
  Calls Tryz.prog 39 #[.int .i64 mx, .int .i64 kw, .int .i64 kh, .slice a n c, .int .i64 shift, .int .i64 out] W fun e w' => e = .returned (.int .i64 (cvCode mx kw kh ws shift out)) ∧ Below W.heap.size W w' := by
 obtain ⟨B, hB⟩ : ∃ B, W.heap.size = B := ⟨_, rfl⟩; have HI0 := kq (St.init hB); have HS := kq hs; have HL := kq hs.len; have nmx : (n : Int) ≤ 9223372036854775807 := by have := hs.nc; have := hs.cap; omega
 clear hs
 go_enter Tryz.func39, Tryz.ntmps39
 by_cases c1 : (kw : Int) < 1
 ·
  go_wp2_with fail
  go_ret
  exact ⟨ret_i (by unfold cvCode; rw [if_pos (show ¬ (sideOk kw = true ∧ sideOk kh = true ∧ (ws.length : Int) = kw * kh) from by simp only [sideOk, decide_eq_true_eq]; rw [HL.o]; omega)]), HI0.o.bl⟩
 by_cases c2 : (9 : Int) < kw
 ·
  go_wp2_with fail
  go_ret
  exact ⟨ret_i (by unfold cvCode; rw [if_pos (show ¬ (sideOk kw = true ∧ sideOk kh = true ∧ (ws.length : Int) = kw * kh) from by simp only [sideOk, decide_eq_true_eq]; rw [HL.o]; omega)]), HI0.o.bl⟩
 by_cases c3 : (kh : Int) < 1
 ·
  go_wp2_with fail
  go_ret
  exact ⟨ret_i (by unfold cvCode; rw [if_pos (show ¬ (sideOk kw = true ∧ sideOk kh = true ∧ (ws.length : Int) = kw * kh) from by simp only [sideOk, decide_eq_true_eq]; rw [HL.o]; omega)]), HI0.o.bl⟩
 by_cases c4 : (9 : Int) < kh
 ·
  go_wp2_with fail
  go_ret
  exact ⟨ret_i (by unfold cvCode; rw [if_pos (show ¬ (sideOk kw = true ∧ sideOk kh = true ∧ (ws.length : Int) = kw * kh) from by simp only [sideOk, decide_eq_true_eq]; rw [HL.o]; omega)]), HI0.o.bl⟩
 have p1 : kw * kh ≤ 9 * 9 := Int.mul_le_mul (by omega) (by omega) (by omega) (by omega); have p2 : 1 * 1 ≤ kw * kh := Int.mul_le_mul (by omega) (by omega) (by omega) (by omega); obtain ⟨KK, hKK⟩ := nK (kw * kh); rw [hKK] at p1 p2; have HKK := kq hKK; have wk : IntKind.i64.wrap KK = KK := IntWalk.i64_in _ (by omega)
 rcases eqZ n KK with ⟨c5a, c5b, c5c, c5d, c5h⟩ | ⟨c5a, c5b, c5h⟩
 ·
  go_wp2_with fail
  refine (fweights_any _ _ _ _ _ (HI0.o.old HS.o)).mono ?_; rintro e w6 ⟨rfl, hb⟩; have H7 := kq (HI0.o.call hb); clear hb; obtain ⟨k8, HNk8⟩ := nQ (wCode ws); rw [HNk8.o]
  rcases eqZ k8 0 with ⟨c9a, c9b, c9c, c9d, c9h⟩ | ⟨c9a, c9b, c9h⟩
  ·
   by_cases c6 : (shift : Int) < 0
   ·
    go_wp2_with fail
    go_ret
    exact ⟨ret_i (by unfold cvCode; rw [if_neg (show ¬ ¬ (sideOk kw = true ∧ sideOk kh = true ∧ (ws.length : Int) = kw * kh) from by simp only [sideOk, decide_eq_true_eq]; rw [HL.o, HKK.o]; have := c5h.o; have := c9h.o; omega), if_pos (by intro hc; have h2 := wCode_zero.2 ⟨by rw [HL.o]; omega, by rw [HL.o]; omega, hc.1⟩; have h3 := hc.2; rw [HNk8.o] at h2; simp only [shOk, decide_eq_true_eq] at h3; have := c5h.o; have := c9h.o; omega)]), H7.o.bl⟩
   by_cases c6 : (24 : Int) < shift
   ·
    go_wp2_with fail
    go_ret
    exact ⟨ret_i (by unfold cvCode; rw [if_neg (show ¬ ¬ (sideOk kw = true ∧ sideOk kh = true ∧ (ws.length : Int) = kw * kh) from by simp only [sideOk, decide_eq_true_eq]; rw [HL.o, HKK.o]; have := c5h.o; have := c9h.o; omega), if_pos (by intro hc; have h2 := wCode_zero.2 ⟨by rw [HL.o]; omega, by rw [HL.o]; omega, hc.1⟩; have h3 := hc.2; rw [HNk8.o] at h2; simp only [shOk, decide_eq_true_eq] at h3; have := c5h.o; have := c9h.o; omega)]), H7.o.bl⟩
   by_cases c6 : (mx : Int) < 1
   ·
    go_wp2_with fail
    go_ret
    exact ⟨ret_i (by unfold cvCode; rw [if_neg (show ¬ ¬ (sideOk kw = true ∧ sideOk kh = true ∧ (ws.length : Int) = kw * kh) from by simp only [sideOk, decide_eq_true_eq]; rw [HL.o, HKK.o]; have := c5h.o; have := c9h.o; omega), if_neg (show ¬ ¬ (wAll ws = true ∧ shOk shift = true) from fun hc => hc ⟨(wCode_zero.1 (by rw [HNk8.o]; have := c5h.o; have := c9h.o; omega)).2.2, by simp only [shOk, decide_eq_true_eq]; omega⟩), if_pos (by simp only [valOk, decide_eq_true_eq]; omega)]), H7.o.bl⟩
   by_cases c6 : (4294967296 : Int) < mx
   ·
    go_wp2_with fail
    go_ret
    exact ⟨ret_i (by unfold cvCode; rw [if_neg (show ¬ ¬ (sideOk kw = true ∧ sideOk kh = true ∧ (ws.length : Int) = kw * kh) from by simp only [sideOk, decide_eq_true_eq]; rw [HL.o, HKK.o]; have := c5h.o; have := c9h.o; omega), if_neg (show ¬ ¬ (wAll ws = true ∧ shOk shift = true) from fun hc => hc ⟨(wCode_zero.1 (by rw [HNk8.o]; have := c5h.o; have := c9h.o; omega)).2.2, by simp only [shOk, decide_eq_true_eq]; omega⟩), if_pos (by simp only [valOk, decide_eq_true_eq]; omega)]), H7.o.bl⟩
   by_cases c6 : (out : Int) < 1
   ·
    go_wp2_with fail
    go_ret
    exact ⟨ret_i (by unfold cvCode; rw [if_neg (show ¬ ¬ (sideOk kw = true ∧ sideOk kh = true ∧ (ws.length : Int) = kw * kh) from by simp only [sideOk, decide_eq_true_eq]; rw [HL.o, HKK.o]; have := c5h.o; have := c9h.o; omega), if_neg (show ¬ ¬ (wAll ws = true ∧ shOk shift = true) from fun hc => hc ⟨(wCode_zero.1 (by rw [HNk8.o]; have := c5h.o; have := c9h.o; omega)).2.2, by simp only [shOk, decide_eq_true_eq]; omega⟩), if_pos (by simp only [valOk, decide_eq_true_eq]; omega)]), H7.o.bl⟩
   by_cases c6 : (4294967296 : Int) < out
   ·
    go_wp2_with fail
    go_ret
    exact ⟨ret_i (by unfold cvCode; rw [if_neg (show ¬ ¬ (sideOk kw = true ∧ sideOk kh = true ∧ (ws.length : Int) = kw * kh) from by simp only [sideOk, decide_eq_true_eq]; rw [HL.o, HKK.o]; have := c5h.o; have := c9h.o; omega), if_neg (show ¬ ¬ (wAll ws = true ∧ shOk shift = true) from fun hc => hc ⟨(wCode_zero.1 (by rw [HNk8.o]; have := c5h.o; have := c9h.o; omega)).2.2, by simp only [shOk, decide_eq_true_eq]; omega⟩), if_pos (by simp only [valOk, decide_eq_true_eq]; omega)]), H7.o.bl⟩
   go_wp2_with fail
   refine (fbounds_any _ _ _ _ _ _ _ (H7.o.old HS.o)).mono ?_; rintro e w16 ⟨rfl, hb⟩; have H1 := kq (H7.o.call hb); clear hb; obtain ⟨x1, HNx1⟩ := nQ (bdLo ws 0 mx); rw [HNx1.o]; obtain ⟨x1, HNx1⟩ := nQ (bdHi ws 0 mx); rw [HNx1.o]; obtain ⟨b1, HNb1⟩ := nQ (bdOk ws 0 mx); rw [HNb1.o]; cases b1; rotate_left
   ·
    go_wp2_with fail
    go_ret
    exact ⟨ret_i (by unfold cvCode; rw [if_neg (show ¬ ¬ (sideOk kw = true ∧ sideOk kh = true ∧ (ws.length : Int) = kw * kh) from by simp only [sideOk, decide_eq_true_eq]; rw [HL.o, HKK.o]; have := c5h.o; have := c9h.o; omega), if_neg (show ¬ ¬ (wAll ws = true ∧ shOk shift = true) from fun hc => hc ⟨(wCode_zero.1 (by rw [HNk8.o]; have := c5h.o; have := c9h.o; omega)).2.2, by simp only [shOk, decide_eq_true_eq]; omega⟩), if_neg (by simp only [valOk, decide_eq_true_eq]; omega), if_neg (by rw [HNb1.o]; simp)]), H1.o.bl⟩
   go_wp2_with fail
   go_ret
   exact ⟨ret_i (by unfold cvCode; rw [if_neg (show ¬ ¬ (sideOk kw = true ∧ sideOk kh = true ∧ (ws.length : Int) = kw * kh) from by simp only [sideOk, decide_eq_true_eq]; rw [HL.o, HKK.o]; have := c5h.o; have := c9h.o; omega), if_neg (show ¬ ¬ (wAll ws = true ∧ shOk shift = true) from fun hc => hc ⟨(wCode_zero.1 (by rw [HNk8.o]; have := c5h.o; have := c9h.o; omega)).2.2, by simp only [shOk, decide_eq_true_eq]; omega⟩), if_neg (by simp only [valOk, decide_eq_true_eq]; omega), if_pos HNb1.o]), H1.o.bl⟩
  go_wp2_with fail
  go_ret
  exact ⟨ret_i (by unfold cvCode; rw [if_neg (show ¬ ¬ (sideOk kw = true ∧ sideOk kh = true ∧ (ws.length : Int) = kw * kh) from by simp only [sideOk, decide_eq_true_eq]; rw [HL.o, HKK.o]; have := c5h.o; have := c9h.o; omega), if_pos (by intro hc; have h2 := wCode_zero.2 ⟨by rw [HL.o]; omega, by rw [HL.o]; omega, hc.1⟩; have h3 := hc.2; rw [HNk8.o] at h2; simp only [shOk, decide_eq_true_eq] at h3; have := c5h.o; have := c9h.o; omega)]), H7.o.bl⟩
 go_wp2_with fail
 go_ret
 exact ⟨ret_i (by unfold cvCode; rw [if_pos (show ¬ (sideOk kw = true ∧ sideOk kh = true ∧ (ws.length : Int) = kw * kh) from by simp only [sideOk, decide_eq_true_eq]; rw [HL.o]; have := c5h.o; have := HKK.o; omega)]), HI0.o.bl⟩

set_option maxRecDepth 100000 in
set_option maxHeartbeats 3200000 in
theorem rccheck_any (mx kw kh shift out : Int) (a : Option Addr) (n c : Nat) (ws : List Int) (W : World) (hs : Slc W a n c ws) :
  Calls Tryz.prog 67 #[.int .i64 mx, .int .i64 kw, .int .i64 kh, .slice a n c, .int .i64 shift, .int .i64 out] W fun e w' => e = .returned (.int .i64 (cvCode mx kw kh ws shift out)) ∧ Below W.heap.size W w' := by
 obtain ⟨B, hB⟩ : ∃ B, W.heap.size = B := ⟨_, rfl⟩; have HI0 := kq (St.init hB); have HS := kq hs; have HL := kq hs.len; have nmx : (n : Int) ≤ 9223372036854775807 := by have := hs.nc; have := hs.cap; omega
 clear hs
 go_enter Tryz.func67, Tryz.ntmps67
 go_wp2_with fail
 refine (rside_any _ _).mono ?_; rintro e w1 ⟨rfl, hsw⟩; have hsw2 : W = w1 := by first | exact hsw | exact hsw.symm
 clear hsw; subst hsw2; obtain ⟨b1, HNb1⟩ := nQ (sideOk kw); rw [HNb1.o]; cases b1; rotate_left
 ·
  go_wp2_with fail
  refine (rside_any _ _).mono ?_; rintro e w1 ⟨rfl, hsw⟩; have hsw2 : W = w1 := by first | exact hsw | exact hsw.symm
  clear hsw; subst hsw2; obtain ⟨b1, HNb2⟩ := nQ (sideOk kh); rw [HNb2.o]; cases b1; rotate_left
  ·
   obtain ⟨kw1, kw2⟩ : 1 ≤ kw ∧ kw ≤ 9 := by have := HNb1.o; simpa [sideOk] using this
   obtain ⟨kh1, kh2⟩ : 1 ≤ kh ∧ kh ≤ 9 := by have := HNb2.o; simpa [sideOk] using this
   have p1 : kw * kh ≤ 9 * 9 := Int.mul_le_mul (by omega) (by omega) (by omega) (by omega); have p2 : 1 * 1 ≤ kw * kh := Int.mul_le_mul (by omega) (by omega) (by omega) (by omega); obtain ⟨KK, hKK⟩ := nK (kw * kh); rw [hKK] at p1 p2; have HKK := kq hKK; have wk : IntKind.i64.wrap KK = KK := IntWalk.i64_in _ (by omega)
   rcases eqZ n KK with ⟨c1a, c1b, c1c, c1d, c1h⟩ | ⟨c1a, c1b, c1h⟩
   ·
    go_wp2_with fail
    refine (rareweights_any _ _ _ _ _ (HI0.o.old HS.o)).mono ?_; rintro e w1 ⟨rfl, hb⟩; have H1 := kq (HI0.o.call hb); clear hb; obtain ⟨b1, HNb3⟩ := nQ (wAll ws); rw [HNb3.o]; cases b1; rotate_left
    ·
     go_wp2_with fail
     refine (rshok_any _ _).mono ?_; rintro e w2 ⟨rfl, hsw⟩; have hsw2 : w1 = w2 := by first | exact hsw | exact hsw.symm
     clear hsw; subst hsw2; obtain ⟨b1, HNb4⟩ := nQ (shOk shift); rw [HNb4.o]; cases b1; rotate_left
     ·
      go_wp2_with fail
      refine (rval_any _ _).mono ?_; rintro e w2 ⟨rfl, hsw⟩; have hsw2 : w1 = w2 := by first | exact hsw | exact hsw.symm
      clear hsw; subst hsw2; obtain ⟨b32, HNb32⟩ := nQ (valOk mx); rw [HNb32.o]; cases b32; rotate_left
      ·
       go_wp2_with fail
       refine (rval_any _ _).mono ?_; rintro e w2 ⟨rfl, hsw⟩; have hsw2 : w1 = w2 := by first | exact hsw | exact hsw.symm
       clear hsw; subst hsw2; obtain ⟨b1, HNb5⟩ := nQ (valOk out); rw [HNb5.o]; cases b1; rotate_left
       ·
        go_wp2_with fail
        refine (rbounds_any _ _ _ _ _ _ _ (H1.o.old HS.o)).mono ?_; rintro e w1 ⟨rfl, hb⟩; have H2 := kq (H1.o.call hb); clear hb; obtain ⟨x1, HNx1⟩ := nQ (bdLo ws 0 mx); rw [HNx1.o]; obtain ⟨x1, HNx1⟩ := nQ (bdHi ws 0 mx); rw [HNx1.o]; obtain ⟨b1, HNb6⟩ := nQ (bdOk ws 0 mx); rw [HNb6.o]; cases b1; rotate_left
        ·
         go_wp2_with fail
         go_ret
         exact ⟨ret_i (by unfold cvCode; rw [if_neg (fun hc => hc ⟨HNb1.o, HNb2.o, by rw [HL.o, HKK.o]; have := c1h.o; omega⟩), if_neg (fun hc => hc ⟨HNb3.o, HNb4.o⟩), if_neg (fun hc => hc ⟨HNb32.o, HNb5.o⟩), if_neg (by rw [HNb6.o]; simp)]), H2.o.bl⟩
        go_wp2_with fail
        go_ret
        exact ⟨ret_i (by unfold cvCode; rw [if_neg (fun hc => hc ⟨HNb1.o, HNb2.o, by rw [HL.o, HKK.o]; have := c1h.o; omega⟩), if_neg (fun hc => hc ⟨HNb3.o, HNb4.o⟩), if_neg (fun hc => hc ⟨HNb32.o, HNb5.o⟩), if_pos HNb6.o]), H2.o.bl⟩
       go_wp2_with fail
       go_ret
       exact ⟨ret_i (by unfold cvCode; rw [if_neg (fun hc => hc ⟨HNb1.o, HNb2.o, by rw [HL.o, HKK.o]; have := c1h.o; omega⟩), if_neg (fun hc => hc ⟨HNb3.o, HNb4.o⟩), if_pos (by intro hc; rw [HNb5.o] at hc; simp at hc)]), H1.o.bl⟩
      go_wp2_with fail
      go_ret
      exact ⟨ret_i (by unfold cvCode; rw [if_neg (fun hc => hc ⟨HNb1.o, HNb2.o, by rw [HL.o, HKK.o]; have := c1h.o; omega⟩), if_neg (fun hc => hc ⟨HNb3.o, HNb4.o⟩), if_pos (by intro hc; rw [HNb32.o] at hc; simp at hc)]), H1.o.bl⟩
     go_wp2_with fail
     go_ret
     exact ⟨ret_i (by unfold cvCode; rw [if_neg (fun hc => hc ⟨HNb1.o, HNb2.o, by rw [HL.o, HKK.o]; have := c1h.o; omega⟩), if_pos (by intro hc; rw [HNb4.o] at hc; simp at hc)]), H1.o.bl⟩
    go_wp2_with fail
    go_ret
    exact ⟨ret_i (by unfold cvCode; rw [if_neg (fun hc => hc ⟨HNb1.o, HNb2.o, by rw [HL.o, HKK.o]; have := c1h.o; omega⟩), if_pos (by intro hc; rw [HNb3.o] at hc; simp at hc)]), H1.o.bl⟩
   go_wp2_with fail
   go_ret
   exact ⟨ret_i (by unfold cvCode; rw [if_pos (by rw [HL.o, HKK.o]; have := c1h.o; intro hc; have := hc.2.2; omega)]), HI0.o.bl⟩
  go_wp2_with fail
  go_ret
  exact ⟨ret_i (by unfold cvCode; rw [if_pos (by intro hc; rw [HNb2.o] at hc; simp at hc)]), HI0.o.bl⟩
 go_wp2_with fail
 go_ret
 exact ⟨ret_i (by unfold cvCode; rw [if_pos (by intro hc; rw [HNb1.o] at hc; simp at hc)]), HI0.o.bl⟩
end
end Go.Proofs.YteejjnhlfgjlaaaGreat
