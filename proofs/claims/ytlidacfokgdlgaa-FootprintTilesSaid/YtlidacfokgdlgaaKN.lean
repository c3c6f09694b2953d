/-
  Plain law: convolutions: the pixels, the sums, the errors; results as grids and their crops. Contracts: the errors of kernels, in the program and in the reference.
-/
import Derived.Test.YtlidacfokgdlgaaKE
import Derived.Test.YtlidacfokgdlgaaKF
import Derived.Test.YtlidacfokgdlgaaKA
namespace Go.Proofs.Ytlidacfokgdlgaa
section
open Go.RowKit

/-- What a result's number is, and its list, where there is no error. -/
def tI (c x : Int) : Int := if c = 0 then x else 0
def tL (c : Int) (l : List Int) : List Int := if c = 0 then l else []
/-- A plane, or an error. -/
def TPost (c dx dy out : Int) (l : List Int) (W : World) (e : Ending) (w' : World) : Prop :=
  ∃ v, e = .returned (.tuple #[.agg #[.int .i64 (tI c dx), .int .i64 (tI c dy), .int .i64 (tI c out), v], .int .i64 c]) ∧ Own W.heap.size w' v (tL c l) ∧ Below W.heap.size W w'

theorem TPost.no {c dx dy out k : Int} {l : List Int} {W w' : World} (hk : c = k) (h0 : k ≠ 0) (hb : Below W.heap.size W w') : TPost c dx dy out l W (.returned (.tuple #[.agg #[.int .i64 0, .int .i64 0, .int .i64 0, .slice none 0 0], .int .i64 k])) w' := by
  subst hk
  exact ⟨_, by unfold tI; rw [if_neg h0, if_neg h0, if_neg h0], by unfold tL; rw [if_neg h0]; exact Own.nil _ _, hb⟩
theorem TPost.yes {c dx dy out : Int} {v : Value} {l : List Int} {W w' : World} (hc : c = 0) (ho : Own W.heap.size w' v l) (hb : Below W.heap.size W w') : TPost c dx dy out l W (.returned (.tuple #[.agg #[.int .i64 dx, .int .i64 dy, .int .i64 out, v], .int .i64 0])) w' := by
  subst hc
  exact ⟨_, by unfold tI; rw [if_pos rfl, if_pos rfl, if_pos rfl], by unfold tL; rw [if_pos rfl]; exact ho, hb⟩
theorem bIdx_in {i n p : Int} (hi : 0 ≤ i) (hn : i < n) (hn' : n ≤ 128) (hp : 0 ≤ p ∧ p ≤ 3) : bIdx i n p = i ∧ bOk i n p = true := by
  have h1 : ¬ (n < 1) := by omega
  have h2 : ¬ (128 < n) := by omega
  have h3 : i % (2 * n) = i := Int.emod_eq_of_lt hi (by omega)
  have h4 : i % n = i := Int.emod_eq_of_lt hi hn
  unfold bIdx bOk
  rw [if_neg h1, if_neg h2, if_neg h1, if_neg h2, h3, h4]
  constructor
  · repeat' split
    all_goals omega
  · repeat' split
    all_goals first | rfl | omega
theorem pPix_in {w h : Int} (zs : List Int) {p f x y : Int} (hw : w ≤ 128) (hh : h ≤ 128) (hp : 0 ≤ p ∧ p ≤ 3) (hx : 0 ≤ x ∧ x < w) (hy : 0 ≤ y ∧ y < h) : pPix w h zs p f x y = zs.getD (y * w + x).toNat 0 := by
  unfold pPix
  rw [(bIdx_in hx.1 hx.2 hw hp).1, (bIdx_in hx.1 hx.2 hw hp).2, (bIdx_in hy.1 hy.2 hh hp).1, (bIdx_in hy.1 hy.2 hh hp).2, if_pos ⟨rfl, rfl⟩]
theorem bValid_p {p f m : Int} (h : bValid p f m = true) : 0 ≤ p ∧ p ≤ 3 := by
  unfold bValid at h
  split at h
  · omega
  · split at h
    · omega
    · cases h
theorem bValid_f {p f m : Int} (h : bValid p f m = true) (hm : 0 ≤ m) : 0 ≤ f ∧ f ≤ m := by
  unfold bValid at h
  split at h
  · have := of_decide_eq_true h; omega
  · split at h
    · have := of_decide_eq_true h; omega
    · cases h
theorem pPix_bd {w h mx : Int} {zs : List Int} {p f : Int} (hv : pValid w h mx zs = true) (hb : bValid p f mx = true) (x y : Int) : 0 ≤ pPix w h zs p f x y ∧ pPix w h zs p f x y ≤ mx := by
  have hp := pOk_iff.1 (pValid_iff.1 hv).1
  unfold pPix
  split
  · rcases Nat.lt_or_ge (bIdx y h p * w + bIdx x w p).toNat zs.length with h1 | h1
    · exact (pValid_iff.1 hv).2.2 _ (getD_mem' h1)
    · rw [List.getD_eq_getElem?_getD, List.getElem?_eq_none h1]
      show (0 : Int) ≤ 0 ∧ (0 : Int) ≤ mx
      omega
  · exact bValid_f hb (by omega)

/-- One product, and the sum of the first ones. -/
def cvF (w h : Int) (zs : List Int) (p f kw kh : Int) (ws : List Int) (x y : Int) (k : Nat) : Int :=
  ws.getD k 0 * pPix w h zs p f (x + (k : Int) % kw - kw / 2) (y + (k : Int) / kw - kh / 2)
def cvS (w h : Int) (zs : List Int) (p f kw kh : Int) (ws : List Int) (x y : Int) (n : Nat) : Int := sumN (cvF w h zs p f kw kh ws x y) n
def cvP (w h : Int) (zs : List Int) (p f kw kh : Int) (ws : List Int) (shift out x y : Int) : Int := clV (shV (cvS w h zs p f kw kh ws x y ws.length) shift) out
def cvCode (mx kw kh : Int) (ws : List Int) (shift out : Int) : Int :=
  if ¬ (sideOk kw = true ∧ sideOk kh = true ∧ (ws.length : Int) = kw * kh) then 9
  else if ¬ (wAll ws = true ∧ shOk shift = true) then 10
  else if ¬ (valOk mx = true ∧ valOk out = true) then 2
  else if bdOk ws 0 mx = false then 11 else 0
/-- A rectangle that is full and within a size. -/
def rIs (r0 r1 r2 r3 w h : Int) : Bool := !rEmpty r0 r1 r2 r3 && rInside r0 r1 r2 r3 0 0 w h
def cvTC (w h mx : Int) (zs : List Int) (p f kw kh : Int) (ws : List Int) (shift out r0 r1 r2 r3 : Int) : Int :=
  if ¬ (pValid w h mx zs = true ∧ bValid p f mx = true) then 1
  else if cvCode mx kw kh ws shift out ≠ 0 then cvCode mx kw kh ws shift out
  else if rIs r0 r1 r2 r3 w h = false then 8 else 0
/-- The grid of a function of the place, over a rectangle. -/
def rG (F : Int → Int → Int) (r0 r1 r2 r3 : Int) : List Int := gridL (fun k j => F (r0 + j) (r1 + k)) (r2 - r0).toNat (r3 - r1).toNat 0
def cvL (w h : Int) (zs : List Int) (p f kw kh : Int) (ws : List Int) (shift out r0 r1 r2 r3 : Int) : List Int := rG (cvP w h zs p f kw kh ws shift out) r0 r1 r2 r3

theorem cvF_bd {w h mx : Int} {zs : List Int} {p f : Int} (hv : pValid w h mx zs = true) (hb : bValid p f mx = true) {ws : List Int} (hw : wAll ws = true) (kw kh x y : Int) {k : Nat} (hk : k < ws.length) :
    -140733193388032 ≤ cvF w h zs p f kw kh ws x y k ∧ cvF w h zs p f kw kh ws x y k ≤ 140733193388032 := by
  have hp := pOk_iff.1 (pValid_iff.1 hv).1
  have h1 := wAll_iff.1 hw k hk
  have h2 := pPix_bd hv hb (x + (k : Int) % kw - kw / 2) (y + (k : Int) / kw - kh / 2)
  unfold cvF
  generalize ws.getD k 0 = z at *
  generalize pPix w h zs p f (x + (k : Int) % kw - kw / 2) (y + (k : Int) / kw - kh / 2) = v at *
  have h3 : z.natAbs ≤ 32767 := by omega
  have h4 : v.natAbs ≤ 4294967296 := by omega
  have h5 := Nat.mul_le_mul h3 h4
  rw [← Int.natAbs_mul] at h5
  omega
theorem cvS_bd {w h mx : Int} {zs : List Int} {p f : Int} (hv : pValid w h mx zs = true) (hb : bValid p f mx = true) {ws : List Int} (hw : wAll ws = true) (kw kh x y : Int) {n : Nat} (hn : n ≤ ws.length) (h81 : ws.length ≤ 81) :
    -11399388664430592 ≤ cvS w h zs p f kw kh ws x y n ∧ cvS w h zs p f kw kh ws x y n ≤ 11399388664430592 := by
  have := sumN_abs (f := cvF w h zs p f kw kh ws x y) (n := n) (c := 140733193388032) (fun i hi => cvF_bd hv hb hw kw kh x y (by omega))
  unfold cvS
  omega
theorem cv_len {mx kw kh shift out : Int} {ws : List Int} (h : cvCode mx kw kh ws shift out = 0) : 1 ≤ kw ∧ kw ≤ 9 ∧ 1 ≤ kh ∧ kh ≤ 9 ∧ (ws.length : Int) = kw * kh ∧ ws.length ≤ 81 ∧ 1 ≤ ws.length ∧ wAll ws = true ∧ 0 ≤ shift ∧ shift ≤ 24 ∧ 1 ≤ out ∧ out ≤ 4294967296 ∧ bdOk ws 0 mx = true := by
  unfold cvCode at h
  split at h
  · omega
  rename_i h1
  split at h
  · omega
  rename_i h2
  split at h
  · omega
  rename_i h3
  split at h
  · omega
  rename_i h4
  simp only [Decidable.not_not, sideOk, shOk, valOk, decide_eq_true_eq] at h1 h2 h3
  have h5 : kw * kh ≤ 9 * 9 := Int.mul_le_mul h1.1.2 h1.2.1.2 (by omega) (by omega)
  have h6 : 1 * 1 ≤ kw * kh := Int.mul_le_mul h1.1.1 h1.2.1.1 (by omega) (by omega)
  refine ⟨h1.1.1, h1.1.2, h1.2.1.1, h1.2.1.2, h1.2.2, by omega, by omega, h2.1, h2.2.1, h2.2.2, h3.2.1, h3.2.2, by simpa using h4⟩

theorem cvF_at {kw kh : Int} {KW jj ii : Nat} (hw : kw = KW) (hi : ii < KW) (w h : Int) (zs : List Int) (p f : Int) (ws : List Int) (x y : Int) :
    cvF w h zs p f kw kh ws x y (jj * KW + ii) = ws.getD (jj * KW + ii) 0 * pPix w h zs p f (x + ii - kw / 2) (y + jj - kh / 2) := by
  have e1 : ((jj * KW + ii : Nat) : Int) % kw = ii := by
    rw [hw, ← Int.natCast_emod]; congr 1
    rw [Nat.add_comm, Nat.add_mul_mod_self_right, Nat.mod_eq_of_lt hi]
  have e2 : ((jj * KW + ii : Nat) : Int) / kw = jj := by
    rw [hw, ← Int.natCast_ediv]; congr 1
    rw [Nat.add_comm, Nat.add_mul_div_right _ _ (by omega), Nat.div_eq_of_lt hi, Nat.zero_add]
  unfold cvF
  rw [e1, e2]
/-! ### Grids -/
theorem gridL_congr {f g : Nat → Nat → Int} {wd k : Nat} (h : ∀ a, a < k → ∀ b, b < wd → f a b = g a b) : gridL f wd k 0 = gridL g wd k 0 := by
  unfold gridL
  congr 1
  rw [List.flatMap_def, List.flatMap_def]
  congr 1
  apply List.map_congr_left
  intro a ha
  apply List.map_congr_left
  intro b hb
  exact h a (List.mem_range.1 ha) b (List.mem_range.1 hb)
/-- The crop of a grid. -/
theorem crop_grid (G : Nat → Nat → Int) {nw nh X Y qw qh : Nat} (hx : X + qw ≤ nw) (hy : Y + qh ≤ nh) :
    gridL (tPix (nw : Int) (gridL G nw nh 0) (X : Int) (Y : Int)) qw qh 0 = gridL (fun k j => G (Y + k) (X + j)) qw qh 0 :=
  gridL_congr fun a ha b hb => by
    rw [tPix_nat, gridL_get G nw nh 0 (Y + a) (X + b) (by omega) (.inl (by omega))]
theorem rIs_iff {r0 r1 r2 r3 w h : Int} (hw : 1 ≤ w) (hw' : w ≤ 128) (hh : 1 ≤ h) (hh' : h ≤ 128) : rIs r0 r1 r2 r3 w h = true ↔ 0 ≤ r0 ∧ r0 < r2 ∧ r2 ≤ w ∧ 0 ≤ r1 ∧ r1 < r3 ∧ r3 ≤ h := by
  unfold rIs
  rw [inside_iff hw hw' hh hh']
/-- The crop of the grid over a whole plane is the grid over the rectangle. -/
theorem cAll_rG (F : Int → Int → Int) {w h r0 r1 r2 r3 : Int} (hin : 0 ≤ r0 ∧ r0 < r2 ∧ r2 ≤ w ∧ 0 ≤ r1 ∧ r1 < r3 ∧ r3 ≤ h) : cAll w (rG F 0 0 w h) r0 r1 r2 r3 = rG F r0 r1 r2 r3 := by
  obtain ⟨nw, hw⟩ : ∃ n : Nat, w = n := ⟨w.toNat, by omega⟩
  obtain ⟨nh, hh⟩ : ∃ n : Nat, h = n := ⟨h.toNat, by omega⟩
  obtain ⟨X, hX⟩ : ∃ n : Nat, r0 = n := ⟨r0.toNat, by omega⟩
  obtain ⟨Y, hY⟩ : ∃ n : Nat, r1 = n := ⟨r1.toNat, by omega⟩
  obtain ⟨qw, hq⟩ : ∃ n : Nat, r2 - r0 = n := ⟨(r2 - r0).toNat, by omega⟩
  obtain ⟨qh, hqh⟩ : ∃ n : Nat, r3 - r1 = n := ⟨(r3 - r1).toNat, by omega⟩
  rw [cAll_nat hw hX hY hq hqh]
  unfold rG
  rw [hq, hqh, show (w - 0).toNat = nw by omega, show (h - 0).toNat = nh by omega, crop_grid _ (by omega) (by omega)]
  refine gridL_congr fun a _ b _ => ?_
  simp only [hX, hY]
  congr 1 <;> omega
theorem rG_len (F : Int → Int → Int) (r0 r1 r2 r3 : Int) : (rG F r0 r1 r2 r3).length = (r3 - r1).toNat * (r2 - r0).toNat := by unfold rG; rw [gridL_len]; rfl
/-- A grid of permitted pixels is a valid plane. -/
theorem rG_valid {F : Int → Int → Int} {out : Int} (ho : 1 ≤ out ∧ out ≤ 4294967296) (hF : ∀ x y, 0 ≤ F x y ∧ F x y ≤ out) {w h mx : Int} {zs : List Int} (hv : pValid w h mx zs = true) : pValid w h out (rG F 0 0 w h) = true := by
  obtain ⟨p1, p2, p3, p4, p5, p6, p7⟩ := pOk_iff.1 (pValid_iff.1 hv).1
  refine pValid_iff.2 ⟨pOk_iff.2 ⟨p1, p2, p3, p4, p5, ho.1, ho.2⟩, ?_, ?_⟩
  · rw [rG_len, Int.natCast_mul, Int.toNat_of_nonneg (by omega), Int.toNat_of_nonneg (by omega), Int.sub_zero, Int.sub_zero, Int.mul_comm]
  · unfold rG
    exact (gridL_all _ _ _).2 fun a _ b _ => hF _ _
end

section
open Go.RowKit
attribute [local go_sem ↓] Go.wp_at_zero Go.wp_at_succ
set_option linter.unusedVariables false
set_option linter.unusedSimpArgs false

set_option maxHeartbeats 800000 in
theorem rside_any (v : Int) (w : World) : Calls Try.prog 57 #[.int .i64 v] w fun e w' => e = .returned (.bool (sideOk v)) ∧ w' = w := by
  go_enter Try.func57, Try.ntmps57
  go_wp2
  all_goals (go_ret; refine ⟨ret_b (bool_of_iff ?_), rfl⟩; simp only [sideOk, valOk, decide_eq_true_eq, Bool.false_eq_true, false_iff, true_iff, Bool.and_eq_true, iff_false, iff_true] <;> omega)
end
end Go.Proofs.Ytlidacfokgdlgaa
