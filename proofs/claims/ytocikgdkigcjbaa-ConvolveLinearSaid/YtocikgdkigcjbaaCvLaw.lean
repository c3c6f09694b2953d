/-
  Plain law: convolutions with small weights; sums within bounds; moved planes; sums of planes; tiles are crops.
-/
import Derived.Test.YtocikgdkigcjbaaCvPlain
namespace Go.Proofs.Ytocikgdkigcjbaa
open Go.RowKit
set_option linter.unusedVariables false

theorem mul_abs {z v c m : Int} (hz : -c ≤ z ∧ z ≤ c) (hv : -m ≤ v ∧ v ≤ m) : -(c * m) ≤ z * v ∧ z * v ≤ c * m := by
  have h1 : z.natAbs ≤ c.natAbs := by omega
  have h2 : v.natAbs ≤ m.natAbs := by omega
  have h3 := Nat.mul_le_mul h1 h2
  rw [← Int.natAbs_mul, ← Int.natAbs_mul] at h3
  have h4 : 0 ≤ c * m := Int.mul_nonneg (by omega) (by omega)
  omega
theorem bd_of {ws : List Int} {lo hi c m : Int} (h1 : 1 ≤ ws.length) (h2 : ws.length ≤ 81) (hw : ∀ i, i < ws.length → -c ≤ ws.getD i 0 ∧ ws.getD i 0 ≤ c) (hc : 0 ≤ c ∧ c ≤ 32767)
    (hl : -m ≤ lo) (hlh : lo ≤ hi) (hh : hi ≤ m) (hm : 0 ≤ m ∧ m ≤ 68719476736) (hcm : 81 * (c * m) ≤ 17592186044416) :
    wAll ws = true ∧ bdOk ws lo hi = true ∧ -(81 * (c * m)) ≤ bLo ws lo hi ws.length ∧ bHi ws lo hi ws.length ≤ 81 * (c * m) := by
  have hwA : wAll ws = true := wAll_iff.2 fun i hi => by have := hw i hi; omega
  have h0 : 0 ≤ c * m := Int.mul_nonneg hc.1 hm.1
  have hn : (ws.length : Int) * (c * m) ≤ 81 * (c * m) := Int.mul_le_mul_of_nonneg_right (by omega) h0
  have a1 := sumN_abs (f := fun i => mnI (ws.getD i 0 * lo) (ws.getD i 0 * hi)) (n := ws.length) (c := c * m) (fun i hi' => mn_bd (mul_abs (hw i hi') (by omega)) (mul_abs (hw i hi') (by omega)))
  have a2 := sumN_abs (f := fun i => mxI (ws.getD i 0 * lo) (ws.getD i 0 * hi)) (n := ws.length) (c := c * m) (fun i hi' => mx_bd (mul_abs (hw i hi') (by omega)) (mul_abs (hw i hi') (by omega)))
  refine ⟨hwA, ?_, ?_, ?_⟩
  · unfold bdOk
    rw [bArg_iff.2 ⟨wCode_zero.2 ⟨h1, h2, hwA⟩, hlh, by omega, by omega⟩]
    unfold accOk bLo bHi
    simp only [Bool.true_and, Bool.and_eq_true, decide_eq_true_eq]
    omega
  · unfold bLo; omega
  · unfold bHi; omega
theorem term_in {z v lo hi : Int} (h : lo ≤ v) (h' : v ≤ hi) : mnI (z * lo) (z * hi) ≤ z * v ∧ z * v ≤ mxI (z * lo) (z * hi) := by
  by_cases hz : z < 0
  · have e1 : z * v ≤ z * lo := Int.mul_le_mul_of_nonpos_left (by omega) h
    have e2 : z * hi ≤ z * v := Int.mul_le_mul_of_nonpos_left (by omega) h'
    unfold mnI mxI; constructor <;> split <;> omega
  · have e1 : z * lo ≤ z * v := Int.mul_le_mul_of_nonneg_left h (by omega)
    have e2 : z * v ≤ z * hi := Int.mul_le_mul_of_nonneg_left h' (by omega)
    unfold mnI mxI; constructor <;> split <;> omega
theorem sum_in {ws : List Int} {lo hi : Int} {v : Nat → Int} {n : Nat} (hv : ∀ i, i < n → lo ≤ v i ∧ v i ≤ hi) : bLo ws lo hi n ≤ sumN (fun i => ws.getD i 0 * v i) n ∧ sumN (fun i => ws.getD i 0 * v i) n ≤ bHi ws lo hi n :=
  ⟨sumN_le fun i hi' => (term_in (hv i hi').1 (hv i hi').2).1, sumN_le fun i hi' => (term_in (hv i hi').1 (hv i hi').2).2⟩
theorem acc_sum {ws : List Int} {lo hi : Int} (h : bdOk ws lo hi = true) {v : Nat → Int} (hv : ∀ i, i < ws.length → lo ≤ v i ∧ v i ≤ hi) : -17592186044416 ≤ sumN (fun i => ws.getD i 0 * v i) ws.length ∧ sumN (fun i => ws.getD i 0 * v i) ws.length ≤ 17592186044416 := by
  have := sum_in (ws := ws) hv
  unfold bdOk accOk at h
  simp only [Bool.and_eq_true, decide_eq_true_eq] at h
  omega
/-- The code of a convolution that is permitted. -/
theorem cv_ok {mx kw kh shift out : Int} {ws : List Int} (hk : 1 ≤ kw ∧ kw ≤ 9) (hk' : 1 ≤ kh ∧ kh ≤ 9) (hl : (ws.length : Int) = kw * kh) (hw : ∀ i, i < ws.length → -400 ≤ ws.getD i 0 ∧ ws.getD i 0 ≤ 400) (hs : 0 ≤ shift ∧ shift ≤ 24) (hm : 1 ≤ mx ∧ mx ≤ 65535) (ho : 1 ≤ out ∧ out ≤ 4294967296) : cvCode mx kw kh ws shift out = 0 := by
  have h5 : kw * kh ≤ 9 * 9 := Int.mul_le_mul hk.2 hk'.2 (by omega) (by omega)
  have h6 : 1 * 1 ≤ kw * kh := Int.mul_le_mul hk.1 hk'.1 (by omega) (by omega)
  obtain ⟨b1, b2, _⟩ := bd_of (ws := ws) (lo := 0) (hi := mx) (c := 400) (m := 65535) (by omega) (by omega) hw (by omega) (by omega) (by omega) (by omega) (by omega) (by omega)
  unfold cvCode sideOk shOk valOk
  rw [if_neg (fun h => h ⟨by simp; omega, by simp; omega, hl⟩), if_neg (fun h => h ⟨b1, by simp; omega⟩), if_neg (fun h => h ⟨by simp; omega, by simp; omega⟩), if_neg (by rw [b2]; simp)]
theorem cvT_ok {w h mx : Int} {zs : List Int} {p f kw kh shift out r0 r1 r2 r3 : Int} {ws : List Int} (hv : pValid w h mx zs = true) (hb : bValid p f mx = true) (hc : cvCode mx kw kh ws shift out = 0)
    (hin : 0 ≤ r0 ∧ r0 < r2 ∧ r2 ≤ w ∧ 0 ≤ r1 ∧ r1 < r3 ∧ r3 ≤ h) : cvTC w h mx zs p f kw kh ws shift out r0 r1 r2 r3 = 0 := by
  obtain ⟨p1, p2, p3, p4, _⟩ := pOk_iff.1 (pValid_iff.1 hv).1
  unfold cvTC
  rw [if_neg (by rw [hv, hb]; simp), if_neg (by rw [hc]; simp), if_neg (by rw [(rIs_iff p1 p2 p3 p4).2 hin]; simp)]
theorem cvP_bd (w h : Int) (zs : List Int) (p f kw kh : Int) (ws : List Int) (shift : Int) {out : Int} (ho : 0 ≤ out) (x y : Int) : 0 ≤ cvP w h zs p f kw kh ws shift out x y ∧ cvP w h zs p f kw kh ws shift out x y ≤ out := clV_bd ho
/-- A value of the grid over the whole plane. -/
theorem rG_get (F : Int → Int → Int) {w h : Int} {nw nh a b : Nat} (hw : w = nw) (hh : h = nh) (ha : a < nh) (hb : b < nw) : (rG F 0 0 w h).getD (a * nw + b) 0 = F b a := by
  unfold rG
  rw [show (w - 0).toNat = nw by omega, show (h - 0).toNat = nh by omega, gridL_get _ nw nh 0 a b hb (.inl ha)]
  simp

/-! ### Moved planes -/
def mvI (nw n i : Nat) : Nat := i / nw * nw + (i % nw + n) % nw
theorem mvI_at {nw : Nat} (n r c : Nat) (hc : c < nw) : mvI nw n (r * nw + c) = r * nw + (c + n) % nw := by
  unfold mvI
  rw [Nat.mul_comm r nw, Nat.mul_add_div (by omega), Nat.div_eq_of_lt hc, Nat.mul_add_mod, Nat.mod_eq_of_lt hc, Nat.add_zero, Nat.mul_comm]
theorem mvI_lt {nw nh n i : Nat} (hw : 0 < nw) (hi : i < nh * nw) : mvI nw n i < nh * nw := by
  unfold mvI
  have h1 : i / nw < nh := Nat.div_lt_of_lt_mul (by rw [Nat.mul_comm]; exact hi)
  have h2 := Nat.mod_lt (i % nw + n) hw
  have h3 : (i / nw + 1) * nw ≤ nh * nw := Nat.mul_le_mul_right _ h1
  rw [Nat.add_mul, Nat.one_mul] at h3
  omega
theorem add_mod_inj {a b n w : Nat} (ha : a < w) (hb : b < w) (hn : n < w) (h : (a + n) % w = (b + n) % w) : a = b := by
  rcases Nat.lt_or_ge (a + n) w with h1 | h1 <;> rcases Nat.lt_or_ge (b + n) w with h2 | h2
  · rw [Nat.mod_eq_of_lt h1, Nat.mod_eq_of_lt h2] at h; omega
  · rw [Nat.mod_eq_of_lt h1, Nat.mod_eq_sub_mod h2, Nat.mod_eq_of_lt (by omega)] at h; omega
  · rw [Nat.mod_eq_of_lt h2, Nat.mod_eq_sub_mod h1, Nat.mod_eq_of_lt (by omega)] at h; omega
  · rw [Nat.mod_eq_sub_mod h1, Nat.mod_eq_of_lt (by omega), Nat.mod_eq_sub_mod h2, Nat.mod_eq_of_lt (by omega)] at h; omega
theorem mvI_inj {nw n i j : Nat} (hw : 0 < nw) (hn : n < nw) (h : mvI nw n i = mvI nw n j) : i = j := by
  unfold mvI at h
  have h1 := Nat.mod_lt (i % nw + n) hw
  have h2 := Nat.mod_lt (j % nw + n) hw
  have e1 : i / nw = j / nw := by
    rcases Nat.lt_trichotomy (i / nw) (j / nw) with h3 | h3 | h3
    · have := Nat.mul_le_mul_right nw (show i / nw + 1 ≤ j / nw from h3); rw [Nat.add_mul, Nat.one_mul] at this; omega
    · exact h3
    · have := Nat.mul_le_mul_right nw (show j / nw + 1 ≤ i / nw from h3); rw [Nat.add_mul, Nat.one_mul] at this; omega
  rw [e1] at h
  have e2 := add_mod_inj (Nat.mod_lt _ hw) (Nat.mod_lt _ hw) hn (Nat.add_left_cancel h)
  rw [← Nat.div_add_mod i nw, ← Nat.div_add_mod j nw, e1, e2]
theorem bIdx_wrap (i : Int) {n : Int} (h1 : 1 ≤ n) (h2 : n ≤ 128) : bIdx i n 2 = i % n ∧ bOk i n 2 = true := by
  unfold bIdx bOk
  rw [if_neg (by omega), if_neg (by omega), if_neg (by omega), if_neg (by omega)]
  simp; omega
theorem pPix_wrap {w h : Int} (zs : List Int) (f x y : Int) (w1 : 1 ≤ w) (w2 : w ≤ 128) (h1 : 1 ≤ h) (h2 : h ≤ 128) : pPix w h zs 2 f x y = zs.getD (y % h * w + x % w).toNat 0 := by
  unfold pPix
  rw [(bIdx_wrap x w1 w2).1, (bIdx_wrap x w1 w2).2, (bIdx_wrap y h1 h2).1, (bIdx_wrap y h1 h2).2, if_pos ⟨rfl, rfl⟩]
/-- What has been laid while a plane is moved: the first j places. -/
def Moved (nw n : Nat) (zs ql : List Int) (j : Nat) : Prop := ql.length = zs.length ∧ ∀ i, i < j → ql.getD (mvI nw n i) 0 = zs.getD i 0
theorem Moved.next {nw nh n j : Nat} {zs ql : List Int} (h : Moved nw n zs ql j) (hw : 0 < nw) (hn : n < nw) (hl : zs.length = nh * nw) (hj : j < zs.length) : Moved nw n zs (ql.set (mvI nw n j) (zs.getD j 0)) (j + 1) := by
  refine ⟨by rw [List.length_set]; exact h.1, fun i hi => ?_⟩
  rw [List.getD_eq_getElem?_getD, List.getElem?_set]
  by_cases e : i = j
  · subst e
    rw [if_pos rfl, if_pos (by rw [h.1, hl]; exact mvI_lt hw (by omega))]; rfl
  · rw [if_neg (fun e' => e (mvI_inj hw hn e'.symm)), ← List.getD_eq_getElem?_getD]
    exact h.2 i (by omega)
theorem pPix_moved {w h : Int} {zs ql : List Int} {nw nh n : Nat} (f x y : Int) (hw : w = nw) (hh : h = nh) (w1 : 1 ≤ w) (w2 : w ≤ 128) (h1 : 1 ≤ h) (h2 : h ≤ 128) (hl : zs.length = nh * nw) (hm : Moved nw n zs ql zs.length) :
    pPix w h ql 2 f (x + n) y = pPix w h zs 2 f x y := by
  rw [pPix_wrap _ _ _ _ w1 w2 h1 h2, pPix_wrap _ _ _ _ w1 w2 h1 h2]
  obtain ⟨c, hc⟩ : ∃ c : Nat, x % w = c := ⟨(x % w).toNat, by have := Int.emod_nonneg x (b := w) (by omega); omega⟩
  obtain ⟨r, hr⟩ : ∃ r : Nat, y % h = r := ⟨(y % h).toNat, by have := Int.emod_nonneg y (b := h) (by omega); omega⟩
  have hc2 : c < nw := by have := Int.emod_lt_of_pos x (b := w) (by omega); omega
  have hr2 : r < nh := by have := Int.emod_lt_of_pos y (b := h) (by omega); omega
  have e : (x + (n : Int)) % w = ((c + n) % nw : Nat) := by
    rw [← Int.emod_add_emod, hc, hw]; simp
  rw [e, hr, hc, hw]
  have hlt : r * nw + c < zs.length := by
    rw [hl]
    have := Nat.mul_le_mul_right nw (show r + 1 ≤ nh from hr2)
    rw [Nat.add_mul, Nat.one_mul] at this; omega
  have := hm.2 (r * nw + c) hlt
  rw [mvI_at n r c hc2] at this
  rw [show ((r : Int) * (nw : Int) + (((c + n) % nw : Nat) : Int)).toNat = r * nw + (c + n) % nw by rw [← Int.natCast_mul]; omega, show ((r : Int) * (nw : Int) + (c : Int)).toNat = r * nw + c by rw [← Int.natCast_mul]; omega]
  exact this
theorem cvS_moved {w h : Int} {zs ql : List Int} {nw nh n : Nat} (f x y kw kh : Int) (ws : List Int) (m : Nat) (hw : w = nw) (hh : h = nh) (w1 : 1 ≤ w) (w2 : w ≤ 128) (h1 : 1 ≤ h) (h2 : h ≤ 128) (hl : zs.length = nh * nw) (hm : Moved nw n zs ql zs.length) :
    cvS w h ql 2 f kw kh ws ((x + n) % w) y m = cvS w h zs 2 f kw kh ws x y m := by
  unfold cvS
  refine sumN_congr fun k _ => ?_
  unfold cvF
  congr 1
  rw [← pPix_moved f (x + (k : Int) % kw - kw / 2) _ hw hh w1 w2 h1 h2 hl hm, pPix_wrap _ _ _ _ w1 w2 h1 h2, pPix_wrap _ _ _ _ w1 w2 h1 h2]
  congr 3
  rw [show (x + (n : Int)) % w + (k : Int) % kw - kw / 2 = (x + n) % w + ((k : Int) % kw - kw / 2) by omega, Int.emod_add_emod]
  congr 1
  omega
theorem moved_at {w h : Int} {zs ql : List Int} {nw nh n : Nat} (f kw kh shift out : Int) (ws : List Int) (hw : w = nw) (hh : h = nh) (w1 : 1 ≤ w) (w2 : w ≤ 128) (h1 : 1 ≤ h) (h2 : h ≤ 128) (hl : zs.length = nh * nw) (hm : Moved nw n zs ql zs.length) {i : Nat} (hi : i < zs.length) :
    (cvL w h ql 2 f kw kh ws shift out 0 0 w h).getD (mvI nw n i) 0 = (cvL w h zs 2 f kw kh ws shift out 0 0 w h).getD i 0 := by
  obtain ⟨r, c, hc, rfl⟩ : ∃ r c, c < nw ∧ i = r * nw + c := ⟨i / nw, i % nw, Nat.mod_lt _ (by omega), by rw [Nat.mul_comm]; exact (Nat.div_add_mod i nw).symm⟩
  have hr : r < nh := by
    rcases Nat.lt_or_ge r nh with h' | h'
    · exact h'
    · have := Nat.mul_le_mul_right nw h'; omega
  unfold cvL
  rw [mvI_at n r c hc, rG_get _ hw hh hr (Nat.mod_lt _ (by omega)), rG_get _ hw hh hr hc]
  unfold cvP
  rw [show (((c + n) % nw : Nat) : Int) = ((c : Int) + n) % w by rw [hw]; simp, cvS_moved f c r kw kh ws _ hw hh w1 w2 h1 h2 hl hm]

/-! ### Sums of planes -/
theorem pPix_sum {w h : Int} {zs qs ts : List Int} {p : Int} (w1 : 1 ≤ w) (w2 : w ≤ 128) (h1 : 1 ≤ h) (h2 : h ≤ 128) (hp : 0 ≤ p ∧ p ≤ 2) (ht : ∀ i, ts.getD i 0 = zs.getD i 0 + qs.getD i 0) (x y : Int) : pPix w h ts p 0 x y = pPix w h zs p 0 x y + pPix w h qs p 0 x y := by
  unfold pPix
  split
  · exact ht _
  · rfl
theorem cvS_sum {w h : Int} {zs qs ts : List Int} {p : Int} (w1 : 1 ≤ w) (w2 : w ≤ 128) (h1 : 1 ≤ h) (h2 : h ≤ 128) (hp : 0 ≤ p ∧ p ≤ 2) (ht : ∀ i, ts.getD i 0 = zs.getD i 0 + qs.getD i 0) (kw kh : Int) (ws : List Int) (x y : Int) (n : Nat) : cvS w h ts p 0 kw kh ws x y n = cvS w h zs p 0 kw kh ws x y n + cvS w h qs p 0 kw kh ws x y n := by
  unfold cvS
  rw [← sumN_add]
  refine sumN_congr fun k _ => ?_
  unfold cvF
  rw [pPix_sum w1 w2 h1 h2 hp ht, Int.mul_add]
theorem cvS_small {w h : Int} {zs : List Int} {p m c kw kh : Int} {ws : List Int} (hz : ∀ i, 0 ≤ zs.getD i 0 ∧ zs.getD i 0 ≤ m) (hm : 0 ≤ m) (hw : ∀ i, i < ws.length → 0 ≤ ws.getD i 0 ∧ ws.getD i 0 ≤ c) (x y : Int) : 0 ≤ cvS w h zs p 0 kw kh ws x y ws.length ∧ cvS w h zs p 0 kw kh ws x y ws.length ≤ ws.length * (c * m) := by
  unfold cvS
  refine sumN_bd fun i hi => ?_
  unfold cvF
  have h1 := hw i hi
  have h2 : 0 ≤ pPix w h zs p 0 (x + (i : Int) % kw - kw / 2) (y + (i : Int) / kw - kh / 2) ∧ pPix w h zs p 0 (x + (i : Int) % kw - kw / 2) (y + (i : Int) / kw - kh / 2) ≤ m := by
    unfold pPix; split
    · exact hz _
    · omega
  exact ⟨Int.mul_nonneg h1.1 h2.1, Int.mul_le_mul h1.2 h2.2 h2.1 (by omega)⟩
end Go.Proofs.Ytocikgdkigcjbaa
