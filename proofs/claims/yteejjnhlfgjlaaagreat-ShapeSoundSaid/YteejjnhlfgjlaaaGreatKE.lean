/-
 Contracts: new planes, equal lists and equal planes, in the program. copy into a row that the call made itself. Contracts: the greatest of a list, and a copy of a list. Contract: a tile of an integral plane, in the program. Contract: the integral plane of a plane, in the program. Contracts: the sum of a rectangle out of an integral plane, in the program and in the reference. Contract: a tile of an integral plane, in the reference. Contract: the integral plane of a plane, in the reference. Contracts: crops, in the program and in the reference. Contracts: blits, in the program and in the reference. Contract: blits, in the reference. Contracts: the pixels of planes, also outside of them, in the program and in the reference; edges that the tape makes. Plain law: crops and blits of planes: what fits, what is read back, what stays. Contract: rectangles that the tape makes.
-/
import Derived.Test.YteejjnhlfgjlaaaGreatKB
import Derived.Test.YteejjnhlfgjlaaaGreatKC
import Derived.Test.YteejjnhlfgjlaaaGreatKA
import Derived.Laws.CopyOwn
import Derived.WalkLawsBesides
import Derived.WalkSpells
import Derived.StillTailTactics
import Derived.Deep.DeepCutAuto
import Derived.Deep.DrawnRows
import Derived.Deep.RegionHeld3
namespace Go.Proofs.YteejjnhlfgjlaaaGreat
section
open Go.RowKit
attribute [local go_sem ↓] Go.wp_at_zero Go.wp_at_succ
set_option linter.unusedVariables false
set_option linter.unusedSimpArgs false
end

section
open Go.RowKit
end

section
open Go.RowKit
attribute [local go_sem ↓] Go.wp_at_zero Go.wp_at_succ
set_option linter.unusedVariables false
set_option linter.unusedSimpArgs false
end

section
open Go.RowKit
attribute [local go_sem ↓] Go.wp_at_zero Go.wp_at_succ
set_option linter.unusedVariables false
set_option linter.unusedSimpArgs false

def TilePost (w h mx : Int) (zs : List Int) (r0 r1 r2 r3 : Int) (left top : List Int) (corner : Int) (W : World) (e : Ending) (w' : World) : Prop :=
 ∃ v, e = .returned (.tuple #[.agg #[.int .i64 (tIf w h mx zs r0 r1 r2 r3 left top corner (r2 - r0)), .int .i64 (tIf w h mx zs r0 r1 r2 r3 left top corner (r3 - r1)), .int .i64 (tIf w h mx zs r0 r1 r2 r3 left top corner (w * h * mx)), v], .int .i64 (tCode w h mx zs r0 r1 r2 r3 left top corner)]) ∧
  Own W.heap.size w' v (tList w h mx zs r0 r1 r2 r3 left top corner) ∧ Below W.heap.size W w'
theorem tile_no {w h mx : Int} {zs : List Int} {r0 r1 r2 r3 : Int} {left top : List Int} {corner : Int} {W w' : World} {k : Int} (hk : tCode w h mx zs r0 r1 r2 r3 left top corner = k) (h0 : k ≠ 0) (hb : Below W.heap.size W w') :
  TilePost w h mx zs r0 r1 r2 r3 left top corner W (.returned (.tuple #[.agg #[.int .i64 0, .int .i64 0, .int .i64 0, .slice none 0 0], .int .i64 k])) w' := by
 have hi : ∀ x, tIf w h mx zs r0 r1 r2 r3 left top corner x = 0 := fun x => by unfold tIf; rw [hk, if_neg h0]
 refine ⟨_, by rw [hi, hi, hi, hk], ?_, hb⟩; have : tList w h mx zs r0 r1 r2 r3 left top corner = [] := by unfold tList; rw [hk, if_neg h0]
 rw [this]; exact Own.nil _ _
end

section
open Go.RowKit
set_option linter.unusedVariables false
set_option linter.unusedSimpArgs false

theorem tCode_of_k {w h mx : Int} {zs : List Int} {r0 r1 r2 r3 : Int} {left top : List Int} {corner : Int} (hk : kCode w h mx zs ≠ 0) : tCode w h mx zs r0 r1 r2 r3 left top corner = kCode w h mx zs := by
 cases hv : pValid w h mx zs with
 | false => unfold tCode kCode; rw [hv, if_pos rfl, if_neg (by simp)]
 | true =>
  cases hi : iOk w h mx with
  | false => unfold tCode kCode iCode; rw [hv, hi, if_neg (by simp), if_pos rfl, if_pos rfl, if_neg (by simp)]
  | true => exact absurd (by simp [kCode, iCode, hv, hi]) hk
theorem valid_of_k {w h mx : Int} {zs : List Int} (hk : kCode w h mx zs = 0) : pValid w h mx zs = true ∧ iOk w h mx = true := by
 cases hv : pValid w h mx zs with
 | false => simp [kCode, hv] at hk
 | true =>
  cases hi : iOk w h mx with
  | false => simp [kCode, iCode, hv, hi] at hk
  | true => exact ⟨rfl, rfl⟩
end

section
open Go.RowKit
set_option linter.unusedVariables false
set_option linter.unusedSimpArgs false

theorem fullInside {r0 r1 r2 r3 b0 b1 b2 b3 : Int} : (rFull r0 r1 r2 r3 && rInside r0 r1 r2 r3 b0 b1 b2 b3) = (!rEmpty r0 r1 r2 r3 && rInside r0 r1 r2 r3 b0 b1 b2 b3) := by
 unfold rFull rInside
 cases rValid r0 r1 r2 r3 <;> simp
end

section
open Go.RowKit
attribute [local go_sem ↓] Go.wp_at_zero Go.wp_at_succ
set_option linter.unusedVariables false
set_option linter.unusedSimpArgs false

def fillL (f : Nat → Nat → Int) (wd k j N : Nat) : List Int := gridL f wd k j ++ List.replicate (N - (k * wd + j)) 0
theorem fillL_len {f : Nat → Nat → Int} {wd k j N : Nat} (h : k * wd + j ≤ N) : (fillL f wd k j N).length = N := by simp [fillL, gridL_len]; omega
theorem fillL_zero (f : Nat → Nat → Int) (wd N : Nat) : fillL f wd 0 0 N = List.replicate N 0 := by simp [fillL, gridL_zero]
theorem fillL_next {f : Nat → Nat → Int} {wd k j N : Nat} (h : k * wd + j < N) : (fillL f wd k j N).set (k * wd + j) (f k j) = fillL f wd k (j + 1) N := by
 unfold fillL
 rw [List.set_append_right _ _ (by rw [gridL_len]; omega), gridL_len, Nat.sub_self, gridL_next]; obtain ⟨m, hm⟩ : ∃ m, N - (k * wd + j) = m + 1 := ⟨N - (k * wd + j) - 1, by omega⟩; rw [hm, List.replicate_succ, List.set_cons_zero, show N - (k * wd + (j + 1)) = m by omega, List.append_assoc, List.singleton_append]
theorem fillL_row (f : Nat → Nat → Int) (wd k N : Nat) : fillL f wd k wd N = fillL f wd (k + 1) 0 N := by
 unfold fillL; rw [gridL_row, Nat.add_mul, Nat.one_mul]; rfl
theorem fillL_all (f : Nat → Nat → Int) (wd k : Nat) : fillL f wd k 0 (k * wd) = gridL f wd k 0 := by simp [fillL]
def rowS (w : Int) (zs : List Int) (r0 r1 : Int) (a j : Nat) : Int := sumN (fun b => tPix w zs r0 r1 a b) j
def rowsS (w : Int) (zs : List Int) (r0 r1 : Int) (k j : Nat) : Int := sumN (fun a => rowS w zs r0 r1 a j) k
theorem rowS_bd {w h mx : Int} {zs : List Int} (hv : pValid w h mx zs = true) (r0 r1 : Int) (a : Nat) {j : Nat} (hj : j ≤ 128) : 0 ≤ rowS w zs r0 r1 a j ∧ rowS w zs r0 r1 a j ≤ 549755813888 := by
 have hm := (pOk_iff.1 (pValid_iff.1 hv).1).2.2.2.2.2; have h1 := sumN_bd (f := fun b => tPix w zs r0 r1 a b) (n := j) (fun i _ => tPix_bd hv r0 r1 a i); have h2 : (j : Int) * mx ≤ 128 * 4294967296 := Int.mul_le_mul (by omega) hm.2 (by omega) (by omega)
 unfold rowS; omega
theorem tSum_rowsS (w : Int) (zs : List Int) (r0 r1 : Int) (k j : Nat) : tSum w zs r0 r1 k j = rowsS w zs r0 r1 k j := tSum_rows w zs r0 r1 k j
theorem fullInside' {r0 r1 r2 r3 b0 b1 b2 b3 : Int} (hf : rFull r0 r1 r2 r3 = false ∨ rInside r0 r1 r2 r3 b0 b1 b2 b3 = false) : (!rEmpty r0 r1 r2 r3 && rInside r0 r1 r2 r3 b0 b1 b2 b3) = false := by
 rw [← fullInside]; rcases hf with e | e <;> rw [e] <;> simp
end

section
open Go.RowKit
attribute [local go_sem ↓] Go.wp_at_zero Go.wp_at_succ
set_option linter.unusedVariables false
set_option linter.unusedSimpArgs false

theorem rep_get (n k : Nat) : (List.replicate n (0 : Int)).getD k 0 = 0 := by
 rw [List.getD_eq_getElem?_getD]
 rcases Nat.lt_or_ge k n with h | h <;> simp [h]
theorem tVal_whole (w : Int) (zs : List Int) (n m : Nat) (k j : Nat) : tVal w zs 0 0 (List.replicate n 0) (List.replicate m 0) 0 k j = rowsS w zs 0 0 (k + 1) (j + 1) := by
 unfold tVal
 rw [rep_get, rep_get, tSum_rowsS]; simp
theorem rowS_le {w h mx : Int} {zs : List Int} (hv : pValid w h mx zs = true) (r0 r1 : Int) (a j : Nat) : 0 ≤ rowS w zs r0 r1 a j ∧ rowS w zs r0 r1 a j ≤ j * mx :=
 sumN_bd fun i _ => tPix_bd hv r0 r1 a i
theorem rowsS_le {w h mx : Int} {zs : List Int} (hv : pValid w h mx zs = true) (r0 r1 : Int) (k j : Nat) : 0 ≤ rowsS w zs r0 r1 k j ∧ rowsS w zs r0 r1 k j ≤ k * (j * mx) :=
 sumN_bd fun i _ => rowS_le hv r0 r1 i j
theorem whole_in {w h mx : Int} {zs : List Int} (hv : pValid w h mx zs = true) {k j : Nat} (hk : (k : Int) ≤ h) (hj : (j : Int) ≤ w) : 0 ≤ rowsS w zs 0 0 k j ∧ rowsS w zs 0 0 k j ≤ w * h * mx := by
 obtain ⟨h0, h1⟩ := rowsS_le hv 0 0 k j; obtain ⟨p1, p2, p3, p4, p5, p6, p7⟩ := pOk_iff.1 (pValid_iff.1 hv).1; have e1 : (j : Int) * mx ≤ w * mx := Int.mul_le_mul_of_nonneg_right hj (by omega); have e2 : (k : Int) * (j * mx) ≤ h * (w * mx) := Int.mul_le_mul hk e1 (Int.mul_nonneg (by omega) (by omega)) (by omega); have e3 : h * (w * mx) = w * h * mx := by rw [← Int.mul_assoc, Int.mul_comm h w]
 omega
theorem whole_all {w h mx : Int} {zs : List Int} (hv : pValid w h mx zs = true) (nh nw : Nat) (hnh : h = nh) (hnw : w = nw) :
  tAll w zs 0 0 (List.replicate nh 0) (List.replicate nw 0) 0 = gridL (fun k j => rowsS w zs 0 0 (k + 1) (j + 1)) nw nh 0 := by
 unfold tAll
 rw [List.length_replicate, List.length_replicate]
 congr 1
 funext k j
 exact tVal_whole w zs nh nw k j
theorem whole_code {w h mx : Int} {zs : List Int} (hv : pValid w h mx zs = true) (hi : iOk w h mx = true) (nh nw : Nat) (hnh : h = nh) (hnw : w = nw) :
  tCode w h mx zs 0 0 w h (List.replicate nh 0) (List.replicate nw 0) 0 = 0 := by
 have hp := (pOk_iff.1 (pValid_iff.1 hv).1); obtain ⟨p1, p2, p3, p4, p5, p6, p7⟩ := hp; have hin := (inside_iff (w := w) (h := h) (r0 := 0) (r1 := 0) (r2 := w) (r3 := h) p1 p2 p3 p4).2 (by omega); have hm : 0 ≤ w * h * mx := Int.mul_nonneg (Int.mul_nonneg (by omega) (by omega)) (by omega)
 have hz : ∀ n, allIn (w * h * mx) (List.replicate n 0) = true := fun n => allIn_iff.2 fun v hv' => by
  rw [List.mem_replicate] at hv'; omega
 have h1 : allIn (w * h * mx) [0] = true := hz 1
 have ha : allIn (w * h * mx) (tAll w zs 0 0 (List.replicate nh 0) (List.replicate nw 0) 0) = true := by
  rw [whole_all hv nh nw hnh hnw, allIn_iff]; refine (gridL_all _ nw nh).2 fun a ha b hb => ?_
  exact whole_in hv (by omega) (by omega)
 unfold tCode
 rw [if_neg (by rw [hv]; simp), if_neg (by rw [hi]; simp), if_neg (by rw [hin]; simp), if_neg (by simp; omega), if_neg (by rw [h1, hz, hz]; simp), if_neg (by rw [ha]; simp)]
theorem fillL_get {f : Nat → Nat → Int} {wd k j N a b : Nat} (hN : k * wd + j ≤ N) (hb : b < wd) (h : a < k ∨ (a = k ∧ b < j)) : (fillL f wd k j N).getD (a * wd + b) 0 = f a b := by
 have hlt : a * wd + b < k * wd + j := by
  rcases h with h | ⟨rfl, h⟩
  ·
   have := Nat.mul_le_mul_right wd (show a + 1 ≤ k by omega); rw [Nat.add_mul, Nat.one_mul] at this
   omega
  omega
 unfold fillL
 rw [List.getD_eq_getElem?_getD, List.getElem?_append_left (by rw [gridL_len]; exact hlt), ← List.getD_eq_getElem?_getD]; exact gridL_get f wd k j a b hb h

set_option maxRecDepth 100000 in
set_option maxHeartbeats 6400000 in
theorem qwhole13_any (w h mx : Int) (a : Option Addr) (n c : Nat) (zs : List Int) (W : World) (hs : Slc W a n c zs) :
  Calls Tryz.prog 30 #[.agg #[.int .i64 w, .int .i64 h, .int .i64 mx, .slice a n c]] W (TilePost w h mx zs 0 0 w h (List.replicate h.toNat 0) (List.replicate w.toNat 0) 0 W) := by
 obtain ⟨B, hB⟩ : ∃ B, W.heap.size = B := ⟨_, rfl⟩; have HS := kq hs; have HI0 := kq (St.init hB); clear hs
 go_enter Tryz.func30, Tryz.ntmps30
 go_upto_region 1 with fail
 have H1 := kq (show St _ _ (.cells (B + 1) _ _ :: .cells B _ _ :: _) _ _ from ((HI0.o.alloc #[.int .i64 w, .int .i64 h, .int .i64 mx, .slice a n c] 26 hB).alloc #[.int .i64 0, .int .i64 0, .int .i64 0, .slice none 0 0] 26 (by first | exact hB | simp [hB]))); first | refine gK H1 ?_ | refine gL H1 ?_ | refine gC H1 ?_
 clear H1; intro w2 H1; have z3 := H1.o.c4 1 rfl; go_wp2_with fail
 clear z3; refine (qchecked_any _ _ _ _ _ _ _ _ (H1.o.old HS.o)).mono ?_; rintro e w7 ⟨rfl, hb⟩; have H8 := kq (H1.o.call hb); clear hb; have HKC := kq (show kCode w h mx zs ≠ 0 → tCode w h mx zs 0 0 w h (List.replicate h.toNat 0) (List.replicate w.toNat 0) 0 = kCode w h mx zs from fun hk => tCode_of_k hk); have HKV := kq (show kCode w h mx zs = 0 → pValid w h mx zs = true ∧ iOk w h mx = true from fun hk => valid_of_k hk); have HKM := kq (show pValid w h mx zs = true → iOk w h mx = true → kVal w h mx zs = w * h * mx from fun hv hi => by simp [kVal, iVal, hv, hi]); obtain ⟨kc, hkc⟩ : ∃ k, kCode w h mx zs = k := ⟨_, rfl⟩; obtain ⟨kv, hkv⟩ : ∃ k, kVal w h mx zs = k := ⟨_, rfl⟩; rw [hkc] at HKC HKV ⊢; rw [hkv] at HKM ⊢; clear hkc hkv; by_cases hk0 : kc = 0
 ·
  subst hk0; obtain ⟨hv, hio⟩ := HKV.o rfl; have hm := HKM.o hv hio; subst hm; have HV := kq hv; have HIO := kq (iOk_iff.1 hio); have HIK := kq hio; obtain ⟨p1, p2, p3, p4, p5, p6, p7⟩ := pOk_iff.1 (pValid_iff.1 hv).1; clear HKC HKV HKM hio; obtain ⟨most, hmost⟩ : ∃ m, w * h * mx = m := ⟨_, rfl⟩; have HMO := kq hmost; rw [hmost]; obtain ⟨nh, hnh⟩ : ∃ m : Nat, h = m := ⟨h.toNat, by omega⟩; obtain ⟨nw, hnw⟩ : ∃ m : Nat, w = m := ⟨w.toNat, by omega⟩; have HNH := kq hnh; have HNW := kq hnw; have hn1 : 1 ≤ nh ∧ nh ≤ 128 ∧ h ≤ nh ∧ nh ≤ h := by omega
  have hn2 : 1 ≤ nw ∧ nw ≤ 128 ∧ w ≤ nw ∧ nw ≤ w := by omega
  obtain ⟨nh1, nh2, nh3, nh4⟩ := hn1; obtain ⟨nw1, nw2, nw3, nw4⟩ := hn2
  have m2 : 1 ≤ most := by
   rw [← hmost]; have e1 := Int.mul_le_mul (a := 1) (b := 1) (c := w) (d := h) (by omega) (by omega) (by omega) (by omega); have e2 := Int.mul_le_mul (a := 1) (b := 1) (c := w * h) (d := mx) (by omega) (by omega) (by omega) (by omega)
   omega
  have m3 : most ≤ 4294967296 := by rw [← hmost]; exact HIO.o.2.2.2.2
  obtain ⟨NN, hNN⟩ : ∃ N : Nat, nh * nw = N := ⟨_, rfl⟩; have n1 : 1 ≤ NN := by rw [← hNN]; exact Nat.mul_pos (by omega) (by omega)
  have hNT : w * h = (NN : Int) := by rw [← hNN, hnw, hnh, Int.mul_comm]; simp
  have n2 : NN ≤ 4096 := by omega
  have HN := kq (show (n : Int) = NN from by rw [← hNT, ← (pValid_iff.1 hv).2.1, HS.o.len]); have hNP : pOk w h most = true := pOk_iff.2 ⟨by omega, by omega, by omega, by omega, by omega, m2, m3⟩; have HNP := kq hNP; have HNI := kq (show ∀ x, nIf w h most x = x from fun x => by unfold nIf; rw [if_pos hNP]); have HNL := kq (show nList w h most = List.replicate NN 0 from by unfold nList; rw [if_pos hNP, hNT]; rfl); have HNN := kq hNN; clear hNN hNT hNP hnh hnw hmost hv; have z9 := H8.o.c4 1 rfl; go_wp2_with fail
  clear z9; refine (qnew_any _ _ _ _).mono ?_; rintro e w6 ⟨v6, rfl, ho, hb⟩; have H2 := kq (H8.o.grow hb ho); obtain ⟨v6a, v6c, rfl, _⟩ := ho.slc; clear ho hb; have hnl := HNL.o; rw [hnl] at H2 ⊢; simp only [List.length_replicate] at H2 ⊢; rw [HNI.o, HNI.o, HNI.o, HNP.o]; clear hnl; obtain ⟨g0, g1, hg0⟩ := (H2.o.own 0 rfl).pos (by rw [List.length_replicate]; omega); simp only [List.length_replicate] at hg0; injection hg0 with e1 e2 e3
  subst e1; clear e2 e3; obtain ⟨D16, hD16⟩ := nK w6.heap.size; go_upto_region 5 with fail
  have H3 := kq (H2.o.alloc #[.int .i64 w, .int .i64 h, .int .i64 most, .slice (some ⟨g0, 0, none⟩) NN v6c] 26 hD16); first | refine gK H3 ?_ | refine gL H3 ?_ | refine gC H3 ?_
  clear H3; intro w6 H3; clear hD16; go_wp2_with fail
  obtain ⟨f, hf⟩ : ∃ f : Nat → Nat → Int, (fun k j => rowsS w zs 0 0 (k + 1) (j + 1)) = f := ⟨_, rfl⟩; have HFV := kq (show ∀ k j, rowsS w zs 0 0 k (j + 1) + rowS w zs 0 0 k (j + 1) = f k j from fun k j => by rw [← hf]; rfl); have HFB := kq (show ∀ k j, k < nh → j < nw → 0 ≤ f k j ∧ f k j ≤ most from fun k j h1 h2 => by rw [← hf, ← HMO.o]; exact whole_in HV.o (by omega) (by omega)); have HF := kq hf; clear hf
  go_loopw [8] (fun i wr => ∃ k : Nat, k ≤ nh ∧ i = .int .i64 k ∧ St B W [.own (.slice (some ⟨g0, 0, none⟩) NN v6c) (fillL f nw k 0 NN), .cells D16 #[.int .i64 w, .int .i64 h, .int .i64 most, .slice (some ⟨g0, 0, none⟩) NN v6c] 26, .cells (B + 1) #[.int .i64 0, .int .i64 0, .int .i64 0, .slice none 0 0] 26, .cells B #[.int .i64 w, .int .i64 h, .int .i64 mx, .slice a n c] 26] [] wr) (fun i _ => nh - (intOf i).toNat)
  case atStart => exact ⟨0, by omega, rfl, by rw [fillL_zero]; exact H3.o.pick [1, 0, 2, 3] rfl (by decide)⟩
  case round =>
   obtain ⟨k, hk, rfl, hst⟩ := hrel; obtain ⟨u1, rfl⟩ : ∃ u1 : World, u1 = wr := ⟨_, rfl⟩; have H2 := kq hst; clear hst; by_cases hkn : k < nh
   ·
    have hkn' : (k : Int) < h := by omega
    have z1 := H2.o.c4 3 rfl; go_wp2_with fail
    clear z1
    go_loopw [10, 9] (fun i s wr => ∃ j : Nat, j ≤ nw ∧ i = .int .i64 j ∧ s = .int .i64 (rowS w zs 0 0 k j) ∧ St B W [.own (.slice (some ⟨g0, 0, none⟩) NN v6c) (fillL f nw k j NN), .cells D16 #[.int .i64 w, .int .i64 h, .int .i64 most, .slice (some ⟨g0, 0, none⟩) NN v6c] 26, .cells (B + 1) #[.int .i64 0, .int .i64 0, .int .i64 0, .slice none 0 0] 26, .cells B #[.int .i64 w, .int .i64 h, .int .i64 mx, .slice a n c] 26] [] wr) (fun i _ _ => nw - (intOf i).toNat)
    case atStart => exact ⟨0, by omega, rfl, rfl, H2.o⟩
    case round =>
     obtain ⟨j, hj, rfl, rfl, hst⟩ := hrel; obtain ⟨u2, rfl⟩ : ∃ u2 : World, u2 = wr := ⟨_, rfl⟩; have H3 := kq hst; clear hst; obtain ⟨R1, R3⟩ := rowS_bd HV.o 0 0 k (j := j) (by omega); have HRS0 := kq (show rowS w zs 0 0 k (j + 1) = rowS w zs 0 0 k j + tPix w zs 0 0 k j from rfl); obtain ⟨R2, hR2⟩ := nK (rowS w zs 0 0 k j); rw [hR2] at R1 R3 HRS0 ⊢; have HR2 := kq hR2; clear hR2; by_cases hjn : j < nw
     ·
      have hjn' : (j : Int) < w := by omega
      obtain ⟨pz1, pz2⟩ := tPix_bd HV.o 0 0 k j; obtain ⟨KN, hKN⟩ : ∃ K : Nat, k * nw = K := ⟨_, rfl⟩; have HKN := kq hKN; have hKM : (k : Int) * w = (KN : Int) := by rw [HNW.o, ← hKN]; simp
      have kn1 : KN + j < NN := by
       have e1 : (k + 1) * nw ≤ nh * nw := Nat.mul_le_mul_right _ (by omega); rw [HNN.o, Nat.add_mul, Nat.one_mul, hKN] at e1
       omega
      have kn2 : (KN : Int) + (j : Int) < NN := by omega
      have hnn : (n : Int) ≤ NN ∧ (NN : Int) ≤ n := by have := HN.o; omega
      obtain ⟨hnn1, hnn2⟩ := hnn; have w0 : IntKind.i64.wrap (KN : Int) = KN := IntWalk.i64_in _ (by omega); obtain ⟨pbk, po, hpa⟩ := row_at (H3.o.old HS.o).row (by omega); have cz := row_cell (by rw [← hpa]; exact (H3.o.old HS.o).row) (j := KN + j) (by omega); have HPZ0 := kq (show tPix w zs 0 0 k j = zs.getD (KN + j) 0 from by unfold tPix; rw [Int.zero_add, hKM]; congr 1 <;> omega); rw [← HPZ0.o] at cz; rw [hpa] at HS; subst hpa; clear hKN; obtain ⟨pz, hpz⟩ := nK (tPix w zs 0 0 k j); rw [hpz] at cz pz1 pz2 HRS0; have HPZ := kq hpz; clear hpz; have nk1 : k * nw + j < NN := by rw [HKN.o]; exact kn1
      obtain ⟨s1, s2⟩ := H3.o.get 0 rfl (j := KN + j) (by rw [fillL_len (by omega)]; omega); have z1 := H3.o.c4 3 rfl; have z10 := H3.o.c4 1 rfl; go_upto_region 14 with fail
      clear z1 z10; have H4 := kq (show St _ _ (.own (.slice (some ⟨g0, 0, none⟩) NN v6c) ((fillL f nw k j NN).set (KN + j) (R2 + pz)) :: _) _ _ from (H3.o.store 0 rfl (KN + j) (R2 + pz))); first | refine gK H4 ?_ | refine gL H4 ?_ | refine gC H4 ?_
      clear H4; intro w6 H4; clear s1 s2 cz; by_cases hk0 : 0 < k
      ·
       have hk0' : (0 : Int) < k := by omega
       go_upto_region 15 with fail
       refine wp_region_still_tail 23 (by kernel_rfl) (by kernel_rfl) ?_
       change wpStill _ _ (w6.drewN 1) (fun a' => wpList _ _ _ _ a' (w6.drewN 1)) _ _
       have H5 := kq (H4.o.drewN 1); generalize w6.drewN 1 = k1 at *; have z1 := H5.o.c4 1 rfl; have z1 := H5.o.c4 3 rfl; obtain ⟨KP, hKP⟩ : ∃ K : Nat, (k - 1) * nw = K := ⟨_, rfl⟩
       have kp1 : KP + nw = KN := by
        rw [← hKP, ← HKN.o]; obtain ⟨m, hm⟩ : ∃ m, k = m + 1 := ⟨k - 1, by omega⟩; rw [hm, Nat.add_sub_cancel, Nat.add_mul, Nat.one_mul]
       have hKQ : ((k : Int) - 1) * w = (KP : Int) := by rw [Int.sub_mul, Int.one_mul, hKM]; omega
       obtain ⟨t1, t2⟩ := H5.o.get 0 rfl (j := KN + j) (by rw [List.length_set, fillL_len (by omega)]; omega); obtain ⟨t3, t4⟩ := H5.o.get 0 rfl (j := KP + j) (by rw [List.length_set, fillL_len (by omega)]; omega); have e5 : ((fillL f nw k j NN).set (KN + j) (R2 + pz)).getD (KN + j) 0 = R2 + pz := by rw [List.getD_eq_getElem?_getD, List.getElem?_set_self (by rw [fillL_len (by omega)]; omega)]; rfl
       have e6 : ((fillL f nw k j NN).set (KN + j) (R2 + pz)).getD (KP + j) 0 = f (k - 1) j := by
        rw [List.getD_eq_getElem?_getD, List.getElem?_set_ne (by omega), ← List.getD_eq_getElem?_getD, ← hKP]; exact fillL_get (f := f) (wd := nw) (k := k) (j := j) (N := NN) (a := k - 1) (b := j) (by omega) (by omega) (.inl (by omega))
       rw [e5] at t1; rw [e6] at t3; obtain ⟨fp1, fp2⟩ := HFB.o (k - 1) j (by omega) (by omega); have hfk := HFV.o k j; have hfp := HFV.o (k - 1) j
       have e7 : rowsS w zs 0 0 k (j + 1) = f (k - 1) j := by
        rw [← hfp]; obtain ⟨m, hm⟩ : ∃ m, k = m + 1 := ⟨k - 1, by omega⟩; rw [hm, Nat.add_sub_cancel]
        rfl
       have HNX := kq (show ((fillL f nw k j NN).set (KN + j) (R2 + pz)).set (KN + j) (R2 + pz + f (k - 1) j) = fillL f nw k (j + 1) NN from by
        rw [List.set_set, ← HKN.o, ← fillL_next (by omega), ← hfk, e7, HRS0.o, Int.add_comm])
       clear e5 e6 e7 hfk hfp hKP; obtain ⟨fp, hfq⟩ := nK (f (k - 1) j); rw [hfq] at t3 fp1 fp2 HNX; clear hfq; have w1 : IntKind.i64.wrap ((k : Int) - 1) = (k : Int) - 1 := IntWalk.i64_in _ (by omega); have w2 : IntKind.i64.wrap (KP : Int) = KP := IntWalk.i64_in _ (by omega); have w3 : IntKind.i64.wrap ((KN : Int) + (j : Int)) = (KN : Int) + j := IntWalk.i64_in _ (by omega); have w4 : IntKind.i64.wrap ((KP : Int) + (j : Int)) = (KP : Int) + j := IntWalk.i64_in _ (by omega); have w5 : IntKind.i64.wrap (R2 + pz + fp) = R2 + pz + fp := IntWalk.i64_in _ (by omega); have v1 : 0 ≤ (KN : Int) + (j : Int) := by omega
       have v2 : 0 ≤ (KP : Int) + (j : Int) := by omega
       have v3 : (KP : Int) + (j : Int) < NN := by omega
       have v4 : ((KN : Int) + (j : Int)).toNat = KN + j := by omega
       have v5 : ((KP : Int) + (j : Int)).toNat = KP + j := by omega
       simp only [List.take_succ_cons, List.take_zero, List.drop_succ_cons, List.drop_zero]; iterate 23 still_step
       refine wpStill_nil ?_; go_upto_region 11 with fail
       have H6 := kq (show St _ _ (.own (.slice (some ⟨g0, 0, none⟩) NN v6c) (((fillL f nw k j NN).set (KN + j) (R2 + pz)).set (KN + j) (R2 + pz + fp)) :: _) _ _ from (H5.o.store 0 rfl (KN + j) (R2 + pz + fp))); first | refine gK H6 ?_ | refine gL H6 ?_ | refine gC H6 ?_
       clear H6; intro w6 H6; go_wp2_with fail
       go_roundw
       case rel => exact ⟨j + 1, by omega, by go_num, by rw [HRS0.o], by rw [← HNX.o]; exact H6.o⟩
       case measure => simp [intOf]; omega
      have hk0' : ¬ ((0 : Int) < k) := by omega
      have HNX := kq (show (fillL f nw k j NN).set (KN + j) (R2 + pz) = fillL f nw k (j + 1) NN from by
       rw [← HKN.o, ← fillL_next (by omega), ← HFV.o k j, ← HRS0.o]
       congr 1
       have e : k = 0 := by omega
       subst e; exact (Int.zero_add _).symm)
      go_wp2_with fail
      go_roundw
      case rel => exact ⟨j + 1, by omega, by go_num, by rw [HRS0.o], by rw [← HNX.o]; exact H4.o⟩
      case measure => simp [intOf]; omega
     have hjn' : ¬ ((j : Int) < w) := by omega
     have HJ := kq (show j = nw by omega); have z1 := H3.o.c4 3 rfl; go_wp2_with fail
     clear z1
     go_roundw
     case rel => exact ⟨k + 1, by omega, by go_num, by rw [← fillL_row]; have e := HJ.o; subst e; exact H3.o⟩
     case measure => simp [intOf]; omega
   have hkn' : ¬ ((k : Int) < h) := by omega
   have HKL := kq (show k = nh by omega); have z1 := H2.o.c4 3 rfl; have z10 := H2.o.c4 1 rfl; have z14 := H2.o.f3 2 rfl; have z19 := H2.o.cell 2 rfl 3 rfl; have z20 := H2.o.free 2 rfl 3; go_wp2_with fail
   clear z1 z10 z14 z19 z20; have H3 := kq (show St B W [.own (.slice (some ⟨g0, 0, none⟩) NN v6c) (fillL f nw k 0 NN), .cells D16 #[.int .i64 w, .int .i64 h, .int .i64 most, .slice (some ⟨g0, 0, none⟩) NN v6c] 26, .cells (B + 1) #[.int .i64 w, .int .i64 h, .int .i64 most, .slice (some ⟨g0, 0, none⟩) NN v6c] 26, .cells B #[.int .i64 w, .int .i64 h, .int .i64 mx, .slice a n c] 26] [] ((((u1.setCell ⟨B + 1, 0, none⟩ (.int .i64 w)).setCell ⟨B + 1, 1, none⟩ (.int .i64 h)).setCell ⟨B + 1, 2, none⟩ (.int .i64 most)).setCell ⟨B + 1, 3, none⟩ (.slice (some ⟨g0, 0, none⟩) NN v6c)) from (H2.o.set4 2 rfl (.int .i64 w) (.int .i64 h) (.int .i64 most) (.slice (some ⟨g0, 0, none⟩) NN v6c))); have e1 : h.toNat = nh := by omega
   have e2 : w.toNat = nw := by omega
   have HC0 := kq (whole_code HV.o HIK.o nh nw HNH.o HNW.o); rw [e1, e2]; have HTI := kq (show ∀ x, tIf w h mx zs 0 0 w h (List.replicate nh 0) (List.replicate nw 0) 0 x = x from fun x => by unfold tIf; rw [if_pos HC0.o]); have HTLL := kq (show tList w h mx zs 0 0 w h (List.replicate nh 0) (List.replicate nw 0) 0 = fillL f nw k 0 NN from by unfold tList; rw [if_pos HC0.o, whole_all HV.o nh nw HNH.o HNW.o, HF.o, ← HNN.o, ← HKL.o, fillL_all]); obtain ⟨q1, q2, q3, q4⟩ := H3.o.c4 2 rfl; refine bodyPost_ret (v := .tuple #[.agg #[.int .i64 w, .int .i64 h, .int .i64 most, .slice (some ⟨g0, 0, none⟩) NN v6c], .int .i64 0]) ?_ rfl ⟨_, by rw [HTI.o, HTI.o, HTI.o, HC0.o, HMO.o, Int.sub_zero, Int.sub_zero], by rw [HTLL.o, hB]; exact H3.o.own 0 rfl, H3.o.bl⟩; simp [results, Tryz.results30, go_sem, q1, q2, q3, q4]
 have hk1 : (kc == 0) = false := by simpa using hk0
 have hk2 : (kc != 0) = true := by simpa using hk0
 have HC := kq (HKC.o hk0); have hk3 := kq hk0; clear hk0; have z1 := H8.o.f3 0 rfl; have z12 := H8.o.cell 0 rfl 3 rfl; have z13 := H8.o.free 0 rfl 3; go_wp2_with fail
 clear z1 z12 z13; have H2 := kq (show St B W [.cells (B + 1) #[.int .i64 0, .int .i64 0, .int .i64 0, .slice none 0 0] 26, .cells B #[.int .i64 w, .int .i64 h, .int .i64 mx, .slice a n c] 26] [] ((((w7.setCell ⟨B + 1, 0, none⟩ (.int .i64 0)).setCell ⟨B + 1, 1, none⟩ (.int .i64 0)).setCell ⟨B + 1, 2, none⟩ (.int .i64 0)).setCell ⟨B + 1, 3, none⟩ (.slice none 0 0)) from (H8.o.set4 0 rfl (.int .i64 0) (.int .i64 0) (.int .i64 0) (.slice none 0 0))); obtain ⟨q1, q2, q3, q4⟩ := H2.o.c4 0 rfl; refine bodyPost_ret (v := .tuple #[.agg #[.int .i64 0, .int .i64 0, .int .i64 0, .slice none 0 0], .int .i64 kc]) ?_ rfl (tile_no (HC.o) (hk3.o) (H2.o.bl)); simp [results, Tryz.results30, go_sem, q1, q2, q3, q4]
end

section
open Go.RowKit
attribute [local go_sem ↓] Go.wp_at_zero Go.wp_at_succ
set_option linter.unusedVariables false
set_option linter.unusedSimpArgs false
end

section
open Go.RowKit
attribute [local go_sem ↓] Go.wp_at_zero Go.wp_at_succ
set_option linter.unusedVariables false
set_option linter.unusedSimpArgs false

def bRow (qs : List Int) (qw k j : Nat) : List Int := (List.range j).map fun b => qs.getD (k * qw + b) 0
def bl (zs qs : List Int) (nw X Y qw : Nat) : Nat → List Int
 | 0 => zs
 | k + 1 => splice (bl zs qs nw X Y qw k) ((Y + k) * nw + X) (bRow qs qw k qw)
end

section
open Go.RowKit
attribute [local go_sem ↓] Go.wp_at_zero Go.wp_at_succ
set_option linter.unusedVariables false
set_option linter.unusedSimpArgs false
end

section
open Go.RowKit
attribute [local go_sem ↓] Go.wp_at_zero Go.wp_at_succ
set_option linter.unusedVariables false
set_option linter.unusedSimpArgs false

theorem bIdx_bd {i n p : Int} (h : bOk i n p = true) : 1 ≤ n ∧ n ≤ 128 ∧ 0 ≤ bIdx i n p ∧ bIdx i n p < n := by
 by_cases h1 : n < 1
 ·
  simp [bOk, h1] at h
 by_cases h2 : 128 < n
 ·
  simp [bOk, h1, h2] at h
 obtain ⟨m1, m2⟩ : 0 ≤ i % (2 * n) ∧ i % (2 * n) < 2 * n := ⟨Int.emod_nonneg _ (by omega), Int.emod_lt_of_pos _ (by omega)⟩; obtain ⟨m3, m4⟩ : 0 ≤ i % n ∧ i % n < n := ⟨Int.emod_nonneg _ (by omega), Int.emod_lt_of_pos _ (by omega)⟩; refine ⟨by omega, by omega, ?_⟩
 unfold bIdx
 rw [if_neg h1, if_neg h2]
 repeat' split
 all_goals omega
def pPix (w h : Int) (zs : List Int) (p f x y : Int) : Int := if bOk x w p = true ∧ bOk y h p = true then zs.getD (bIdx y h p * w + bIdx x w p).toNat 0 else f
set_option maxRecDepth 100000 in
set_option maxHeartbeats 3200000 in
theorem qpixel_any (w h mx : Int) (a : Option Addr) (n c : Nat) (zs : List Int) (p f x y : Int) (W : World) (hs : Slc W a n c zs) (hv : pValid w h mx zs = true) :
  Calls Tryz.prog 76 #[.agg #[.int .i64 w, .int .i64 h, .int .i64 mx, .slice a n c], .agg #[.int .i64 p, .int .i64 f], .int .i64 x, .int .i64 y] W fun e w' => e = .returned (.int .i64 (pPix w h zs p f x y)) ∧ Below W.heap.size W w' := by
 obtain ⟨B, hB⟩ : ∃ B, W.heap.size = B := ⟨_, rfl⟩; have HI0 := kq (St.init hB); have HS := kq hs; have HL := kq hs.len; have HV := kq hv; clear hv; clear hs
 go_enter Tryz.func76, Tryz.ntmps76
 go_upto_region 1 with fail
 have H1 := kq (show St _ _ (.cells (B + 1) _ _ :: .cells B _ _ :: _) _ _ from ((HI0.o.alloc #[.int .i64 w, .int .i64 h, .int .i64 mx, .slice a n c] 26 hB).alloc #[.int .i64 p, .int .i64 f] 30 (by first | exact hB | simp [hB]))); first | refine gK H1 ?_ | refine gL H1 ?_ | refine gC H1 ?_
 clear H1; intro w2 H1; have z3 := H1.o.c4 1 rfl; have z7 := H1.o.c2 0 rfl; go_wp2_with fail
 clear z3 z7; refine (rindex_any _ _ _ _).mono ?_; rintro e w9 ⟨rfl, hsw⟩; have hsw2 : w2 = w9 := by first | exact hsw | exact hsw.symm
 clear hsw; subst hsw2; obtain ⟨ix, hix⟩ := nK (bIdx x w p); rw [hix]; have HIX := kq hix; clear hix; obtain ⟨ox, hox⟩ := nK (bOk x w p); rw [hox]; have HOX := kq hox; clear hox; have z1 := H1.o.c4 1 rfl; have z11 := H1.o.c2 0 rfl; go_wp2_with fail
 clear z1 z11; refine (rindex_any _ _ _ _).mono ?_; rintro e w16 ⟨rfl, hsw⟩; have hsw2 : w2 = w16 := by first | exact hsw | exact hsw.symm
 clear hsw; subst hsw2; obtain ⟨iy, hiy⟩ := nK (bIdx y h p); rw [hiy]; have HIY := kq hiy; clear hiy; obtain ⟨oy, hoy⟩ := nK (bOk y h p); rw [hoy]; have HOY := kq hoy; clear hoy; cases ox; rotate_left
 ·
  cases oy; rotate_left
  ·
   obtain ⟨w1, w2, x1, x2⟩ := bIdx_bd HOX.o; obtain ⟨h1, h2, y1, y2⟩ := bIdx_bd HOY.o; rw [HIX.o] at x1 x2; rw [HIY.o] at y1 y2; obtain ⟨pa0, pa1, pa2, pa3⟩ := pix_at (w := w) (h := h) (x := ix) (y := iy) w1 w2 h2 x1 x2 y1 y2; have hwh := (pValid_iff.1 HV.o).2.1; rw [HL.o] at hwh; obtain ⟨PA, hPA⟩ : ∃ P, iy * w = P := ⟨_, rfl⟩; rw [hPA] at pa0 pa1 pa2 pa3; have hlt : PA + ix < n := by omega
   clear hwh; obtain ⟨pbk, po, hpa⟩ := row_at (H1.o.old HS.o).row (by omega); have cz := row_cell (by rw [← hpa]; exact (H1.o.old HS.o).row) (j := (PA + ix).toNat) (by omega); have HPX := kq (show zs.getD (PA + ix).toNat 0 = pPix w h zs p f x y from by unfold pPix; rw [if_pos ⟨HOX.o, HOY.o⟩, HIX.o, HIY.o, hPA]); rw [HPX.o] at cz; subst hpa; have z1 := H1.o.c4 1 rfl; go_wp2_with fail
   clear z1
   go_ret
   exact ⟨rfl, H1.o.bl⟩
  have z1 := H1.o.c2 0 rfl; go_wp2_with fail
  clear z1
  go_ret
  exact ⟨ret_i (by unfold pPix; rw [if_neg (fun e => by have := e.2; rw [HOY.o] at this; cases this)]), H1.o.bl⟩
 have z1 := H1.o.c2 0 rfl; go_wp2_with fail
 clear z1
 go_ret
 exact ⟨ret_i (by unfold pPix; rw [if_neg (fun e => by have := e.1; rw [HOX.o] at this; cases this)]), H1.o.bl⟩

def EdgePost (B0 k : Nat) (W : World) (e : Ending) (w' : World) : Prop := ∃ p f : Int, e = .returned (.agg #[.int .i64 p, .int .i64 f]) ∧ TapeB B0 w' k ∧ W.grownBy w' (some k)

section
variable {B0 k B : Nat} {W w : World} {l : List Ch}
theorem gen_tcode {P : Program} {c : Code} {Q : Exit → Act → World → Prop} {a : Act} (h : Tk B0 k B W l w) (q : ∀ w', Tk B0 k B W l w' → c.wp P Q a w') : c.wp P Q a w := q w h
theorem gen_tlist {P : Program} {ops : Array Oper} {Q : Exit → Act → World → Prop} {o : List Oper} {a : Act} (h : Tk B0 k B W l w) (q : ∀ w', Tk B0 k B W l w' → wpList P ops Q o a w') : wpList P ops Q o a w := q w h
theorem gen_tcalls {P : Program} {f : Nat} {args : Array Value} {post : Ending → World → Prop} (h : Tk B0 k B W l w) (q : ∀ w', Tk B0 k B W l w' → Calls P f args w' post) : Calls P f args w post := q w h
end
set_option maxRecDepth 100000 in
set_option maxHeartbeats 1600000 in
theorem edge_any (B0 k : Nat) (m : Int) (W : World) (ht : TapeB B0 W k) :
  Calls Tryz.prog 17 #[.pointer (some ⟨k, 0, none⟩), .int .i64 m] W (EdgePost B0 k W) := by
 obtain ⟨B, hB⟩ : ∃ B, W.heap.size = B := ⟨_, rfl⟩; have HI0 := kq (Tk.init ht hB); clear ht
 go_enter Tryz.func17, Tryz.ntmps17
 go_upto_region 1 with fail
 have H1 := kq (show Tk B0 k B W [.cells B #[.int .i64 0, .int .i64 0] 30] (W.alloc (.cells #[.int .i64 0, .int .i64 0] 30)) from (HI0.o.alloc #[.int .i64 0, .int .i64 0] 30 hB)); first | refine gen_tcode H1.o ?_ | refine gen_tlist H1.o ?_ | refine gen_tcalls H1.o ?_
 intro w1 hG; clear H1; have H1 := kq hG; clear hG; go_wp2_with fail
 refine (nextB_any B0 k _ _ (by omega) (H1.o.tape)).mono ?_; rintro e w1 ⟨x1, rfl, x1a, x1b, htn, hgn, hsn⟩; have H2 := kq (H1.o.next htn hgn); clear htn hgn hsn; obtain ⟨D1, hD1⟩ := nK w1.heap.size; go_upto_region 2 with fail
 have H1 := kq (show Tk B0 k B W [.cells D1 #[.int .i64 x1, .int .i64 0] 30, .cells B #[.int .i64 0, .int .i64 0] 30] (w1.alloc (.cells #[.int .i64 x1, .int .i64 0] 30)) from (H2.o.alloc #[.int .i64 x1, .int .i64 0] 30 hD1)); first | refine gen_tcode H1.o ?_ | refine gen_tlist H1.o ?_ | refine gen_tcalls H1.o ?_
 intro w1 hG; clear H1; have H1 := kq hG; clear hG; clear hD1; by_cases hz : x1 = 3
 ·
  have hz1 : (x1 == 3) = true := by simpa using hz
  have HZZ := kq hz; clear hz; obtain ⟨m2, hm3⟩ : ∃ q, wrap64 (m.tdiv 2) = q := ⟨_, rfl⟩; have z1 := H1.o.cell 0 rfl 0 rfl; have z2 := H1.o.cell 0 rfl 1 rfl; go_upto_region 3 with fail
  clear z1 z2; obtain ⟨D2, hD1⟩ := nK w1.heap.size; go_wp2_with fail
  have H2 := kq (show Tk B0 k B W [.cells D2 #[.int .i64 0, .int .i64 m, .int .i64 m2] 3, .cells D1 #[.int .i64 x1, .int .i64 0] 30, .cells B #[.int .i64 0, .int .i64 0] 30] (w1.alloc (.cells #[.int .i64 0, .int .i64 m, .int .i64 m2] 3)) from (H1.o.alloc #[.int .i64 0, .int .i64 m, .int .i64 m2] 3 hD1)); first | refine gen_tcode H2.o ?_ | refine gen_tlist H2.o ?_ | refine gen_tcalls H2.o ?_
  intro w2 hG; clear H2; have H2 := kq hG; clear hG; clear hD1; refine (pickB_any B0 k _ 3 3 [0, m, m2] _ (by omega) (by omega) (H2.o.tape) (H2.o.lit 0 [0, m, m2] rfl (by simp)).row (H2.o.far 0 rfl _)).mono ?_; rintro e w2 ⟨x2, rfl, hx1, htn, hgn, hsn⟩; have H3 := kq (H2.o.next htn hgn); clear htn hgn hsn; clear hx1; have z1 := H3.o.cell 1 rfl 0 rfl; have z2 := H3.o.free 1 rfl 0; have z3 := H3.o.cell 1 rfl 1 rfl; have z4 := H3.o.free 1 rfl 1; go_upto_region 4 with fail
  clear z1 z2 z3 z4; have H2 := kq (show Tk B0 k B W [.cells D2 #[.int .i64 0, .int .i64 m, .int .i64 m2] 3, .cells D1 #[.int .i64 x1, .int .i64 x2] 30, .cells B #[.int .i64 0, .int .i64 0] 30] (w2.setCell ⟨D1, 1, none⟩ (.int .i64 x2)) from (H3.o.set 1 rfl 1 (.int .i64 x2))); first | refine gen_tcode H2.o ?_ | refine gen_tlist H2.o ?_ | refine gen_tcalls H2.o ?_
  intro w2 hG; clear H2; have H2 := kq hG; clear hG; have z1 := H2.o.cell 1 rfl 0 rfl; have z2 := H2.o.cell 1 rfl 1 rfl; have z3 := H2.o.cell 2 rfl 0 rfl; have z4 := H2.o.free 2 rfl 0; have z5 := H2.o.cell 2 rfl 1 rfl; have z6 := H2.o.free 2 rfl 1; go_wp2_with fail
  clear z1 z2 z3 z4 z5 z6; have H3 := kq (show Tk B0 k B W [.cells D2 #[.int .i64 0, .int .i64 m, .int .i64 m2] 3, .cells D1 #[.int .i64 x1, .int .i64 x2] 30, .cells B #[.int .i64 x1, .int .i64 x2] 30] ((w2.setCell ⟨B, 0, none⟩ (.int .i64 x1)).setCell ⟨B, 1, none⟩ (.int .i64 x2)) from ((H2.o.set 2 rfl 0 (.int .i64 x1)).set 2 rfl 1 (.int .i64 x2))); have q1 := H3.o.cell 2 rfl 0 rfl; have q2 := H3.o.cell 2 rfl 1 rfl; refine bodyPost_ret (v := .agg #[.int .i64 x1, .int .i64 x2]) ?_ rfl ⟨x1, x2, rfl, H3.o.tape, H3.o.grown⟩; simp [results, Tryz.results17, go_sem, q1, q2]
 have hz1 : (x1 == 3) = false := by simpa using hz
 have z1 := H1.o.cell 0 rfl 0 rfl; have z2 := H1.o.cell 0 rfl 1 rfl; have z3 := H1.o.cell 1 rfl 0 rfl; have z4 := H1.o.free 1 rfl 0; have z5 := H1.o.cell 1 rfl 1 rfl; have z6 := H1.o.free 1 rfl 1; go_wp2_with fail
 clear z1 z2 z3 z4 z5 z6; have H2 := kq (show Tk B0 k B W [.cells D1 #[.int .i64 x1, .int .i64 0] 30, .cells B #[.int .i64 x1, .int .i64 0] 30] ((w1.setCell ⟨B, 0, none⟩ (.int .i64 x1)).setCell ⟨B, 1, none⟩ (.int .i64 0)) from ((H1.o.set 1 rfl 0 (.int .i64 x1)).set 1 rfl 1 (.int .i64 0))); have q1 := H2.o.cell 1 rfl 0 rfl; have q2 := H2.o.cell 1 rfl 1 rfl; refine bodyPost_ret (v := .agg #[.int .i64 x1, .int .i64 0]) ?_ rfl ⟨x1, 0, rfl, H2.o.tape, H2.o.grown⟩; simp [results, Tryz.results17, go_sem, q1, q2]
end

section
open Go.RowKit
set_option linter.unusedVariables false
end

section
open Go.RowKit
attribute [local go_sem ↓] Go.wp_at_zero Go.wp_at_succ
set_option linter.unusedVariables false
set_option linter.unusedSimpArgs false
end
end Go.Proofs.YteejjnhlfgjlaaaGreat
