/-
 Contracts: the interval of a program, in the program.
-/
import Derived.Test.YteejjnhlfgjlaaaGreatPw5
import Derived.Test.YteejjnhlfgjlaaaGreatPC
import Derived.Test.YteejjnhlfgjlaaaGreatKH
namespace Go.Proofs.YteejjnhlfgjlaaaGreat
open Go.RowKit
attribute [local go_sem ↓] Go.wp_at_zero Go.wp_at_succ
set_option linter.unusedVariables false
set_option linter.unusedSimpArgs false

theorem vGo_nil {d : Nat} (h : vGo [] true d = 0) : d = 1 := by
 unfold vGo at h
 split at h
 ·
  assumption
 omega
theorem iGo_step {oc og u v : Int} {lo hi : Int} {l0 l : List (Int × Int)} {st : List (Int × Int)} {R : Int × Int × Int} (h : iGo l0 st u v = R) (hd : l0 = (oc, og) :: l) (hp : pwInt oc og (st.getD (pwK oc - 1) (0, 0)) (st.getD 0 (0, 0)) u v = (lo, hi)) (ha : pwIok oc og (st.getD (pwK oc - 1) (0, 0)) (st.getD 0 (0, 0)) u v = true) : iGo l ((lo, hi) :: st.drop (pwK oc)) u v = R := by
 subst hd; rw [iGo_cons] at h
 dsimp only at h
 rw [if_pos ha, hp] at h; exact h
theorem iGo_stop {oc og u v : Int} {l0 l : List (Int × Int)} {st : List (Int × Int)} {R : Int × Int × Int} (h : iGo l0 st u v = R) (hd : l0 = (oc, og) :: l) (ha : pwIok oc og (st.getD (pwK oc - 1) (0, 0)) (st.getD 0 (0, 0)) u v = false) : R = (0, 0, 11) := by
 subst hd; rw [iGo_cons] at h
 dsimp only at h
 rw [if_neg (by rw [ha]; simp)] at h; exact h.symm
theorem ivR_bad {l : List (Int × Int)} {a b k : Int} (h : vCode l true = k) (hk : k ≠ 0) : ivR l a b = (0, 0, k) := by unfold ivR; rw [h, if_pos hk]
theorem ivR_range {l : List (Int × Int)} {a b : Int} (h : vCode l true = 0) (hk : ¬ (valOk a = true ∧ valOk b = true)) : ivR l a b = (0, 0, 2) := by unfold ivR; rw [h, if_neg (by simp), if_pos hk]
theorem ivR_go {l : List (Int × Int)} {a b : Int} (h : vCode l true = 0) (ha : valOk a = true) (hb : valOk b = true) : ivR l a b = iGo l [] a b := by unfold ivR; rw [h, if_neg (by simp), if_neg (by simp [ha, hb])]
theorem pwInt_src {c : Int} (h : 3 ≤ c) (g : Int) (x y : Int × Int) (a b : Int) : pwInt c g x y a b = pwInt c g x y 0 0 := by
 unfold pwInt; simp only [if_neg (show ¬ c = 0 by omega), if_neg (show ¬ c = 1 by omega)]
theorem pwIok_src {c : Int} (h : 3 ≤ c) (g : Int) (x y : Int × Int) (a b : Int) : pwIok c g x y a b = pwIok c g x y 0 0 := by
 unfold pwIok; rw [pwInt_src h g x y a b]
theorem pwIok_lo {c g a b : Int} {x y : Int × Int} (h : pwIok c g x y a b = true) : accOk (pwInt c g x y a b).1 = true ∧ accOk (pwInt c g x y a b).2 = true := by
 unfold pwIok at h
 rw [Bool.and_eq_true, Bool.and_eq_true] at h; exact h.2
theorem pwIok_push {c g a b : Int} {x y : Int × Int} (hc : c ≠ 5) {lo hi : Int} (he : pwInt c g x y a b = (lo, hi)) (h1 : accOk lo = true) (h2 : accOk hi = true) : pwIok c g x y a b = true := by
 unfold pwIok; rw [if_neg hc, he]; dsimp only; rw [h1, h2]; rfl
theorem acc_val {a : Int} (h : valOk a = true) : accOk a = true := by rw [valOk_iff'] at h; rw [accOk_iff]; omega
theorem pwInt_k0 {c : Int} (h : 0 ≤ c) (h' : pwK c = 0) (g : Int) (x y x' y' : Int × Int) (a b : Int) : pwInt c g x y a b = pwInt c g x' y' a b ∧ pwIok c g x y a b = pwIok c g x' y' a b := by
 have : c ≤ 2 := by unfold pwK at h'; split at h' <;> (try split at h') <;> omega
 rcases (show c = 0 ∨ c = 1 ∨ c = 2 by omega) with rfl | rfl | rfl <;> exact ⟨rfl, rfl⟩
theorem pwInt_k1 {c : Int} (h : c ≤ 11) (h' : pwK c = 1) (g : Int) (x y y' : Int × Int) (a b : Int) : pwInt c g x y a b = pwInt c g x y' a b ∧ pwIok c g x y a b = pwIok c g x y' a b := by
 have : 10 ≤ c := by unfold pwK at h'; split at h' <;> (try split at h') <;> omega
 rcases (show c = 10 ∨ c = 11 by omega) with rfl | rfl <;> exact ⟨rfl, rfl⟩

theorem info_ivl : (Tryz.prog.info? 121).map (fun i => (i.zero, i.size, i.bytes)) = some (some (.agg #[.int .i64 0, .int .i64 0]), 2, 16) := by kernel_rfl

set_option maxRecDepth 100000 in
set_option maxHeartbeats 6400000 in
theorem pinterval_any (a : Option Addr) (n c : Nat) (zs : List (Int × Int)) (u v : Int) (W : World) (hs : Prs W a n c zs) : Calls Tryz.prog 66 #[.slice a n c, .int .i64 u, .int .i64 v] W fun e w' => e = .returned (.tuple #[.int .i64 (ivR zs u v).1, .int .i64 (ivR zs u v).2.1, .int .i64 (ivR zs u v).2.2]) ∧ Below W.heap.size W w' := by
 obtain ⟨B, hB⟩ : ∃ B, W.heap.size = B := ⟨_, rfl⟩; have HI0 := kq (St.init hB); have HS := kq hs; have HL := kq hs.len; have nmx : (n : Int) ≤ 9223372036854775807 := by have := hs.nc; have := hs.cap; omega
 clear hs
 go_enter Tryz.func66, Tryz.ntmps66
 go_wp2_with fail
 refine (pvalid_any14 _ _ _ _ true _ (HI0.o.oldPrs HS.o)).mono ?_; rintro e w1 ⟨rfl, hb⟩; have H128 := kq (HI0.o.call hb); clear hb; obtain ⟨k1, HNk1⟩ := nQ (vCode zs true); rw [HNk1.o]
 rcases eqZ k1 0 with ⟨c1a, c1b, c1c, c1d, c1h⟩ | ⟨c1a, c1b, c1h⟩
 ·
  by_cases c3 : (u : Int) < 1
  ·
   go_wp2_with fail
   go_ret3
   exact ⟨by rw [ivR_range (by rw [HNk1.o]; have := c1h.o; omega) (by rw [valOk_iff', valOk_iff']; have := c1h.o; omega)]; rfl, H128.o.bl⟩
  by_cases c3 : (4294967296 : Int) < u
  ·
   go_wp2_with fail
   go_ret3
   exact ⟨by rw [ivR_range (by rw [HNk1.o]; have := c1h.o; omega) (by rw [valOk_iff', valOk_iff']; have := c1h.o; omega)]; rfl, H128.o.bl⟩
  by_cases c3 : (v : Int) < 1
  ·
   go_wp2_with fail
   go_ret3
   exact ⟨by rw [ivR_range (by rw [HNk1.o]; have := c1h.o; omega) (by rw [valOk_iff', valOk_iff']; have := c1h.o; omega)]; rfl, H128.o.bl⟩
  by_cases c3 : (4294967296 : Int) < v
  ·
   go_wp2_with fail
   go_ret3
   exact ⟨by rw [ivR_range (by rw [HNk1.o]; have := c1h.o; omega) (by rw [valOk_iff', valOk_iff']; have := c1h.o; omega)]; rfl, H128.o.bl⟩
  go_wp2_with fail
  have HV := kq (show vCode zs true = 0 from by rw [HNk1.o]; have := c1h.o; omega); have HU := kq (show valOk u = true from (valOk_iff'.2 (by have := c1h.o; omega))); have HW := kq (show valOk v = true from (valOk_iff'.2 (by have := c1h.o; omega))); have HEV := kq (ivR_go (l := zs) (a := u) (b := v) HV.o HU.o HW.o); obtain ⟨n1, n2⟩ : 1 ≤ n ∧ n ≤ 32 := by have := vCode_zero.1 HV.o; have := HL.o; omega
  have H1 := kq (show St B W [.arr (121) 2 (.slice none 0 0) 0 (prV [])] [] w1 from H128.o.arrNilE 121 2)
  go_loopw [41, 10] (fun i s wr => ∃ (j : Nat) (st L : List (Int × Int)) (sa : Option Addr) (ln sc : Nat), j ≤ n ∧ i = .int .i64 j ∧ s = .slice sa ln sc ∧ L = st.reverse ∧ vGo (zs.drop j) true st.length = 0 ∧ iGo (zs.drop j) st u v = iGo zs [] u v ∧ st.length ≤ j ∧ allAcc st ∧ St B W [.arr (121) 2 (.slice sa ln sc) ln (prV L)] [] wr) (fun i _ _ => n - (intOf i).toNat)
  case atStart => exact ⟨0, [], [], none, 0, 0, by omega, rfl, rfl, rfl, (vCode_zero.1 HV.o).2.2, rfl, by simp, allAcc.nil, H1.o⟩
  case round =>
   obtain ⟨j, st, L, sa, ln, sc, hj, rfl, rfl, hls, hvg, hg, hsl, ha, hst⟩ := hrel; obtain ⟨u1, rfl⟩ : ∃ u1 : World, u1 = wr := ⟨_, rfl⟩; have H1 := kq hst; clear hst; have HLS := kq hls; have HVG := kq hvg; have HG := kq hg; have HA := kq ha; clear hvg hg ha; have hll := arr_len (H1.o.arrE 0 rfl); obtain ⟨ll1, ll2, ll3, ll4⟩ : ln ≤ st.length ∧ st.length ≤ ln ∧ ln ≤ L.length ∧ L.length ≤ ln := by rw [hls, List.length_reverse] at hll; rw [hls, List.length_reverse]; omega
   clear hls hll; by_cases hjn : j < n
   ·
    have hjn' : (j : Int) < n := by omega
    obtain ⟨pb, po, hpa⟩ := (H1.o.oldPrs HS.o).at (by omega); subst hpa; obtain ⟨cz0, cz1⟩ := (H1.o.oldPrs HS.o).get (i := j) hjn; obtain ⟨oc, og, hoo⟩ : ∃ x y, zs.getD j (0, 0) = (x, y) := ⟨_, _, rfl⟩; have HD := kq (drop_one (by rw [← HL.o]; exact hjn) hoo); rw [hoo] at cz0 cz1
    dsimp only at cz0 cz1
    clear hoo; obtain ⟨oc0, oc1, hoA, hoK, hoG, hoV⟩ : 0 ≤ oc ∧ oc ≤ 11 ∧ (oc = 1 → true = true) ∧ pwK oc ≤ st.length ∧ pwArg oc og = true ∧ vGo (zs.drop (j + 1)) true (st.length + 1 - pwK oc) = 0 := vGo_cons (by rw [← HD.o]; exact HVG.o); have HARG := kq hoG; have HVR := kq hoV; have HKL := kq hoK; clear hoA hoK hoG hoV; obtain ⟨D1, hD1⟩ := nK u1.heap.size; go_upto_region 10 with fail
    have H2 := kq (H1.o.alloc #[.int .i64 oc, .int .i64 og] 61 hD1); first | refine gK H2 ?_ | refine gL H2 ?_ | refine gC H2 ?_
    clear H2; intro w1 H2; clear hD1
    rcases eqZ oc 0 with ⟨c3a, c3b, c3c, c3d, c3h⟩ | ⟨c3a, c3b, c3h⟩
    ·
     have HK0 := kq (show pwK oc = 0 from pwK_0 (by have := c1h.o; have := c3h.o; omega)); have hoe : oc = 0 := by have := c1h.o; have := c3h.o; omega
     have HPV := kq (show pwInt oc og (st.getD (pwK oc - 1) (0, 0)) (st.getD 0 (0, 0)) u v = (0, u) from by rw [hoe]; rfl); have HPA := kq (show accOk 0 = true ∧ accOk u = true from ⟨(by decide), (acc_val HU.o)⟩); have HPK := kq (pwIok_push (by omega) HPV.o HPA.o.1 HPA.o.2); clear hoe; obtain ⟨D2, hD1⟩ := nK w1.heap.size; have H3 := kq (H2.o.alloc #[.int .i64 0, .int .i64 u] 121 hD1); have z2 := H2.o.c2 0 rfl; go_upto_region 24 with (at_builtin; refine append_vals rfl _ _ 119 121 2 16 (.agg #[.int .i64 0, .int .i64 0]) Tryz.underlying119 info_ivl rfl (by decide) (by decide) rfl B _ _ _ D2 1 1 [.int .i64 0, .int .i64 u] rfl rfl rfl (H3.o.arrE 2 rfl) (lit_news H3.o 0 [.int .i64 0, .int .i64 u] rfl) (by intro u hu; simp at hu; rcases hu with rfl | rfl <;> rfl) (by omega) H3.o.size ?_; intro v1 w2 ho hg hv; have H4 := kq (H3.o.appendE 2 rfl ho hg hv); clear ho hg hv)
     clear z2; clear H3; obtain ⟨g1, c4, hva⟩ := arr_pos (H4.o.arrE 2 rfl) (by omega); subst hva; rw [show prV L ++ [.int .i64 0, .int .i64 u] = prV (L ++ [(0, u)]) from by rw [prV_app]; rfl] at H4; have H3 := kq (show St B W [.cells D1 #[.int .i64 oc, .int .i64 og] 61, .arr (121) 2 (.slice (some ⟨g1, 0, none⟩) (ln + 1) c4) (ln + 1) (prV (L ++ [(0, u)]))] [] w2 from H4.o.pick [1, 2] rfl (by decide)); clear hD1; go_wp2_with fail
     go_roundw
     case rel => exact ⟨j + 1, (0, u) :: st.drop (pwK oc), (L ++ [(0, u)]), (some ⟨g1, 0, none⟩), (ln + 1), c4, by omega, by go_num, rfl, by rw [HLS.o, HK0.o]; simp, vGo_step HVR.o HKL.o (by simp only [List.length_cons, List.length_drop]; have := HKL.o; omega), iGo_step HG.o HD.o HPV.o HPK.o, by simp only [List.length_cons, List.length_drop]; have := HKL.o; omega, allAcc.step HA.o HPA.o _, H3.o.pick [1] rfl (by decide)⟩
     case measure => first | (simp [intOf]; omega) | (simp [intOf]; done)
    rcases eqZ oc 1 with ⟨c4a, c4b, c4c, c4d, c4h⟩ | ⟨c4a, c4b, c4h⟩
    ·
     have HK0 := kq (show pwK oc = 0 from pwK_0 (by have := c1h.o; have := c3h.o; have := c4h.o; omega)); have hoe : oc = 1 := by have := c1h.o; have := c3h.o; have := c4h.o; omega
     have HPV := kq (show pwInt oc og (st.getD (pwK oc - 1) (0, 0)) (st.getD 0 (0, 0)) u v = (0, v) from by rw [hoe]; rfl); have HPA := kq (show accOk 0 = true ∧ accOk v = true from ⟨(by decide), (acc_val HW.o)⟩); have HPK := kq (pwIok_push (by omega) HPV.o HPA.o.1 HPA.o.2); clear hoe; obtain ⟨D2, hD1⟩ := nK w1.heap.size; have H3 := kq (H2.o.alloc #[.int .i64 0, .int .i64 v] 121 hD1); have z2 := H2.o.c2 0 rfl; go_upto_region 24 with (at_builtin; refine append_vals rfl _ _ 119 121 2 16 (.agg #[.int .i64 0, .int .i64 0]) Tryz.underlying119 info_ivl rfl (by decide) (by decide) rfl B _ _ _ D2 1 1 [.int .i64 0, .int .i64 v] rfl rfl rfl (H3.o.arrE 2 rfl) (lit_news H3.o 0 [.int .i64 0, .int .i64 v] rfl) (by intro u hu; simp at hu; rcases hu with rfl | rfl <;> rfl) (by omega) H3.o.size ?_; intro v1 w2 ho hg hv; have H4 := kq (H3.o.appendE 2 rfl ho hg hv); clear ho hg hv)
     clear z2; clear H3; obtain ⟨g1, c5, hva⟩ := arr_pos (H4.o.arrE 2 rfl) (by omega); subst hva; rw [show prV L ++ [.int .i64 0, .int .i64 v] = prV (L ++ [(0, v)]) from by rw [prV_app]; rfl] at H4; have H3 := kq (show St B W [.cells D1 #[.int .i64 oc, .int .i64 og] 61, .arr (121) 2 (.slice (some ⟨g1, 0, none⟩) (ln + 1) c5) (ln + 1) (prV (L ++ [(0, v)]))] [] w2 from H4.o.pick [1, 2] rfl (by decide)); clear hD1; go_wp2_with fail
     go_roundw
     case rel => exact ⟨j + 1, (0, v) :: st.drop (pwK oc), (L ++ [(0, v)]), (some ⟨g1, 0, none⟩), (ln + 1), c5, by omega, by go_num, rfl, by rw [HLS.o, HK0.o]; simp, vGo_step HVR.o HKL.o (by simp only [List.length_cons, List.length_drop]; have := HKL.o; omega), iGo_step HG.o HD.o HPV.o HPK.o, by simp only [List.length_cons, List.length_drop]; have := HKL.o; omega, allAcc.step HA.o HPA.o _, H3.o.pick [1] rfl (by decide)⟩
     case measure => first | (simp [intOf]; omega) | (simp [intOf]; done)
    rcases eqZ oc 2 with ⟨c5a, c5b, c5c, c5d, c5h⟩ | ⟨c5a, c5b, c5h⟩
    ·
     have HK0 := kq (show pwK oc = 0 from pwK_0 (by have := c1h.o; have := c3h.o; have := c4h.o; have := c5h.o; omega)); have hoe : oc = 2 := by have := c1h.o; have := c3h.o; have := c4h.o; have := c5h.o; omega
     have HPV := kq (show pwInt oc og (st.getD (pwK oc - 1) (0, 0)) (st.getD 0 (0, 0)) u v = (og, og) from by rw [hoe]; rfl); have HPA := kq (show accOk og = true ∧ accOk og = true from ⟨(acc_arg (by have := HARG.o; rwa [show oc = 2 from by have := c1h.o; have := c3h.o; have := c4h.o; have := c5h.o; omega] at this)), (acc_arg (by have := HARG.o; rwa [show oc = 2 from by have := c1h.o; have := c3h.o; have := c4h.o; have := c5h.o; omega] at this))⟩); have HPK := kq (pwIok_push (by omega) HPV.o HPA.o.1 HPA.o.2); clear hoe; obtain ⟨D2, hD1⟩ := nK w1.heap.size; have H3 := kq (H2.o.alloc #[.int .i64 og, .int .i64 og] 121 hD1); have z2 := H2.o.c2 0 rfl; go_upto_region 24 with (at_builtin; refine append_vals rfl _ _ 119 121 2 16 (.agg #[.int .i64 0, .int .i64 0]) Tryz.underlying119 info_ivl rfl (by decide) (by decide) rfl B _ _ _ D2 1 1 [.int .i64 og, .int .i64 og] rfl rfl rfl (H3.o.arrE 2 rfl) (lit_news H3.o 0 [.int .i64 og, .int .i64 og] rfl) (by intro u hu; simp at hu; rcases hu with rfl | rfl <;> rfl) (by omega) H3.o.size ?_; intro v1 w2 ho hg hv; have H4 := kq (H3.o.appendE 2 rfl ho hg hv); clear ho hg hv)
     clear z2; clear H3; obtain ⟨g1, c6, hva⟩ := arr_pos (H4.o.arrE 2 rfl) (by omega); subst hva; rw [show prV L ++ [.int .i64 og, .int .i64 og] = prV (L ++ [(og, og)]) from by rw [prV_app]; rfl] at H4; have H3 := kq (show St B W [.cells D1 #[.int .i64 oc, .int .i64 og] 61, .arr (121) 2 (.slice (some ⟨g1, 0, none⟩) (ln + 1) c6) (ln + 1) (prV (L ++ [(og, og)]))] [] w2 from H4.o.pick [1, 2] rfl (by decide)); clear hD1; go_wp2_with fail
     go_roundw
     case rel => exact ⟨j + 1, (og, og) :: st.drop (pwK oc), (L ++ [(og, og)]), (some ⟨g1, 0, none⟩), (ln + 1), c6, by omega, by go_num, rfl, by rw [HLS.o, HK0.o]; simp, vGo_step HVR.o HKL.o (by simp only [List.length_cons, List.length_drop]; have := HKL.o; omega), iGo_step HG.o HD.o HPV.o HPK.o, by simp only [List.length_cons, List.length_drop]; have := HKL.o; omega, allAcc.step HA.o HPA.o _, H3.o.pick [1] rfl (by decide)⟩
     case measure => first | (simp [intOf]; omega) | (simp [intOf]; done)
    have z2 := H2.o.c2 0 rfl; go_wp2_with fail
    clear z2; refine (ptakes_any _ _).mono ?_; rintro e w2 ⟨rfl, hsw⟩; have hsw2 : w1 = w2 := by first | exact hsw | exact hsw.symm
    clear hsw; subst hsw2; have hb : pwIs oc = true := by simp [pwIs]; omega
    rw [hb, if_pos rfl]; obtain ⟨k1, hk1⟩ : ∃ xx' : Int, (pwK oc : Int) = xx' := ⟨_, rfl⟩; rw [hk1]; have HK := kq hk1.symm; have hc3 : 3 ≤ oc := by have := c1h.o; have := c3h.o; have := c4h.o; have := c5h.o; omega
    have hkl := pwK_le oc; have hkl2 : 1 ≤ pwK oc := by unfold pwK; rw [if_neg (by omega)]; split <;> omega
    obtain ⟨kn1, kn2⟩ : 1 ≤ k1 ∧ k1 ≤ 2 := by omega
    obtain ⟨T, hT⟩ : ∃ T : Nat, (ln : Int) - k1 = T := ⟨ln - pwK oc, by have := HKL.o; omega⟩; obtain ⟨T1, hT1⟩ : ∃ T1 : Nat, (ln : Int) - 1 = T1 := ⟨ln - 1, by have := HKL.o; omega⟩; have HTK := kq (show T + pwK oc = st.length from by have := HKL.o; omega); have HTL := kq (show T < ln ∧ T1 < ln ∧ T1 + 1 = st.length from by have := HKL.o; omega); clear hkl hkl2 hk1 hb; obtain ⟨g, cc, hgg⟩ := arr_pos (H2.o.arrE 1 rfl) (by have := HTL.o; omega); injection hgg with hga hgb hgc
    subst hga; clear hgb hgc; go_upto_region 19 with fail
    obtain ⟨x0, x1, hx⟩ : ∃ x0 x1, L.getD T (0, 0) = (x0, x1) := ⟨_, _, rfl⟩; obtain ⟨y0, y1, hy⟩ : ∃ y0 y1, L.getD T1 (0, 0) = (y0, y1) := ⟨_, _, rfl⟩; have HX := kq hx; have HY := kq hy; have HXS := kq (show st.getD (pwK oc - 1) (0, 0) = (x0, x1) from by rw [← hx]; exact (stk_get (0, 0) HLS.o (by unfold pwK; rw [if_neg (by omega)]; split <;> omega) HTK.o).symm); have HYS := kq (show st.getD 0 (0, 0) = (y0, y1) from by rw [← hy]; exact (stk_get (K := 1) (0, 0) HLS.o (by omega) HTL.o.2.2).symm); have HXA := kq (show accOk x0 = true ∧ accOk x1 = true from by have := HA.o (pwK oc - 1); rw [HXS.o] at this; exact this); have HYA := kq (show accOk y0 = true ∧ accOk y1 = true from by have := HA.o 0; rw [HYS.o] at this; exact this); clear hx hy; obtain ⟨t1, t2, t3, t4⟩ : 0 ≤ (T : Int) ∧ (T : Int) < ln ∧ 0 ≤ (T1 : Int) ∧ (T1 : Int) < ln := by have := HTL.o; omega
    have t5 : IntKind.i64.wrap (T1 : Int) = T1 := IntWalk.i64_in _ (by omega); have H3 := kq H2.o.drew; refine wp_region_held_drew (S := (fun w' => w'.cell? ⟨g, T * 2, none⟩ = some (.int .i64 x0) ∧ w'.cell? ⟨g, T * 2 + 1, none⟩ = some (.int .i64 x1) ∧ w'.cell? ⟨g, T1 * 2, none⟩ = some (.int .i64 y0) ∧ w'.cell? ⟨g, T1 * 2 + 1, none⟩ = some (.int .i64 y1))) (by kernel_rfl) ⟨(by have := (arr_pair (H3.o.arrE 1 rfl) (i := T) (by have := HTL.o; omega)).1; rw [HX.o] at this; exact this), (by have := (arr_pair (H3.o.arrE 1 rfl) (i := T) (by have := HTL.o; omega)).2; rw [HX.o] at this; exact this), (by have := (arr_pair (H3.o.arrE 1 rfl) (i := T1) (by have := HTL.o; omega)).1; rw [HY.o] at this; exact this), (by have := (arr_pair (H3.o.arrE 1 rfl) (i := T1) (by have := HTL.o; omega)).2; rw [HY.o] at this; exact this)⟩ (fun hHeld => ?_); generalize w1.drew = k1 at *; refine tk 0 ?_; refine tk 1 ?_; refine tk 2 ?_; refine tk 3 ?_; refine tk 4 ?_; refine tk 5 ?_; refine tk 6 ?_; refine tk 7 ?_; refine tk 8 ?_; refine tk 9 ?_; refine wpAnyH_ready (rs := [10, 11]) (by kernel_rfl) (by simp) (AllReadyH.cons (o := _) rfl (fun K hK => ?_) (AllReadyH.cons (o := _) rfl (fun K hK => ?_) AllReadyH.nil))
    ·
     obtain ⟨D1, hD1⟩ := nK k1.heap.size; have H2 := kq (H3.o.alloc #[.int .i64 0, .int .i64 0] 121 hD1); go_simp
     refine hK.out _ _ (by (try dsimp only); exact ⟨(by have := (arr_pair (H2.o.arrE 2 rfl) (i := T) (by have := HTL.o; omega)).1; rw [HX.o] at this; exact this), (by have := (arr_pair (H2.o.arrE 2 rfl) (i := T) (by have := HTL.o; omega)).2; rw [HX.o] at this; exact this), (by have := (arr_pair (H2.o.arrE 2 rfl) (i := T1) (by have := HTL.o; omega)).1; rw [HY.o] at this; exact this), (by have := (arr_pair (H2.o.arrE 2 rfl) (i := T1) (by have := HTL.o; omega)).2; rw [HY.o] at this; exact this)⟩) ?_; clear hK K hHeld; intro hHeld; try simp only [pz]
     clear hD1; generalize (k1.alloc (.cells #[.int .i64 0, .int .i64 0] 121)) = k2 at *; refine rdy 11 fun K hK => ?_
     obtain ⟨D2, hD1⟩ := nK k2.heap.size; have H4 := kq (H2.o.alloc #[.int .i64 0, .int .i64 0] 121 hD1); go_simp
     refine hK.out _ _ (by (try dsimp only); exact ⟨(by have := (arr_pair (H4.o.arrE 3 rfl) (i := T) (by have := HTL.o; omega)).1; rw [HX.o] at this; exact this), (by have := (arr_pair (H4.o.arrE 3 rfl) (i := T) (by have := HTL.o; omega)).2; rw [HX.o] at this; exact this), (by have := (arr_pair (H4.o.arrE 3 rfl) (i := T1) (by have := HTL.o; omega)).1; rw [HY.o] at this; exact this), (by have := (arr_pair (H4.o.arrE 3 rfl) (i := T1) (by have := HTL.o; omega)).2; rw [HY.o] at this; exact this)⟩) ?_; clear hK K hHeld; intro hHeld; try simp only [pz]
     clear hD1; generalize (k2.alloc (.cells #[.int .i64 0, .int .i64 0] 121)) = k2 at *; refine rdy 12 fun K hK => ?_
     have z2 := H4.o.f2 1 rfl; have H2 := kq (show St _ _ (_ :: .cells D1 #[.int .i64 x0, .int .i64 x1] 121 :: _) _ _ from ((H4.o.set 1 rfl 0 (.int .i64 x0)).set 1 rfl 1 (.int .i64 x1))); go_simp
     refine hK.out _ _ (by (try dsimp only); exact ⟨(by have := (arr_pair (H2.o.arrE 3 rfl) (i := T) (by have := HTL.o; omega)).1; rw [HX.o] at this; exact this), (by have := (arr_pair (H2.o.arrE 3 rfl) (i := T) (by have := HTL.o; omega)).2; rw [HX.o] at this; exact this), (by have := (arr_pair (H2.o.arrE 3 rfl) (i := T1) (by have := HTL.o; omega)).1; rw [HY.o] at this; exact this), (by have := (arr_pair (H2.o.arrE 3 rfl) (i := T1) (by have := HTL.o; omega)).2; rw [HY.o] at this; exact this)⟩) ?_; clear hK K hHeld; intro hHeld; try simp only [pz]
     clear z2; generalize ((k2.setCell ⟨D1, 0, none⟩ (.int .i64 x0)).setCell ⟨D1, 1, none⟩ (.int .i64 x1)) = k2 at *; refine rdy 13 fun K hK => ?_
     have z2 := H2.o.f2 0 rfl; have H4 := kq (show St _ _ (.cells D2 #[.int .i64 y0, .int .i64 y1] 121 :: _) _ _ from ((H2.o.set 0 rfl 0 (.int .i64 y0)).set 0 rfl 1 (.int .i64 y1))); go_simp
     refine hK.out _ _ (by (try dsimp only); exact ⟨(by have := (arr_pair (H4.o.arrE 3 rfl) (i := T) (by have := HTL.o; omega)).1; rw [HX.o] at this; exact this), (by have := (arr_pair (H4.o.arrE 3 rfl) (i := T) (by have := HTL.o; omega)).2; rw [HX.o] at this; exact this), (by have := (arr_pair (H4.o.arrE 3 rfl) (i := T1) (by have := HTL.o; omega)).1; rw [HY.o] at this; exact this), (by have := (arr_pair (H4.o.arrE 3 rfl) (i := T1) (by have := HTL.o; omega)).2; rw [HY.o] at this; exact this)⟩) ?_; clear hK K hHeld; intro hHeld; try simp only [pz]
     clear z2; generalize ((k2.setCell ⟨D2, 0, none⟩ (.int .i64 y0)).setCell ⟨D2, 1, none⟩ (.int .i64 y1)) = k2 at *; refine wpAnyH_done (by kernel_rfl) ?_ _; try clear hHeld
     clear t1 t2 t3 t4 t5; have z2 := H4.o.c2 2 rfl; have z4 := H4.o.c2 1 rfl; have z6 := H4.o.c2 0 rfl; go_wp2_with fail
     clear z2 z4 z6; refine (papply_any _ _ _ _ _ _ _ ⟨hc3, oc1⟩ HXA.o.1 HXA.o.2 HYA.o.1 HYA.o.2).mono ?_; rintro e w1 ⟨⟨l9, h9, rfl, hlh⟩, hb⟩; have H2 := kq (H4.o.call hb); clear hb; obtain ⟨b1, hb1⟩ := nK (pwIok oc og (x0, x1) (y0, y1) 0 0); rw [hb1] at hlh ⊢; have HNb1 := kq hb1; clear hb1; have HLH := kq hlh; clear hlh; obtain ⟨D1, hD1⟩ := nK w1.heap.size; go_upto_region 21 with fail
     have H4 := kq (H2.o.alloc #[.int .i64 l9, .int .i64 h9] 121 hD1); first | refine gK H4 ?_ | refine gL H4 ?_ | refine gC H4 ?_
     clear H4; intro w1 H4; clear hD1; cases b1; rotate_left
     ·
      go_upto_region 23 with fail
      have hlh := (show l9 = _ ∧ h9 = _ from by first | exact HLH.o rfl | exact HLH.o trivial | exact HLH.o); have HPK := kq (show pwIok oc og (st.getD (pwK oc - 1) (0, 0)) (st.getD 0 (0, 0)) u v = true from by rw [HXS.o, HYS.o, pwIok_src hc3]; exact HNb1.o); have HPV := kq (show pwInt oc og (st.getD (pwK oc - 1) (0, 0)) (st.getD 0 (0, 0)) u v = (l9, h9) from by rw [HXS.o, HYS.o, pwInt_src hc3, hlh.1, hlh.2]); have HPA := kq (show accOk l9 = true ∧ accOk h9 = true from by have := pwIok_lo HPK.o; rw [HPV.o] at this; exact this); clear hlh; obtain ⟨t1, t2⟩ : (T : Int) ≤ ln ∧ (ln : Int) ≤ sc := by have := HTL.o; have := arr_cap (H4.o.arrE 4 rfl); omega
      have t3 : (T : Int) ≤ sc := by omega
      have t4 : 0 ≤ (T : Int) := by omega
      have H2 := kq (H4.o.take 4 rfl (k := T) (by have := HTL.o; omega)); rw [prV_take] at H2; go_upto_region 23 with fail
      have H5 := kq H2.o.drew; refine wp_region_held_drew (S := (fun w' => w'.cell? ⟨D1, 0, none⟩ = some (.int .i64 l9) ∧ w'.cell? ⟨D1, 1, none⟩ = some (.int .i64 h9))) (by kernel_rfl) ⟨H5.o.cell 0 rfl 0 rfl, H5.o.cell 0 rfl 1 rfl⟩ (fun hHeld => ?_); generalize w1.drew = k2 at *; refine tk 0 ?_; refine tk 1 ?_; refine tk 2 ?_; refine tk 3 ?_; refine rdy 4 fun K hK => ?_
      obtain ⟨D1, hD1⟩ := nK k2.heap.size; have H2 := kq (H5.o.alloc #[.int .i64 l9, .int .i64 h9] 121 hD1); go_simp
      refine hK.out _ _ (by (try dsimp only); exact ⟨H2.o.cell 1 rfl 0 rfl, H2.o.cell 1 rfl 1 rfl⟩) ?_; clear hK K hHeld; intro hHeld; try simp only [pz]
      clear hD1; generalize (k2.alloc (.cells #[.int .i64 l9, .int .i64 h9] 121)) = k2 at *; refine rdy 5 fun K hK => ?_
      rw [if_pos (by rfl)]; refine oper_append_vals _ _ 119 121 2 16 (.agg #[.int .i64 0, .int .i64 0]) Tryz.underlying119 info_ivl rfl (by decide) (by decide) rfl B _ _ _ D1 1 1 [.int .i64 l9, .int .i64 h9] rfl rfl rfl (H2.o.arrE 5 rfl) (lit_news H2.o 0 [.int .i64 l9, .int .i64 h9] rfl) (by intro u hu; simp at hu; rcases hu with rfl | rfl <;> rfl) (by omega) H2.o.size ?_; intro v9a k2 ho hg hv; have H5 := kq (H2.o.appendE 5 rfl ho hg hv); clear ho hg hv; obtain ⟨g1, c3, hva⟩ := arr_pos (H5.o.arrE 5 rfl) (by omega); subst hva; rw [show prV (L.take T) ++ [.int .i64 l9, .int .i64 h9] = prV ((L.take T) ++ [(l9, h9)]) from by rw [prV_app]; rfl] at H5; refine hK.out _ _ (by (try dsimp only); exact ⟨H5.o.cell 1 rfl 0 rfl, H5.o.cell 1 rfl 1 rfl⟩) ?_; clear hK K hHeld; intro hHeld; try simp only [pz]
      refine tk 6 ?_; refine wpAnyH_done (by kernel_rfl) ?_ _; try clear hHeld
      go_wp2_with fail
      go_roundw
      case rel => exact ⟨j + 1, (l9, h9) :: st.drop (pwK oc), ((L.take T) ++ [(l9, h9)]), (some ⟨g1, 0, none⟩), (T + 1), c3, by omega, by go_num, rfl, stk_take HLS.o HTK.o _, vGo_step HVR.o HKL.o (by simp only [List.length_cons, List.length_drop]; have := HKL.o; omega), iGo_step HG.o HD.o HPV.o HPK.o, by simp only [List.length_cons, List.length_drop]; have := HKL.o; omega, allAcc.step HA.o HPA.o _, H5.o.pick [5] rfl (by decide)⟩
      case measure => first | (simp [intOf]; omega) | (simp [intOf]; done)
     go_wp2_with fail
     go_ret3
     exact ⟨by rw [HEV.o, iGo_stop HG.o HD.o (by rw [HXS.o, HYS.o, pwIok_src hc3]; exact HNb1.o)]; rfl, H4.o.bl⟩
    obtain ⟨D1, hD1⟩ := nK k1.heap.size; have H2 := kq (H3.o.alloc #[.int .i64 0, .int .i64 0] 121 hD1); go_simp
    refine hK.out _ _ (by (try dsimp only); exact ⟨(by have := (arr_pair (H2.o.arrE 2 rfl) (i := T) (by have := HTL.o; omega)).1; rw [HX.o] at this; exact this), (by have := (arr_pair (H2.o.arrE 2 rfl) (i := T) (by have := HTL.o; omega)).2; rw [HX.o] at this; exact this), (by have := (arr_pair (H2.o.arrE 2 rfl) (i := T1) (by have := HTL.o; omega)).1; rw [HY.o] at this; exact this), (by have := (arr_pair (H2.o.arrE 2 rfl) (i := T1) (by have := HTL.o; omega)).2; rw [HY.o] at this; exact this)⟩) ?_; clear hK K hHeld; intro hHeld; try simp only [pz]
    clear hD1; generalize (k1.alloc (.cells #[.int .i64 0, .int .i64 0] 121)) = k1 at *; refine rdy 10 fun K hK => ?_
    obtain ⟨D2, hD1⟩ := nK k1.heap.size; have H3 := kq (H2.o.alloc #[.int .i64 0, .int .i64 0] 121 hD1); go_simp
    refine hK.out _ _ (by (try dsimp only); exact ⟨(by have := (arr_pair (H3.o.arrE 3 rfl) (i := T) (by have := HTL.o; omega)).1; rw [HX.o] at this; exact this), (by have := (arr_pair (H3.o.arrE 3 rfl) (i := T) (by have := HTL.o; omega)).2; rw [HX.o] at this; exact this), (by have := (arr_pair (H3.o.arrE 3 rfl) (i := T1) (by have := HTL.o; omega)).1; rw [HY.o] at this; exact this), (by have := (arr_pair (H3.o.arrE 3 rfl) (i := T1) (by have := HTL.o; omega)).2; rw [HY.o] at this; exact this)⟩) ?_; clear hK K hHeld; intro hHeld; try simp only [pz]
    clear hD1; generalize (k1.alloc (.cells #[.int .i64 0, .int .i64 0] 121)) = k1 at *; refine rdy 12 fun K hK => ?_
    have z2 := H3.o.f2 0 rfl; have H2 := kq (show St _ _ (.cells D2 #[.int .i64 x0, .int .i64 x1] 121 :: _) _ _ from ((H3.o.set 0 rfl 0 (.int .i64 x0)).set 0 rfl 1 (.int .i64 x1))); go_simp
    refine hK.out _ _ (by (try dsimp only); exact ⟨(by have := (arr_pair (H2.o.arrE 3 rfl) (i := T) (by have := HTL.o; omega)).1; rw [HX.o] at this; exact this), (by have := (arr_pair (H2.o.arrE 3 rfl) (i := T) (by have := HTL.o; omega)).2; rw [HX.o] at this; exact this), (by have := (arr_pair (H2.o.arrE 3 rfl) (i := T1) (by have := HTL.o; omega)).1; rw [HY.o] at this; exact this), (by have := (arr_pair (H2.o.arrE 3 rfl) (i := T1) (by have := HTL.o; omega)).2; rw [HY.o] at this; exact this)⟩) ?_; clear hK K hHeld; intro hHeld; try simp only [pz]
    clear z2; generalize ((k1.setCell ⟨D2, 0, none⟩ (.int .i64 x0)).setCell ⟨D2, 1, none⟩ (.int .i64 x1)) = k1 at *; refine rdy 13 fun K hK => ?_
    have z2 := H2.o.f2 1 rfl; have H3 := kq (show St _ _ (_ :: .cells D1 #[.int .i64 y0, .int .i64 y1] 121 :: _) _ _ from ((H2.o.set 1 rfl 0 (.int .i64 y0)).set 1 rfl 1 (.int .i64 y1))); go_simp
    refine hK.out _ _ (by (try dsimp only); exact ⟨(by have := (arr_pair (H3.o.arrE 3 rfl) (i := T) (by have := HTL.o; omega)).1; rw [HX.o] at this; exact this), (by have := (arr_pair (H3.o.arrE 3 rfl) (i := T) (by have := HTL.o; omega)).2; rw [HX.o] at this; exact this), (by have := (arr_pair (H3.o.arrE 3 rfl) (i := T1) (by have := HTL.o; omega)).1; rw [HY.o] at this; exact this), (by have := (arr_pair (H3.o.arrE 3 rfl) (i := T1) (by have := HTL.o; omega)).2; rw [HY.o] at this; exact this)⟩) ?_; clear hK K hHeld; intro hHeld; try simp only [pz]
    clear z2; generalize ((k1.setCell ⟨D1, 0, none⟩ (.int .i64 y0)).setCell ⟨D1, 1, none⟩ (.int .i64 y1)) = k1 at *; refine wpAnyH_done (by kernel_rfl) ?_ _; try clear hHeld
    clear t1 t2 t3 t4 t5; have z2 := H3.o.c2 2 rfl; have z4 := H3.o.c2 0 rfl; have z6 := H3.o.c2 1 rfl; go_wp2_with fail
    clear z2 z4 z6; refine (papply_any _ _ _ _ _ _ _ ⟨hc3, oc1⟩ HXA.o.1 HXA.o.2 HYA.o.1 HYA.o.2).mono ?_; rintro e w1 ⟨⟨l9, h9, rfl, hlh⟩, hb⟩; have H2 := kq (H3.o.call hb); clear hb; obtain ⟨b1, hb1⟩ := nK (pwIok oc og (x0, x1) (y0, y1) 0 0); rw [hb1] at hlh ⊢; have HNb1 := kq hb1; clear hb1; have HLH := kq hlh; clear hlh; obtain ⟨D1, hD1⟩ := nK w1.heap.size; go_upto_region 21 with fail
    have H3 := kq (H2.o.alloc #[.int .i64 l9, .int .i64 h9] 121 hD1); first | refine gK H3 ?_ | refine gL H3 ?_ | refine gC H3 ?_
    clear H3; intro w1 H3; clear hD1; cases b1; rotate_left
    ·
     go_upto_region 23 with fail
     have hlh := (show l9 = _ ∧ h9 = _ from by first | exact HLH.o rfl | exact HLH.o trivial | exact HLH.o); have HPK := kq (show pwIok oc og (st.getD (pwK oc - 1) (0, 0)) (st.getD 0 (0, 0)) u v = true from by rw [HXS.o, HYS.o, pwIok_src hc3]; exact HNb1.o); have HPV := kq (show pwInt oc og (st.getD (pwK oc - 1) (0, 0)) (st.getD 0 (0, 0)) u v = (l9, h9) from by rw [HXS.o, HYS.o, pwInt_src hc3, hlh.1, hlh.2]); have HPA := kq (show accOk l9 = true ∧ accOk h9 = true from by have := pwIok_lo HPK.o; rw [HPV.o] at this; exact this); clear hlh; obtain ⟨t1, t2⟩ : (T : Int) ≤ ln ∧ (ln : Int) ≤ sc := by have := HTL.o; have := arr_cap (H3.o.arrE 4 rfl); omega
     have t3 : (T : Int) ≤ sc := by omega
     have t4 : 0 ≤ (T : Int) := by omega
     have H2 := kq (H3.o.take 4 rfl (k := T) (by have := HTL.o; omega)); rw [prV_take] at H2; go_upto_region 23 with fail
     have H4 := kq H2.o.drew; refine wp_region_held_drew (S := (fun w' => w'.cell? ⟨D1, 0, none⟩ = some (.int .i64 l9) ∧ w'.cell? ⟨D1, 1, none⟩ = some (.int .i64 h9))) (by kernel_rfl) ⟨H4.o.cell 0 rfl 0 rfl, H4.o.cell 0 rfl 1 rfl⟩ (fun hHeld => ?_); generalize w1.drew = k1 at *; refine tk 0 ?_; refine tk 1 ?_; refine tk 2 ?_; refine tk 3 ?_; refine rdy 4 fun K hK => ?_
     obtain ⟨D1, hD1⟩ := nK k1.heap.size; have H2 := kq (H4.o.alloc #[.int .i64 l9, .int .i64 h9] 121 hD1); go_simp
     refine hK.out _ _ (by (try dsimp only); exact ⟨H2.o.cell 1 rfl 0 rfl, H2.o.cell 1 rfl 1 rfl⟩) ?_; clear hK K hHeld; intro hHeld; try simp only [pz]
     clear hD1; generalize (k1.alloc (.cells #[.int .i64 l9, .int .i64 h9] 121)) = k256 at *; refine rdy 5 fun K hK => ?_
     rw [if_pos (by rfl)]; refine oper_append_vals _ _ 119 121 2 16 (.agg #[.int .i64 0, .int .i64 0]) Tryz.underlying119 info_ivl rfl (by decide) (by decide) rfl B _ _ _ D1 1 1 [.int .i64 l9, .int .i64 h9] rfl rfl rfl (H2.o.arrE 5 rfl) (lit_news H2.o 0 [.int .i64 l9, .int .i64 h9] rfl) (by intro u hu; simp at hu; rcases hu with rfl | rfl <;> rfl) (by omega) H2.o.size ?_; intro v9a k1 ho hg hv; have H4 := kq (H2.o.appendE 5 rfl ho hg hv); clear ho hg hv; obtain ⟨g1, c3, hva⟩ := arr_pos (H4.o.arrE 5 rfl) (by omega); subst hva; rw [show prV (L.take T) ++ [.int .i64 l9, .int .i64 h9] = prV ((L.take T) ++ [(l9, h9)]) from by rw [prV_app]; rfl] at H4; refine hK.out _ _ (by (try dsimp only); exact ⟨H4.o.cell 1 rfl 0 rfl, H4.o.cell 1 rfl 1 rfl⟩) ?_; clear hK K hHeld; intro hHeld; try simp only [pz]
     refine tk 6 ?_; refine wpAnyH_done (by kernel_rfl) ?_ _; try clear hHeld
     go_wp2_with fail
     go_roundw
     case rel => exact ⟨j + 1, (l9, h9) :: st.drop (pwK oc), ((L.take T) ++ [(l9, h9)]), (some ⟨g1, 0, none⟩), (T + 1), c3, by omega, by go_num, rfl, stk_take HLS.o HTK.o _, vGo_step HVR.o HKL.o (by simp only [List.length_cons, List.length_drop]; have := HKL.o; omega), iGo_step HG.o HD.o HPV.o HPK.o, by simp only [List.length_cons, List.length_drop]; have := HKL.o; omega, allAcc.step HA.o HPA.o _, H4.o.pick [5] rfl (by decide)⟩
     case measure => first | (simp [intOf]; omega) | (simp [intOf]; done)
    go_wp2_with fail
    go_ret3
    exact ⟨by rw [HEV.o, iGo_stop HG.o HD.o (by rw [HXS.o, HYS.o, pwIok_src hc3]; exact HNb1.o)]; rfl, H3.o.bl⟩
   have hjn' : ¬ ((j : Int) < n) := by omega
   have HE := kq (show zs.drop j = [] from List.drop_eq_nil_of_le (by have := HL.o; omega)); have hs1 : st.length = 1 := vGo_nil (by rw [← HE.o]; exact HVG.o); obtain ⟨q1, q2⟩ : 1 ≤ ln ∧ ln ≤ 1 := by omega
   have q3 : 0 < ln := by omega
   have q4 : (0 : Int) < ln := by omega
   obtain ⟨z0, z1, hz⟩ : ∃ z0 z1, L.getD 0 (0, 0) = (z0, z1) := ⟨_, _, rfl⟩; have HZ := kq (show ivR zs u v = (z0, z1, 0) from by rw [HEV.o, ← HG.o, HE.o]; unfold iGo; rw [show st.headD (0, 0) = (z0, z1) from by rw [← hz, stk_get (K := 1) (0, 0) HLS.o (by omega) (by omega), List.headD_eq_head?_getD, List.getD_eq_getElem?_getD, List.head?_eq_getElem?]]); obtain ⟨g, cc, hgg⟩ := arr_pos (H1.o.arrE 0 rfl) (by omega); injection hgg with hga hgb hgc
   subst hga; clear hgb hgc; go_upto_region 25 with fail
   have H2 := kq H1.o.drew; refine wp_region_held_drew (S := (fun w' => w'.cell? ⟨g, 0, none⟩ = some (.int .i64 z0) ∧ w'.cell? ⟨g, 1, none⟩ = some (.int .i64 z1))) (by kernel_rfl) ⟨(by have := (arr_pair (H2.o.arrE 0 rfl) (i := 0) (by omega)).1; rw [hz] at this; exact this), (by have := (arr_pair (H2.o.arrE 0 rfl) (i := 0) (by omega)).2; rw [hz] at this; exact this)⟩ (fun hHeld => ?_); generalize u1.drew = k1 at *; refine tk 0 ?_; refine tk 1 ?_; refine tk 2 ?_; refine tk 3 ?_; refine tk 4 ?_; refine tk 5 ?_; refine tk 6 ?_; refine tk 7 ?_; refine tk 8 ?_; refine tk 9 ?_; refine tk 10 ?_; refine wpAnyH_done (by kernel_rfl) ?_ _; try clear hHeld
   go_wp2_with fail
   go_ret3
   exact ⟨by rw [HZ.o]; rfl, H2.o.bl⟩
 go_wp2_with fail
 go_ret3
 exact ⟨by rw [ivR_bad HNk1.o (by have := c1h.o; omega)]; rfl, H128.o.bl⟩
end Go.Proofs.YteejjnhlfgjlaaaGreat
