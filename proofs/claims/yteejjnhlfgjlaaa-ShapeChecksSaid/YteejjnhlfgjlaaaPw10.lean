/-
 Contracts: the interval of a program, in the program.
-/
import Derived.Test.YteejjnhlfgjlaaaPw5
import Derived.Test.YteejjnhlfgjlaaaPB
import Derived.Test.YteejjnhlfgjlaaaKH
namespace Go.Proofs.Yteejjnhlfgjlaaa
open Go.RowKit
attribute [local go_sem ↓] Go.wp_at_zero Go.wp_at_succ
set_option linter.unusedVariables false
set_option linter.unusedSimpArgs false

theorem vGo_nil {d : Nat} (h : vGo [] true d = 0) : d = 1 := by
 unfold vGo at h
 split at h
 ·
  assumption
 omega
theorem iGo_step {oc og u v : Int} {lo hi : Int} {l0 l : List (Int × Int)} {st : List (Int × Int)} {R : Int × Int × Int} (h : iGo l0 st u v = R) (hd : l0 = (oc, og) :: l) (hp : pwInt oc og (st.getD (pwK oc - 1) (0, 0)) (st.getD 0 (0, 0)) u v = (lo, hi)) (ha : pwIok oc og (st.getD (pwK oc - 1) (0, 0)) (st.getD 0 (0, 0)) u v = true) : iGo l ((lo, hi) :: st.drop (pwK oc)) u v = R := by
 subst hd; rw [iGo_cons] at h
 dsimp only at h
 rw [if_pos ha, hp] at h; exact h
theorem iGo_stop {oc og u v : Int} {l0 l : List (Int × Int)} {st : List (Int × Int)} {R : Int × Int × Int} (h : iGo l0 st u v = R) (hd : l0 = (oc, og) :: l) (ha : pwIok oc og (st.getD (pwK oc - 1) (0, 0)) (st.getD 0 (0, 0)) u v = false) : R = (0, 0, 11) := by
 subst hd; rw [iGo_cons] at h
 dsimp only at h
 rw [if_neg (by rw [ha]; simp)] at h; exact h.symm
theorem ivR_bad {l : List (Int × Int)} {a b k : Int} (h : vCode l true = k) (hk : k ≠ 0) : ivR l a b = (0, 0, k) := by unfold ivR; rw [h, if_pos hk]
theorem ivR_range {l : List (Int × Int)} {a b : Int} (h : vCode l true = 0) (hk : ¬ (valOk a = true ∧ valOk b = true)) : ivR l a b = (0, 0, 2) := by unfold ivR; rw [h, if_neg (by simp), if_pos hk]
theorem ivR_go {l : List (Int × Int)} {a b : Int} (h : vCode l true = 0) (ha : valOk a = true) (hb : valOk b = true) : ivR l a b = iGo l [] a b := by unfold ivR; rw [h, if_neg (by simp), if_neg (by simp [ha, hb])]
theorem pwInt_src {c : Int} (h : 3 ≤ c) (g : Int) (x y : Int × Int) (a b : Int) : pwInt c g x y a b = pwInt c g x y 0 0 := by
 unfold pwInt; simp only [if_neg (show ¬ c = 0 by omega), if_neg (show ¬ c = 1 by omega)]
theorem pwIok_src {c : Int} (h : 3 ≤ c) (g : Int) (x y : Int × Int) (a b : Int) : pwIok c g x y a b = pwIok c g x y 0 0 := by
 unfold pwIok; rw [pwInt_src h g x y a b]
theorem pwIok_lo {c g a b : Int} {x y : Int × Int} (h : pwIok c g x y a b = true) : accOk (pwInt c g x y a b).1 = true ∧ accOk (pwInt c g x y a b).2 = true := by
 unfold pwIok at h
 rw [Bool.and_eq_true, Bool.and_eq_true] at h; exact h.2
theorem pwIok_push {c g a b : Int} {x y : Int × Int} (hc : c ≠ 5) {lo hi : Int} (he : pwInt c g x y a b = (lo, hi)) (h1 : accOk lo = true) (h2 : accOk hi = true) : pwIok c g x y a b = true := by
 unfold pwIok; rw [if_neg hc, he]; dsimp only; rw [h1, h2]; rfl
theorem acc_val {a : Int} (h : valOk a = true) : accOk a = true := by rw [valOk_iff'] at h; rw [accOk_iff]; omega
theorem pwInt_k0 {c : Int} (h : 0 ≤ c) (h' : pwK c = 0) (g : Int) (x y x' y' : Int × Int) (a b : Int) : pwInt c g x y a b = pwInt c g x' y' a b ∧ pwIok c g x y a b = pwIok c g x' y' a b := by
 have : c ≤ 2 := by unfold pwK at h'; split at h' <;> (try split at h') <;> omega
 rcases (show c = 0 ∨ c = 1 ∨ c = 2 by omega) with rfl | rfl | rfl <;> exact ⟨rfl, rfl⟩
theorem pwInt_k1 {c : Int} (h : c ≤ 11) (h' : pwK c = 1) (g : Int) (x y y' : Int × Int) (a b : Int) : pwInt c g x y a b = pwInt c g x y' a b ∧ pwIok c g x y a b = pwIok c g x y' a b := by
 have : 10 ≤ c := by unfold pwK at h'; split at h' <;> (try split at h') <;> omega
 rcases (show c = 10 ∨ c = 11 by omega) with rfl | rfl <;> exact ⟨rfl, rfl⟩

theorem info_ivl : (Try.prog.info? 94).map (fun i => (i.zero, i.size, i.bytes)) = some (some (.agg #[.int .i64 0, .int .i64 0]), 2, 16) := by kernel_rfl

set_option maxRecDepth 100000 in
set_option maxHeartbeats 6400000 in
theorem pinterval_any (a : Option Addr) (n c : Nat) (zs : List (Int × Int)) (u v : Int) (W : World) (hs : Prs W a n c zs) : Calls Try.prog 60 #[.slice a n c, .int .i64 u, .int .i64 v] W fun e w' => e = .returned (.tuple #[.int .i64 (ivR zs u v).1, .int .i64 (ivR zs u v).2.1, .int .i64 (ivR zs u v).2.2]) ∧ Below W.heap.size W w' := by
 obtain ⟨B, hB⟩ : ∃ B, W.heap.size = B := ⟨_, rfl⟩; have HI0 := hid (St.init hB); have HS := hid hs; have HL := hid hs.len; have nmx : (n : Int) ≤ 9223372036854775807 := by have := hs.nc; have := hs.cap; omega
 clear hs
 go_enter Try.func60, Try.ntmps60
 go_wp2_with fail
 refine (pvalid_any14 _ _ _ _ true _ (HI0.out.oldPrs HS.out)).mono ?_; rintro e w1 ⟨rfl, hb⟩; have H128 := hid (HI0.out.call hb); clear hb; obtain ⟨k1, hk1⟩ : ∃ xx', vCode zs true = xx' := ⟨_, rfl⟩; rw [hk1]; have HNk1 := hid hk1; clear hk1; by_cases c1 : (k1 : Int) = 0
 ·
  obtain ⟨c1c, c1d⟩ : (k1 : Int) ≤ 0 ∧ (0 : Int) ≤ k1 := by omega
  have c1a : ((k1 : Int) == (0)) = true := by simpa using c1
  have c1b : ((k1 : Int) != (0)) = false := by simpa using c1
  have c1h := hid c1; clear c1; by_cases c3 : (u : Int) < 1
  ·
   go_wp2_with fail
   go_ret3
   exact ⟨by rw [ivR_range (by rw [HNk1.out]; have := c1h.out; omega) (by rw [valOk_iff', valOk_iff']; have := c1h.out; omega)]; rfl, H128.out.bl⟩
  by_cases c3 : (4294967296 : Int) < u
  ·
   go_wp2_with fail
   go_ret3
   exact ⟨by rw [ivR_range (by rw [HNk1.out]; have := c1h.out; omega) (by rw [valOk_iff', valOk_iff']; have := c1h.out; omega)]; rfl, H128.out.bl⟩
  by_cases c3 : (v : Int) < 1
  ·
   go_wp2_with fail
   go_ret3
   exact ⟨by rw [ivR_range (by rw [HNk1.out]; have := c1h.out; omega) (by rw [valOk_iff', valOk_iff']; have := c1h.out; omega)]; rfl, H128.out.bl⟩
  by_cases c3 : (4294967296 : Int) < v
  ·
   go_wp2_with fail
   go_ret3
   exact ⟨by rw [ivR_range (by rw [HNk1.out]; have := c1h.out; omega) (by rw [valOk_iff', valOk_iff']; have := c1h.out; omega)]; rfl, H128.out.bl⟩
  go_wp2_with fail
  have HV := hid (show vCode zs true = 0 from by rw [HNk1.out]; have := c1h.out; omega); have HU := hid (show valOk u = true from (valOk_iff'.2 (by have := c1h.out; omega))); have HW := hid (show valOk v = true from (valOk_iff'.2 (by have := c1h.out; omega))); have HEV := hid (ivR_go (l := zs) (a := u) (b := v) HV.out HU.out HW.out); obtain ⟨n1, n2⟩ : 1 ≤ n ∧ n ≤ 32 := by have := vCode_zero.1 HV.out; have := HL.out; omega
  have H1 := hid (show St B W [.arr (94) 2 (.slice none 0 0) 0 (prV [])] [] w1 from H128.out.arrNilE 94 2)
  go_loopw [41, 10] (fun i s wr => ∃ (j : Nat) (st L : List (Int × Int)) (sa : Option Addr) (ln sc : Nat), j ≤ n ∧ i = .int .i64 j ∧ s = .slice sa ln sc ∧ L = st.reverse ∧ vGo (zs.drop j) true st.length = 0 ∧ iGo (zs.drop j) st u v = iGo zs [] u v ∧ st.length ≤ j ∧ allAcc st ∧ St B W [.arr (94) 2 (.slice sa ln sc) ln (prV L)] [] wr) (fun i _ _ => n - (intOf i).toNat)
  case atStart => exact ⟨0, [], [], none, 0, 0, by omega, rfl, rfl, rfl, (vCode_zero.1 HV.out).2.2, rfl, by simp, allAcc.nil, H1.out⟩
  case round =>
   obtain ⟨j, st, L, sa, ln, sc, hj, rfl, rfl, hls, hvg, hg, hsl, ha, hst⟩ := hrel; obtain ⟨u1, rfl⟩ : ∃ u1 : World, u1 = wr := ⟨_, rfl⟩; have H1 := hid hst; clear hst; have HLS := hid hls; have HVG := hid hvg; have HG := hid hg; have HA := hid ha; clear hvg hg ha; have hll := arr_len (H1.out.arrE 0 rfl); obtain ⟨ll1, ll2, ll3, ll4⟩ : ln ≤ st.length ∧ st.length ≤ ln ∧ ln ≤ L.length ∧ L.length ≤ ln := by rw [hls, List.length_reverse] at hll; rw [hls, List.length_reverse]; omega
   clear hls hll; by_cases hjn : j < n
   ·
    have hjn' : (j : Int) < n := by omega
    obtain ⟨pb, po, hpa⟩ := (H1.out.oldPrs HS.out).at (by omega); subst hpa; obtain ⟨cz0, cz1⟩ := (H1.out.oldPrs HS.out).get (i := j) hjn; obtain ⟨oc, og, hoo⟩ : ∃ x y, zs.getD j (0, 0) = (x, y) := ⟨_, _, rfl⟩; have HD := hid (drop_one (by rw [← HL.out]; exact hjn) hoo); rw [hoo] at cz0 cz1
    dsimp only at cz0 cz1
    clear hoo; obtain ⟨oc0, oc1, hoA, hoK, hoG, hoV⟩ : 0 ≤ oc ∧ oc ≤ 11 ∧ (oc = 1 → true = true) ∧ pwK oc ≤ st.length ∧ pwArg oc og = true ∧ vGo (zs.drop (j + 1)) true (st.length + 1 - pwK oc) = 0 := vGo_cons (by rw [← HD.out]; exact HVG.out); have HARG := hid hoG; have HVR := hid hoV; have HKL := hid hoK; clear hoA hoK hoG hoV; obtain ⟨D1, hD1⟩ : ∃ D, u1.heap.size = D := ⟨_, rfl⟩; go_upto_region 10 with fail
    have H2 := hid (H1.out.alloc #[.int .i64 oc, .int .i64 og] 57 hD1); first | refine gK H2 ?_ | refine gL H2 ?_ | refine gC H2 ?_
    clear H2; intro w1 H2; clear hD1; by_cases c3 : (oc : Int) = 0
    ·
     obtain ⟨c3c, c3d⟩ : (oc : Int) ≤ 0 ∧ (0 : Int) ≤ oc := by omega
     have c3a : ((oc : Int) == (0)) = true := by simpa using c3
     have c3b : ((oc : Int) != (0)) = false := by simpa using c3
     have c3h := hid c3; clear c3; have HK0 := hid (show pwK oc = 0 from pwK_0 (by have := c1h.out; have := c3h.out; omega)); have hoe : oc = 0 := by have := c1h.out; have := c3h.out; omega
     have HPV := hid (show pwInt oc og (st.getD (pwK oc - 1) (0, 0)) (st.getD 0 (0, 0)) u v = (0, u) from by rw [hoe]; rfl); have HPA := hid (show accOk 0 = true ∧ accOk u = true from ⟨(by decide), (acc_val HU.out)⟩); have HPK := hid (pwIok_push (by omega) HPV.out HPA.out.1 HPA.out.2); clear hoe; obtain ⟨D2, hD1⟩ : ∃ D, w1.heap.size = D := ⟨_, rfl⟩; have H3 := hid (H2.out.alloc #[.int .i64 0, .int .i64 u] 94 hD1); obtain ⟨z2, z3⟩ := H2.out.c2 0 rfl; go_upto_region 24 with (at_builtin; refine append_vals rfl _ _ 92 94 2 16 (.agg #[.int .i64 0, .int .i64 0]) Try.underlying92 info_ivl rfl (by decide) (by decide) rfl B _ _ _ D2 1 1 [.int .i64 0, .int .i64 u] rfl rfl rfl (H3.out.arrE 2 rfl) (lit_news H3.out 0 [.int .i64 0, .int .i64 u] rfl) (by intro u hu; simp at hu; rcases hu with rfl | rfl <;> rfl) (by omega) H3.out.size ?_; intro v1 w2 ho hg hv; have H4 := hid (H3.out.appendE 2 rfl ho hg hv); clear ho hg hv)
     clear z2 z3; clear H3; obtain ⟨g1, c4, hva⟩ := arr_pos (H4.out.arrE 2 rfl) (by omega); subst hva; rw [show prV L ++ [.int .i64 0, .int .i64 u] = prV (L ++ [(0, u)]) from by rw [prV_app]; rfl] at H4; have H3 := hid (show St B W [.cells D1 #[.int .i64 oc, .int .i64 og] 57, .arr (94) 2 (.slice (some ⟨g1, 0, none⟩) (ln + 1) c4) (ln + 1) (prV (L ++ [(0, u)]))] [] w2 from H4.out.pick [1, 2] rfl (by decide)); clear hD1; go_wp2_with fail
     go_roundw
     case rel => exact ⟨j + 1, (0, u) :: st.drop (pwK oc), (L ++ [(0, u)]), (some ⟨g1, 0, none⟩), (ln + 1), c4, by omega, by go_num, rfl, by rw [HLS.out, HK0.out]; simp, vGo_step HVR.out HKL.out (by simp only [List.length_cons, List.length_drop]; have := HKL.out; omega), iGo_step HG.out HD.out HPV.out HPK.out, by simp only [List.length_cons, List.length_drop]; have := HKL.out; omega, allAcc.step HA.out HPA.out _, H3.out.pick [1] rfl (by decide)⟩
     case measure => first | (simp [intOf]; omega) | (simp [intOf]; done)
    have c3a : ((oc : Int) == (0)) = false := by simpa using c3
    have c3b : ((oc : Int) != (0)) = true := by simpa using c3
    have c3h := hid c3; clear c3; by_cases c4 : (oc : Int) = 1
    ·
     obtain ⟨c4c, c4d⟩ : (oc : Int) ≤ 1 ∧ (1 : Int) ≤ oc := by omega
     have c4a : ((oc : Int) == (1)) = true := by simpa using c4
     have c4b : ((oc : Int) != (1)) = false := by simpa using c4
     have c4h := hid c4; clear c4; have HK0 := hid (show pwK oc = 0 from pwK_0 (by have := c1h.out; have := c3h.out; have := c4h.out; omega)); have hoe : oc = 1 := by have := c1h.out; have := c3h.out; have := c4h.out; omega
     have HPV := hid (show pwInt oc og (st.getD (pwK oc - 1) (0, 0)) (st.getD 0 (0, 0)) u v = (0, v) from by rw [hoe]; rfl); have HPA := hid (show accOk 0 = true ∧ accOk v = true from ⟨(by decide), (acc_val HW.out)⟩); have HPK := hid (pwIok_push (by omega) HPV.out HPA.out.1 HPA.out.2); clear hoe; obtain ⟨D2, hD1⟩ : ∃ D, w1.heap.size = D := ⟨_, rfl⟩; have H3 := hid (H2.out.alloc #[.int .i64 0, .int .i64 v] 94 hD1); obtain ⟨z2, z3⟩ := H2.out.c2 0 rfl; go_upto_region 24 with (at_builtin; refine append_vals rfl _ _ 92 94 2 16 (.agg #[.int .i64 0, .int .i64 0]) Try.underlying92 info_ivl rfl (by decide) (by decide) rfl B _ _ _ D2 1 1 [.int .i64 0, .int .i64 v] rfl rfl rfl (H3.out.arrE 2 rfl) (lit_news H3.out 0 [.int .i64 0, .int .i64 v] rfl) (by intro u hu; simp at hu; rcases hu with rfl | rfl <;> rfl) (by omega) H3.out.size ?_; intro v1 w2 ho hg hv; have H4 := hid (H3.out.appendE 2 rfl ho hg hv); clear ho hg hv)
     clear z2 z3; clear H3; obtain ⟨g1, c5, hva⟩ := arr_pos (H4.out.arrE 2 rfl) (by omega); subst hva; rw [show prV L ++ [.int .i64 0, .int .i64 v] = prV (L ++ [(0, v)]) from by rw [prV_app]; rfl] at H4; have H3 := hid (show St B W [.cells D1 #[.int .i64 oc, .int .i64 og] 57, .arr (94) 2 (.slice (some ⟨g1, 0, none⟩) (ln + 1) c5) (ln + 1) (prV (L ++ [(0, v)]))] [] w2 from H4.out.pick [1, 2] rfl (by decide)); clear hD1; go_wp2_with fail
     go_roundw
     case rel => exact ⟨j + 1, (0, v) :: st.drop (pwK oc), (L ++ [(0, v)]), (some ⟨g1, 0, none⟩), (ln + 1), c5, by omega, by go_num, rfl, by rw [HLS.out, HK0.out]; simp, vGo_step HVR.out HKL.out (by simp only [List.length_cons, List.length_drop]; have := HKL.out; omega), iGo_step HG.out HD.out HPV.out HPK.out, by simp only [List.length_cons, List.length_drop]; have := HKL.out; omega, allAcc.step HA.out HPA.out _, H3.out.pick [1] rfl (by decide)⟩
     case measure => first | (simp [intOf]; omega) | (simp [intOf]; done)
    have c4a : ((oc : Int) == (1)) = false := by simpa using c4
    have c4b : ((oc : Int) != (1)) = true := by simpa using c4
    have c4h := hid c4; clear c4; by_cases c5 : (oc : Int) = 2
    ·
     obtain ⟨c5c, c5d⟩ : (oc : Int) ≤ 2 ∧ (2 : Int) ≤ oc := by omega
     have c5a : ((oc : Int) == (2)) = true := by simpa using c5
     have c5b : ((oc : Int) != (2)) = false := by simpa using c5
     have c5h := hid c5; clear c5; have HK0 := hid (show pwK oc = 0 from pwK_0 (by have := c1h.out; have := c3h.out; have := c4h.out; have := c5h.out; omega)); have hoe : oc = 2 := by have := c1h.out; have := c3h.out; have := c4h.out; have := c5h.out; omega
     have HPV := hid (show pwInt oc og (st.getD (pwK oc - 1) (0, 0)) (st.getD 0 (0, 0)) u v = (og, og) from by rw [hoe]; rfl); have HPA := hid (show accOk og = true ∧ accOk og = true from ⟨(acc_arg (by have := HARG.out; rwa [show oc = 2 from by have := c1h.out; have := c3h.out; have := c4h.out; have := c5h.out; omega] at this)), (acc_arg (by have := HARG.out; rwa [show oc = 2 from by have := c1h.out; have := c3h.out; have := c4h.out; have := c5h.out; omega] at this))⟩); have HPK := hid (pwIok_push (by omega) HPV.out HPA.out.1 HPA.out.2); clear hoe; obtain ⟨D2, hD1⟩ : ∃ D, w1.heap.size = D := ⟨_, rfl⟩; have H3 := hid (H2.out.alloc #[.int .i64 og, .int .i64 og] 94 hD1); obtain ⟨z2, z3⟩ := H2.out.c2 0 rfl; go_upto_region 24 with (at_builtin; refine append_vals rfl _ _ 92 94 2 16 (.agg #[.int .i64 0, .int .i64 0]) Try.underlying92 info_ivl rfl (by decide) (by decide) rfl B _ _ _ D2 1 1 [.int .i64 og, .int .i64 og] rfl rfl rfl (H3.out.arrE 2 rfl) (lit_news H3.out 0 [.int .i64 og, .int .i64 og] rfl) (by intro u hu; simp at hu; rcases hu with rfl | rfl <;> rfl) (by omega) H3.out.size ?_; intro v1 w2 ho hg hv; have H4 := hid (H3.out.appendE 2 rfl ho hg hv); clear ho hg hv)
     clear z2 z3; clear H3; obtain ⟨g1, c6, hva⟩ := arr_pos (H4.out.arrE 2 rfl) (by omega); subst hva; rw [show prV L ++ [.int .i64 og, .int .i64 og] = prV (L ++ [(og, og)]) from by rw [prV_app]; rfl] at H4; have H3 := hid (show St B W [.cells D1 #[.int .i64 oc, .int .i64 og] 57, .arr (94) 2 (.slice (some ⟨g1, 0, none⟩) (ln + 1) c6) (ln + 1) (prV (L ++ [(og, og)]))] [] w2 from H4.out.pick [1, 2] rfl (by decide)); clear hD1; go_wp2_with fail
     go_roundw
     case rel => exact ⟨j + 1, (og, og) :: st.drop (pwK oc), (L ++ [(og, og)]), (some ⟨g1, 0, none⟩), (ln + 1), c6, by omega, by go_num, rfl, by rw [HLS.out, HK0.out]; simp, vGo_step HVR.out HKL.out (by simp only [List.length_cons, List.length_drop]; have := HKL.out; omega), iGo_step HG.out HD.out HPV.out HPK.out, by simp only [List.length_cons, List.length_drop]; have := HKL.out; omega, allAcc.step HA.out HPA.out _, H3.out.pick [1] rfl (by decide)⟩
     case measure => first | (simp [intOf]; omega) | (simp [intOf]; done)
    have c5a : ((oc : Int) == (2)) = false := by simpa using c5
    have c5b : ((oc : Int) != (2)) = true := by simpa using c5
    have c5h := hid c5; clear c5; obtain ⟨z2, z3⟩ := H2.out.c2 0 rfl; go_wp2_with fail
    clear z2 z3; refine (ptakes_any _ _).mono ?_; rintro e w2 ⟨rfl, hsw⟩; have hsw2 : w1 = w2 := by first | exact hsw | exact hsw.symm
    clear hsw; subst hsw2; have hb : pwIs oc = true := by simp [pwIs]; omega
    rw [hb, if_pos rfl]; obtain ⟨k2, hk1⟩ : ∃ xx' : Int, (pwK oc : Int) = xx' := ⟨_, rfl⟩; rw [hk1]; have HK := hid hk1.symm; have hc3 : 3 ≤ oc := by have := c1h.out; have := c3h.out; have := c4h.out; have := c5h.out; omega
    have hkl := pwK_le oc; have hkl2 : 1 ≤ pwK oc := by unfold pwK; rw [if_neg (by omega)]; split <;> omega
    obtain ⟨kn1, kn2⟩ : 1 ≤ k2 ∧ k2 ≤ 2 := by omega
    obtain ⟨T, hT⟩ : ∃ T : Nat, (ln : Int) - k2 = T := ⟨ln - pwK oc, by have := HKL.out; omega⟩; obtain ⟨T1, hT1⟩ : ∃ T1 : Nat, (ln : Int) - 1 = T1 := ⟨ln - 1, by have := HKL.out; omega⟩; have HTK := hid (show T + pwK oc = st.length from by have := HKL.out; omega); have HTL := hid (show T < ln ∧ T1 < ln ∧ T1 + 1 = st.length from by have := HKL.out; omega); clear hkl hkl2 hk1 hb; obtain ⟨g, cc, hgg⟩ := arr_pos (H2.out.arrE 1 rfl) (by have := HTL.out; omega); injection hgg with hga hgb hgc
    subst hga; clear hgb hgc; go_upto_region 19 with fail
    obtain ⟨x0, x1, hx⟩ : ∃ x0 x1, L.getD T (0, 0) = (x0, x1) := ⟨_, _, rfl⟩; obtain ⟨y0, y1, hy⟩ : ∃ y0 y1, L.getD T1 (0, 0) = (y0, y1) := ⟨_, _, rfl⟩; have HX := hid hx; have HY := hid hy; have HXS := hid (show st.getD (pwK oc - 1) (0, 0) = (x0, x1) from by rw [← hx]; exact (stk_get (0, 0) HLS.out (by unfold pwK; rw [if_neg (by omega)]; split <;> omega) HTK.out).symm); have HYS := hid (show st.getD 0 (0, 0) = (y0, y1) from by rw [← hy]; exact (stk_get (K := 1) (0, 0) HLS.out (by omega) HTL.out.2.2).symm); have HXA := hid (show accOk x0 = true ∧ accOk x1 = true from by have := HA.out (pwK oc - 1); rw [HXS.out] at this; exact this); have HYA := hid (show accOk y0 = true ∧ accOk y1 = true from by have := HA.out 0; rw [HYS.out] at this; exact this); clear hx hy; obtain ⟨t1, t2, t3, t4⟩ : 0 ≤ (T : Int) ∧ (T : Int) < ln ∧ 0 ≤ (T1 : Int) ∧ (T1 : Int) < ln := by have := HTL.out; omega
    have t5 : IntKind.i64.wrap (T1 : Int) = T1 := IntWalk.i64_in _ (by omega); have H3 := hid H2.out.drew; refine wp_region_held_drew (S := (fun w' => w'.cell? ⟨g, T * 2, none⟩ = some (.int .i64 x0) ∧ w'.cell? ⟨g, T * 2 + 1, none⟩ = some (.int .i64 x1) ∧ w'.cell? ⟨g, T1 * 2, none⟩ = some (.int .i64 y0) ∧ w'.cell? ⟨g, T1 * 2 + 1, none⟩ = some (.int .i64 y1))) (by kernel_rfl) ⟨(by have := (arr_pair (H3.out.arrE 1 rfl) (i := T) (by have := HTL.out; omega)).1; rw [HX.out] at this; exact this), (by have := (arr_pair (H3.out.arrE 1 rfl) (i := T) (by have := HTL.out; omega)).2; rw [HX.out] at this; exact this), (by have := (arr_pair (H3.out.arrE 1 rfl) (i := T1) (by have := HTL.out; omega)).1; rw [HY.out] at this; exact this), (by have := (arr_pair (H3.out.arrE 1 rfl) (i := T1) (by have := HTL.out; omega)).2; rw [HY.out] at this; exact this)⟩ (fun hHeld => ?_); generalize w1.drew = k2 at *; refine tk 0 ?_; refine tk 1 ?_; refine tk 2 ?_; refine tk 3 ?_; refine tk 4 ?_; refine tk 5 ?_; refine tk 6 ?_; refine tk 7 ?_; refine tk 8 ?_; refine tk 9 ?_; refine wpAnyH_ready (rs := [10, 11]) (by kernel_rfl) (by simp) (AllReadyH.cons (o := _) rfl (fun K hK => ?_) (AllReadyH.cons (o := _) rfl (fun K hK => ?_) AllReadyH.nil))
    ·
     obtain ⟨D1, hD1⟩ : ∃ D, k2.heap.size = D := ⟨_, rfl⟩; have H2 := hid (H3.out.alloc #[.int .i64 0, .int .i64 0] 94 hD1); go_simp
     refine hK.out _ _ (by (try dsimp only); exact ⟨(by have := (arr_pair (H2.out.arrE 2 rfl) (i := T) (by have := HTL.out; omega)).1; rw [HX.out] at this; exact this), (by have := (arr_pair (H2.out.arrE 2 rfl) (i := T) (by have := HTL.out; omega)).2; rw [HX.out] at this; exact this), (by have := (arr_pair (H2.out.arrE 2 rfl) (i := T1) (by have := HTL.out; omega)).1; rw [HY.out] at this; exact this), (by have := (arr_pair (H2.out.arrE 2 rfl) (i := T1) (by have := HTL.out; omega)).2; rw [HY.out] at this; exact this)⟩) ?_; clear hK K hHeld; intro hHeld; try simp only [pz]
     clear hD1; generalize (k2.alloc (.cells #[.int .i64 0, .int .i64 0] 94)) = k3 at *; refine rdy 11 fun K hK => ?_
     obtain ⟨D2, hD1⟩ : ∃ D, k3.heap.size = D := ⟨_, rfl⟩; have H4 := hid (H2.out.alloc #[.int .i64 0, .int .i64 0] 94 hD1); go_simp
     refine hK.out _ _ (by (try dsimp only); exact ⟨(by have := (arr_pair (H4.out.arrE 3 rfl) (i := T) (by have := HTL.out; omega)).1; rw [HX.out] at this; exact this), (by have := (arr_pair (H4.out.arrE 3 rfl) (i := T) (by have := HTL.out; omega)).2; rw [HX.out] at this; exact this), (by have := (arr_pair (H4.out.arrE 3 rfl) (i := T1) (by have := HTL.out; omega)).1; rw [HY.out] at this; exact this), (by have := (arr_pair (H4.out.arrE 3 rfl) (i := T1) (by have := HTL.out; omega)).2; rw [HY.out] at this; exact this)⟩) ?_; clear hK K hHeld; intro hHeld; try simp only [pz]
     clear hD1; generalize (k3.alloc (.cells #[.int .i64 0, .int .i64 0] 94)) = k3 at *; refine rdy 12 fun K hK => ?_
     obtain ⟨z2, z3, z4, z5⟩ := H4.out.f2 1 rfl; have H2 := hid (show St _ _ (_ :: .cells D1 #[.int .i64 x0, .int .i64 x1] 94 :: _) _ _ from ((H4.out.set 1 rfl 0 (.int .i64 x0)).set 1 rfl 1 (.int .i64 x1))); go_simp
     refine hK.out _ _ (by (try dsimp only); exact ⟨(by have := (arr_pair (H2.out.arrE 3 rfl) (i := T) (by have := HTL.out; omega)).1; rw [HX.out] at this; exact this), (by have := (arr_pair (H2.out.arrE 3 rfl) (i := T) (by have := HTL.out; omega)).2; rw [HX.out] at this; exact this), (by have := (arr_pair (H2.out.arrE 3 rfl) (i := T1) (by have := HTL.out; omega)).1; rw [HY.out] at this; exact this), (by have := (arr_pair (H2.out.arrE 3 rfl) (i := T1) (by have := HTL.out; omega)).2; rw [HY.out] at this; exact this)⟩) ?_; clear hK K hHeld; intro hHeld; try simp only [pz]
     clear z2 z3 z4 z5; generalize ((k3.setCell ⟨D1, 0, none⟩ (.int .i64 x0)).setCell ⟨D1, 1, none⟩ (.int .i64 x1)) = k3 at *; refine rdy 13 fun K hK => ?_
     obtain ⟨z2, z3, z4, z5⟩ := H2.out.f2 0 rfl; have H4 := hid (show St _ _ (.cells D2 #[.int .i64 y0, .int .i64 y1] 94 :: _) _ _ from ((H2.out.set 0 rfl 0 (.int .i64 y0)).set 0 rfl 1 (.int .i64 y1))); go_simp
     refine hK.out _ _ (by (try dsimp only); exact ⟨(by have := (arr_pair (H4.out.arrE 3 rfl) (i := T) (by have := HTL.out; omega)).1; rw [HX.out] at this; exact this), (by have := (arr_pair (H4.out.arrE 3 rfl) (i := T) (by have := HTL.out; omega)).2; rw [HX.out] at this; exact this), (by have := (arr_pair (H4.out.arrE 3 rfl) (i := T1) (by have := HTL.out; omega)).1; rw [HY.out] at this; exact this), (by have := (arr_pair (H4.out.arrE 3 rfl) (i := T1) (by have := HTL.out; omega)).2; rw [HY.out] at this; exact this)⟩) ?_; clear hK K hHeld; intro hHeld; try simp only [pz]
     clear z2 z3 z4 z5; generalize ((k3.setCell ⟨D2, 0, none⟩ (.int .i64 y0)).setCell ⟨D2, 1, none⟩ (.int .i64 y1)) = k3 at *; refine wpAnyH_done (by kernel_rfl) ?_ _; try clear hHeld
     clear t1 t2 t3 t4 t5; obtain ⟨z2, z3⟩ := H4.out.c2 2 rfl; obtain ⟨z4, z5⟩ := H4.out.c2 1 rfl; obtain ⟨z6, z7⟩ := H4.out.c2 0 rfl; go_wp2_with fail
     clear z2 z3 z4 z5 z6 z7; refine (papply_any _ _ _ _ _ _ _ ⟨hc3, oc1⟩ HXA.out.1 HXA.out.2 HYA.out.1 HYA.out.2).mono ?_; rintro e w1 ⟨⟨l9, h9, rfl, hlh⟩, hb⟩; have H2 := hid (H4.out.call hb); clear hb; obtain ⟨b1, hb1⟩ : ∃ xx', pwIok oc og (x0, x1) (y0, y1) 0 0 = xx' := ⟨_, rfl⟩; rw [hb1] at hlh ⊢; have HNb1 := hid hb1; clear hb1; have HLH := hid hlh; clear hlh; obtain ⟨D1, hD1⟩ : ∃ D, w1.heap.size = D := ⟨_, rfl⟩; go_upto_region 21 with fail
     have H4 := hid (H2.out.alloc #[.int .i64 l9, .int .i64 h9] 94 hD1); first | refine gK H4 ?_ | refine gL H4 ?_ | refine gC H4 ?_
     clear H4; intro w1 H4; clear hD1; cases b1; rotate_left
     ·
      go_upto_region 23 with fail
      have hlh := (show l9 = _ ∧ h9 = _ from by first | exact HLH.out rfl | exact HLH.out trivial | exact HLH.out); have HPK := hid (show pwIok oc og (st.getD (pwK oc - 1) (0, 0)) (st.getD 0 (0, 0)) u v = true from by rw [HXS.out, HYS.out, pwIok_src hc3]; exact HNb1.out); have HPV := hid (show pwInt oc og (st.getD (pwK oc - 1) (0, 0)) (st.getD 0 (0, 0)) u v = (l9, h9) from by rw [HXS.out, HYS.out, pwInt_src hc3, hlh.1, hlh.2]); have HPA := hid (show accOk l9 = true ∧ accOk h9 = true from by have := pwIok_lo HPK.out; rw [HPV.out] at this; exact this); clear hlh; obtain ⟨t1, t2⟩ : (T : Int) ≤ ln ∧ (ln : Int) ≤ sc := by have := HTL.out; have := arr_cap (H4.out.arrE 4 rfl); omega
      have t3 : (T : Int) ≤ sc := by omega
      have t4 : 0 ≤ (T : Int) := by omega
      have H2 := hid (H4.out.take 4 rfl (k := T) (by have := HTL.out; omega)); rw [prV_take] at H2; go_upto_region 23 with fail
      have H5 := hid H2.out.drew; refine wp_region_held_drew (S := (fun w' => w'.cell? ⟨D1, 0, none⟩ = some (.int .i64 l9) ∧ w'.cell? ⟨D1, 1, none⟩ = some (.int .i64 h9))) (by kernel_rfl) ⟨H5.out.cell 0 rfl 0 rfl, H5.out.cell 0 rfl 1 rfl⟩ (fun hHeld => ?_); generalize w1.drew = k3 at *; refine tk 0 ?_; refine tk 1 ?_; refine tk 2 ?_; refine tk 3 ?_; refine rdy 4 fun K hK => ?_
      obtain ⟨D1, hD1⟩ : ∃ D, k3.heap.size = D := ⟨_, rfl⟩; have H2 := hid (H5.out.alloc #[.int .i64 l9, .int .i64 h9] 94 hD1); go_simp
      refine hK.out _ _ (by (try dsimp only); exact ⟨H2.out.cell 1 rfl 0 rfl, H2.out.cell 1 rfl 1 rfl⟩) ?_; clear hK K hHeld; intro hHeld; try simp only [pz]
      clear hD1; generalize (k3.alloc (.cells #[.int .i64 l9, .int .i64 h9] 94)) = k3 at *; refine rdy 5 fun K hK => ?_
      rw [if_pos (by rfl)]; refine oper_append_vals _ _ 92 94 2 16 (.agg #[.int .i64 0, .int .i64 0]) Try.underlying92 info_ivl rfl (by decide) (by decide) rfl B _ _ _ D1 1 1 [.int .i64 l9, .int .i64 h9] rfl rfl rfl (H2.out.arrE 5 rfl) (lit_news H2.out 0 [.int .i64 l9, .int .i64 h9] rfl) (by intro u hu; simp at hu; rcases hu with rfl | rfl <;> rfl) (by omega) H2.out.size ?_; intro v9a k3 ho hg hv; have H5 := hid (H2.out.appendE 5 rfl ho hg hv); clear ho hg hv; obtain ⟨g1, c3, hva⟩ := arr_pos (H5.out.arrE 5 rfl) (by omega); subst hva; rw [show prV (L.take T) ++ [.int .i64 l9, .int .i64 h9] = prV ((L.take T) ++ [(l9, h9)]) from by rw [prV_app]; rfl] at H5; refine hK.out _ _ (by (try dsimp only); exact ⟨H5.out.cell 1 rfl 0 rfl, H5.out.cell 1 rfl 1 rfl⟩) ?_; clear hK K hHeld; intro hHeld; try simp only [pz]
      refine tk 6 ?_; refine wpAnyH_done (by kernel_rfl) ?_ _; try clear hHeld
      go_wp2_with fail
      go_roundw
      case rel => exact ⟨j + 1, (l9, h9) :: st.drop (pwK oc), ((L.take T) ++ [(l9, h9)]), (some ⟨g1, 0, none⟩), (T + 1), c3, by omega, by go_num, rfl, stk_take HLS.out HTK.out _, vGo_step HVR.out HKL.out (by simp only [List.length_cons, List.length_drop]; have := HKL.out; omega), iGo_step HG.out HD.out HPV.out HPK.out, by simp only [List.length_cons, List.length_drop]; have := HKL.out; omega, allAcc.step HA.out HPA.out _, H5.out.pick [5] rfl (by decide)⟩
      case measure => first | (simp [intOf]; omega) | (simp [intOf]; done)
     go_wp2_with fail
     go_ret3
     exact ⟨by rw [HEV.out, iGo_stop HG.out HD.out (by rw [HXS.out, HYS.out, pwIok_src hc3]; exact HNb1.out)]; rfl, H4.out.bl⟩
    obtain ⟨D1, hD1⟩ : ∃ D, k2.heap.size = D := ⟨_, rfl⟩; have H2 := hid (H3.out.alloc #[.int .i64 0, .int .i64 0] 94 hD1); go_simp
    refine hK.out _ _ (by (try dsimp only); exact ⟨(by have := (arr_pair (H2.out.arrE 2 rfl) (i := T) (by have := HTL.out; omega)).1; rw [HX.out] at this; exact this), (by have := (arr_pair (H2.out.arrE 2 rfl) (i := T) (by have := HTL.out; omega)).2; rw [HX.out] at this; exact this), (by have := (arr_pair (H2.out.arrE 2 rfl) (i := T1) (by have := HTL.out; omega)).1; rw [HY.out] at this; exact this), (by have := (arr_pair (H2.out.arrE 2 rfl) (i := T1) (by have := HTL.out; omega)).2; rw [HY.out] at this; exact this)⟩) ?_; clear hK K hHeld; intro hHeld; try simp only [pz]
    clear hD1; generalize (k2.alloc (.cells #[.int .i64 0, .int .i64 0] 94)) = k2 at *; refine rdy 10 fun K hK => ?_
    obtain ⟨D2, hD1⟩ : ∃ D, k2.heap.size = D := ⟨_, rfl⟩; have H3 := hid (H2.out.alloc #[.int .i64 0, .int .i64 0] 94 hD1); go_simp
    refine hK.out _ _ (by (try dsimp only); exact ⟨(by have := (arr_pair (H3.out.arrE 3 rfl) (i := T) (by have := HTL.out; omega)).1; rw [HX.out] at this; exact this), (by have := (arr_pair (H3.out.arrE 3 rfl) (i := T) (by have := HTL.out; omega)).2; rw [HX.out] at this; exact this), (by have := (arr_pair (H3.out.arrE 3 rfl) (i := T1) (by have := HTL.out; omega)).1; rw [HY.out] at this; exact this), (by have := (arr_pair (H3.out.arrE 3 rfl) (i := T1) (by have := HTL.out; omega)).2; rw [HY.out] at this; exact this)⟩) ?_; clear hK K hHeld; intro hHeld; try simp only [pz]
    clear hD1; generalize (k2.alloc (.cells #[.int .i64 0, .int .i64 0] 94)) = k2 at *; refine rdy 12 fun K hK => ?_
    obtain ⟨z2, z3, z4, z5⟩ := H3.out.f2 0 rfl; have H2 := hid (show St _ _ (.cells D2 #[.int .i64 x0, .int .i64 x1] 94 :: _) _ _ from ((H3.out.set 0 rfl 0 (.int .i64 x0)).set 0 rfl 1 (.int .i64 x1))); go_simp
    refine hK.out _ _ (by (try dsimp only); exact ⟨(by have := (arr_pair (H2.out.arrE 3 rfl) (i := T) (by have := HTL.out; omega)).1; rw [HX.out] at this; exact this), (by have := (arr_pair (H2.out.arrE 3 rfl) (i := T) (by have := HTL.out; omega)).2; rw [HX.out] at this; exact this), (by have := (arr_pair (H2.out.arrE 3 rfl) (i := T1) (by have := HTL.out; omega)).1; rw [HY.out] at this; exact this), (by have := (arr_pair (H2.out.arrE 3 rfl) (i := T1) (by have := HTL.out; omega)).2; rw [HY.out] at this; exact this)⟩) ?_; clear hK K hHeld; intro hHeld; try simp only [pz]
    clear z2 z3 z4 z5; generalize ((k2.setCell ⟨D2, 0, none⟩ (.int .i64 x0)).setCell ⟨D2, 1, none⟩ (.int .i64 x1)) = k2 at *; refine rdy 13 fun K hK => ?_
    obtain ⟨z2, z3, z4, z5⟩ := H2.out.f2 1 rfl; have H3 := hid (show St _ _ (_ :: .cells D1 #[.int .i64 y0, .int .i64 y1] 94 :: _) _ _ from ((H2.out.set 1 rfl 0 (.int .i64 y0)).set 1 rfl 1 (.int .i64 y1))); go_simp
    refine hK.out _ _ (by (try dsimp only); exact ⟨(by have := (arr_pair (H3.out.arrE 3 rfl) (i := T) (by have := HTL.out; omega)).1; rw [HX.out] at this; exact this), (by have := (arr_pair (H3.out.arrE 3 rfl) (i := T) (by have := HTL.out; omega)).2; rw [HX.out] at this; exact this), (by have := (arr_pair (H3.out.arrE 3 rfl) (i := T1) (by have := HTL.out; omega)).1; rw [HY.out] at this; exact this), (by have := (arr_pair (H3.out.arrE 3 rfl) (i := T1) (by have := HTL.out; omega)).2; rw [HY.out] at this; exact this)⟩) ?_; clear hK K hHeld; intro hHeld; try simp only [pz]
    clear z2 z3 z4 z5; generalize ((k2.setCell ⟨D1, 0, none⟩ (.int .i64 y0)).setCell ⟨D1, 1, none⟩ (.int .i64 y1)) = k2 at *; refine wpAnyH_done (by kernel_rfl) ?_ _; try clear hHeld
    clear t1 t2 t3 t4 t5; obtain ⟨z2, z3⟩ := H3.out.c2 2 rfl; obtain ⟨z4, z5⟩ := H3.out.c2 0 rfl; obtain ⟨z6, z7⟩ := H3.out.c2 1 rfl; go_wp2_with fail
    clear z2 z3 z4 z5 z6 z7; refine (papply_any _ _ _ _ _ _ _ ⟨hc3, oc1⟩ HXA.out.1 HXA.out.2 HYA.out.1 HYA.out.2).mono ?_; rintro e w1 ⟨⟨l9, h9, rfl, hlh⟩, hb⟩; have H2 := hid (H3.out.call hb); clear hb; obtain ⟨b1, hb1⟩ : ∃ xx', pwIok oc og (x0, x1) (y0, y1) 0 0 = xx' := ⟨_, rfl⟩; rw [hb1] at hlh ⊢; have HNb1 := hid hb1; clear hb1; have HLH := hid hlh; clear hlh; obtain ⟨D1, hD1⟩ : ∃ D, w1.heap.size = D := ⟨_, rfl⟩; go_upto_region 21 with fail
    have H3 := hid (H2.out.alloc #[.int .i64 l9, .int .i64 h9] 94 hD1); first | refine gK H3 ?_ | refine gL H3 ?_ | refine gC H3 ?_
    clear H3; intro w1 H3; clear hD1; cases b1; rotate_left
    ·
     go_upto_region 23 with fail
     have hlh := (show l9 = _ ∧ h9 = _ from by first | exact HLH.out rfl | exact HLH.out trivial | exact HLH.out); have HPK := hid (show pwIok oc og (st.getD (pwK oc - 1) (0, 0)) (st.getD 0 (0, 0)) u v = true from by rw [HXS.out, HYS.out, pwIok_src hc3]; exact HNb1.out); have HPV := hid (show pwInt oc og (st.getD (pwK oc - 1) (0, 0)) (st.getD 0 (0, 0)) u v = (l9, h9) from by rw [HXS.out, HYS.out, pwInt_src hc3, hlh.1, hlh.2]); have HPA := hid (show accOk l9 = true ∧ accOk h9 = true from by have := pwIok_lo HPK.out; rw [HPV.out] at this; exact this); clear hlh; obtain ⟨t1, t2⟩ : (T : Int) ≤ ln ∧ (ln : Int) ≤ sc := by have := HTL.out; have := arr_cap (H3.out.arrE 4 rfl); omega
     have t3 : (T : Int) ≤ sc := by omega
     have t4 : 0 ≤ (T : Int) := by omega
     have H2 := hid (H3.out.take 4 rfl (k := T) (by have := HTL.out; omega)); rw [prV_take] at H2; go_upto_region 23 with fail
     have H4 := hid H2.out.drew; refine wp_region_held_drew (S := (fun w' => w'.cell? ⟨D1, 0, none⟩ = some (.int .i64 l9) ∧ w'.cell? ⟨D1, 1, none⟩ = some (.int .i64 h9))) (by kernel_rfl) ⟨H4.out.cell 0 rfl 0 rfl, H4.out.cell 0 rfl 1 rfl⟩ (fun hHeld => ?_); generalize w1.drew = k2 at *; refine tk 0 ?_; refine tk 1 ?_; refine tk 2 ?_; refine tk 3 ?_; refine rdy 4 fun K hK => ?_
     obtain ⟨D1, hD1⟩ : ∃ D, k2.heap.size = D := ⟨_, rfl⟩; have H2 := hid (H4.out.alloc #[.int .i64 l9, .int .i64 h9] 94 hD1); go_simp
     refine hK.out _ _ (by (try dsimp only); exact ⟨H2.out.cell 1 rfl 0 rfl, H2.out.cell 1 rfl 1 rfl⟩) ?_; clear hK K hHeld; intro hHeld; try simp only [pz]
     clear hD1; generalize (k2.alloc (.cells #[.int .i64 l9, .int .i64 h9] 94)) = k256 at *; refine rdy 5 fun K hK => ?_
     rw [if_pos (by rfl)]; refine oper_append_vals _ _ 92 94 2 16 (.agg #[.int .i64 0, .int .i64 0]) Try.underlying92 info_ivl rfl (by decide) (by decide) rfl B _ _ _ D1 1 1 [.int .i64 l9, .int .i64 h9] rfl rfl rfl (H2.out.arrE 5 rfl) (lit_news H2.out 0 [.int .i64 l9, .int .i64 h9] rfl) (by intro u hu; simp at hu; rcases hu with rfl | rfl <;> rfl) (by omega) H2.out.size ?_; intro v9a k2 ho hg hv; have H4 := hid (H2.out.appendE 5 rfl ho hg hv); clear ho hg hv; obtain ⟨g1, c3, hva⟩ := arr_pos (H4.out.arrE 5 rfl) (by omega); subst hva; rw [show prV (L.take T) ++ [.int .i64 l9, .int .i64 h9] = prV ((L.take T) ++ [(l9, h9)]) from by rw [prV_app]; rfl] at H4; refine hK.out _ _ (by (try dsimp only); exact ⟨H4.out.cell 1 rfl 0 rfl, H4.out.cell 1 rfl 1 rfl⟩) ?_; clear hK K hHeld; intro hHeld; try simp only [pz]
     refine tk 6 ?_; refine wpAnyH_done (by kernel_rfl) ?_ _; try clear hHeld
     go_wp2_with fail
     go_roundw
     case rel => exact ⟨j + 1, (l9, h9) :: st.drop (pwK oc), ((L.take T) ++ [(l9, h9)]), (some ⟨g1, 0, none⟩), (T + 1), c3, by omega, by go_num, rfl, stk_take HLS.out HTK.out _, vGo_step HVR.out HKL.out (by simp only [List.length_cons, List.length_drop]; have := HKL.out; omega), iGo_step HG.out HD.out HPV.out HPK.out, by simp only [List.length_cons, List.length_drop]; have := HKL.out; omega, allAcc.step HA.out HPA.out _, H4.out.pick [5] rfl (by decide)⟩
     case measure => first | (simp [intOf]; omega) | (simp [intOf]; done)
    go_wp2_with fail
    go_ret3
    exact ⟨by rw [HEV.out, iGo_stop HG.out HD.out (by rw [HXS.out, HYS.out, pwIok_src hc3]; exact HNb1.out)]; rfl, H3.out.bl⟩
   have hjn' : ¬ ((j : Int) < n) := by omega
   have HE := hid (show zs.drop j = [] from List.drop_eq_nil_of_le (by have := HL.out; omega)); have hs1 : st.length = 1 := vGo_nil (by rw [← HE.out]; exact HVG.out); obtain ⟨q1, q2⟩ : 1 ≤ ln ∧ ln ≤ 1 := by omega
   have q3 : 0 < ln := by omega
   have q4 : (0 : Int) < ln := by omega
   obtain ⟨z0, z1, hz⟩ : ∃ z0 z1, L.getD 0 (0, 0) = (z0, z1) := ⟨_, _, rfl⟩; have HZ := hid (show ivR zs u v = (z0, z1, 0) from by rw [HEV.out, ← HG.out, HE.out]; unfold iGo; rw [show st.headD (0, 0) = (z0, z1) from by rw [← hz, stk_get (K := 1) (0, 0) HLS.out (by omega) (by omega), List.headD_eq_head?_getD, List.getD_eq_getElem?_getD, List.head?_eq_getElem?]]); obtain ⟨g, cc, hgg⟩ := arr_pos (H1.out.arrE 0 rfl) (by omega); injection hgg with hga hgb hgc
   subst hga; clear hgb hgc; go_upto_region 25 with fail
   have H2 := hid H1.out.drew; refine wp_region_held_drew (S := (fun w' => w'.cell? ⟨g, 0, none⟩ = some (.int .i64 z0) ∧ w'.cell? ⟨g, 1, none⟩ = some (.int .i64 z1))) (by kernel_rfl) ⟨(by have := (arr_pair (H2.out.arrE 0 rfl) (i := 0) (by omega)).1; rw [hz] at this; exact this), (by have := (arr_pair (H2.out.arrE 0 rfl) (i := 0) (by omega)).2; rw [hz] at this; exact this)⟩ (fun hHeld => ?_); generalize u1.drew = k2 at *; refine tk 0 ?_; refine tk 1 ?_; refine tk 2 ?_; refine tk 3 ?_; refine tk 4 ?_; refine tk 5 ?_; refine tk 6 ?_; refine tk 7 ?_; refine tk 8 ?_; refine tk 9 ?_; refine tk 10 ?_; refine wpAnyH_done (by kernel_rfl) ?_ _; try clear hHeld
   go_wp2_with fail
   go_ret3
   exact ⟨by rw [HZ.out]; rfl, H2.out.bl⟩
 have c1a : ((k1 : Int) == (0)) = false := by simpa using c1
 have c1b : ((k1 : Int) != (0)) = true := by simpa using c1
 have c1h := hid c1; clear c1; go_wp2_with fail
 go_ret3
 exact ⟨by rw [ivR_bad HNk1.out (by have := c1h.out; omega)]; rfl, H128.out.bl⟩
end Go.Proofs.Yteejjnhlfgjlaaa
