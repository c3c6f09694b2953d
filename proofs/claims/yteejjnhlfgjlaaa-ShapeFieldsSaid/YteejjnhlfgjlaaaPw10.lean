/-
 Contracts: the interval of a program, in the program.
-/
import Derived.Test.YteejjnhlfgjlaaaPw5
import Derived.Test.YteejjnhlfgjlaaaPw9
import Derived.Test.YteejjnhlfgjlaaaKH
namespace Go.Proofs.Yteejjnhlfgjlaaa
open Go.RowKit
attribute [local go_sem ↓] Go.wp_at_zero Go.wp_at_succ
set_option linter.unusedVariables false
set_option linter.unusedSimpArgs false

theorem vGo_nil {d : Nat} (h : vGo [] true d = 0) : d = 1 := by
 unfold vGo at h
 split at h
 ·
  assumption
 ·
  omega
theorem iGo_step {oc og u v : Int} {lo hi : Int} {l0 l : List (Int × Int)} {st : List (Int × Int)} {R : Int × Int × Int} (h : iGo l0 st u v = R) (hd : l0 = (oc, og) :: l) (hp : pwInt oc og (st.getD (pwK oc - 1) (0, 0)) (st.getD 0 (0, 0)) u v = (lo, hi)) (ha : pwIok oc og (st.getD (pwK oc - 1) (0, 0)) (st.getD 0 (0, 0)) u v = true) : iGo l ((lo, hi) :: st.drop (pwK oc)) u v = R := by
 subst hd
 rw [iGo_cons] at h
 dsimp only at h
 rw [if_pos ha, hp] at h
 exact h
theorem iGo_stop {oc og u v : Int} {l0 l : List (Int × Int)} {st : List (Int × Int)} {R : Int × Int × Int} (h : iGo l0 st u v = R) (hd : l0 = (oc, og) :: l) (ha : pwIok oc og (st.getD (pwK oc - 1) (0, 0)) (st.getD 0 (0, 0)) u v = false) : R = (0, 0, 11) := by
 subst hd
 rw [iGo_cons] at h
 dsimp only at h
 rw [if_neg (by rw [ha]; simp)] at h
 exact h.symm
theorem ivR_bad {l : List (Int × Int)} {a b k : Int} (h : vCode l true = k) (hk : k ≠ 0) : ivR l a b = (0, 0, k) := by unfold ivR; rw [h, if_pos hk]
theorem ivR_range {l : List (Int × Int)} {a b : Int} (h : vCode l true = 0) (hk : ¬ (valOk a = true ∧ valOk b = true)) : ivR l a b = (0, 0, 2) := by unfold ivR; rw [h, if_neg (by simp), if_pos hk]
theorem ivR_go {l : List (Int × Int)} {a b : Int} (h : vCode l true = 0) (ha : valOk a = true) (hb : valOk b = true) : ivR l a b = iGo l [] a b := by unfold ivR; rw [h, if_neg (by simp), if_neg (by simp [ha, hb])]
theorem pwInt_src {c : Int} (h : 3 ≤ c) (g : Int) (x y : Int × Int) (a b : Int) : pwInt c g x y a b = pwInt c g x y 0 0 := by
 unfold pwInt; simp only [if_neg (show ¬ c = 0 by omega), if_neg (show ¬ c = 1 by omega)]
theorem pwIok_src {c : Int} (h : 3 ≤ c) (g : Int) (x y : Int × Int) (a b : Int) : pwIok c g x y a b = pwIok c g x y 0 0 := by
 unfold pwIok; rw [pwInt_src h g x y a b]
theorem pwIok_lo {c g a b : Int} {x y : Int × Int} (h : pwIok c g x y a b = true) : accOk (pwInt c g x y a b).1 = true ∧ accOk (pwInt c g x y a b).2 = true := by
 unfold pwIok at h
 rw [Bool.and_eq_true, Bool.and_eq_true] at h
 exact h.2
theorem pwIok_push {c g a b : Int} {x y : Int × Int} (hc : c ≠ 5) {lo hi : Int} (he : pwInt c g x y a b = (lo, hi)) (h1 : accOk lo = true) (h2 : accOk hi = true) : pwIok c g x y a b = true := by
 unfold pwIok; rw [if_neg hc, he]; dsimp only; rw [h1, h2]; rfl
theorem acc_val {a : Int} (h : valOk a = true) : accOk a = true := by rw [valOk_iff'] at h; rw [accOk_iff]; omega
theorem info_ivl : (Try.prog.info? 94).map (fun i => (i.zero, i.size, i.bytes)) = some (some (.agg #[.int .i64 0, .int .i64 0]), 2, 16) := by kernel_rfl

set_option maxRecDepth 100000 in
set_option maxHeartbeats 6400000 in
theorem pinterval_any (a : Option Addr) (n c : Nat) (zs : List (Int × Int)) (u v : Int) (W : World) (hs : Prs W a n c zs) : Calls Try.prog 60 #[.slice a n c, .int .i64 u, .int .i64 v] W fun e w' => e = .returned (.tuple #[.int .i64 (ivR zs u v).1, .int .i64 (ivR zs u v).2.1, .int .i64 (ivR zs u v).2.2]) ∧ Below W.heap.size W w' := by
 obtain ⟨B, hB⟩ : ∃ B, W.heap.size = B := ⟨_, rfl⟩
 have HI0 := hid (St.init hB)
 have HS := hid hs
 have HL := hid hs.len
 have nmx : (n : Int) ≤ 9223372036854775807 := by have := hs.nc; have := hs.cap; omega
 clear hs
 go_enter Try.func60, Try.ntmps60
 go_wp2_with fail
 refine (pvalid_any14 _ _ _ _ true _ (HI0.out.oldPrs HS.out)).mono ?_
 rintro e w127 ⟨rfl, hb⟩
 have H128 := hid (HI0.out.call hb)
 clear hb
 obtain ⟨k129, hk129⟩ : ∃ xx', vCode zs true = xx' := ⟨_, rfl⟩
 rw [hk129]
 have HNk129 := hid hk129
 clear hk129
 by_cases c130 : (k129 : Int) = 0
 ·
  obtain ⟨c130c, c130d⟩ : (k129 : Int) ≤ 0 ∧ (0 : Int) ≤ k129 := by omega
  have c130a : ((k129 : Int) == (0)) = true := by simpa using c130
  have c130b : ((k129 : Int) != (0)) = false := by simpa using c130
  have c130h := hid c130
  clear c130
  by_cases c131 : (u : Int) < 1
  ·
   skip
   go_wp2_with fail
   go_ret3
   exact ⟨by rw [ivR_range (by rw [HNk129.out]; have := c130h.out; omega) (by rw [valOk_iff', valOk_iff']; have := c130h.out; omega)]; rfl, by first | exact H128.out.below | exact H128.out.below'⟩
  ·
   skip
   by_cases c132 : (4294967296 : Int) < u
   ·
    skip
    go_wp2_with fail
    go_ret3
    exact ⟨by rw [ivR_range (by rw [HNk129.out]; have := c130h.out; omega) (by rw [valOk_iff', valOk_iff']; have := c130h.out; omega)]; rfl, by first | exact H128.out.below | exact H128.out.below'⟩
   ·
    skip
    by_cases c133 : (v : Int) < 1
    ·
     skip
     go_wp2_with fail
     go_ret3
     exact ⟨by rw [ivR_range (by rw [HNk129.out]; have := c130h.out; omega) (by rw [valOk_iff', valOk_iff']; have := c130h.out; omega)]; rfl, by first | exact H128.out.below | exact H128.out.below'⟩
    ·
     skip
     by_cases c134 : (4294967296 : Int) < v
     ·
      skip
      go_wp2_with fail
      go_ret3
      exact ⟨by rw [ivR_range (by rw [HNk129.out]; have := c130h.out; omega) (by rw [valOk_iff', valOk_iff']; have := c130h.out; omega)]; rfl, by first | exact H128.out.below | exact H128.out.below'⟩
     ·
      skip
      go_wp2_with fail
      have HV := hid (show vCode zs true = 0 from by rw [HNk129.out]; have := c130h.out; omega)
      have HU := hid (show valOk u = true from (valOk_iff'.2 (by have := c130h.out; omega)))
      have HW := hid (show valOk v = true from (valOk_iff'.2 (by have := c130h.out; omega)))
      have HEV := hid (ivR_go (l := zs) (a := u) (b := v) HV.out HU.out HW.out)
      obtain ⟨n1, n2⟩ : 1 ≤ n ∧ n ≤ 32 := by have := vCode_zero.1 HV.out; have := HL.out; omega
      have H135 := hid (show St B W [.arr (94) 2 (.slice none 0 0) 0 (prV [])] [] w127 from H128.out.arrNilE 94 2)
      go_loopw [41, 10] (fun i s wr => ∃ (j : Nat) (st L : List (Int × Int)) (sa : Option Addr) (ln sc : Nat), j ≤ n ∧ i = .int .i64 j ∧ s = .slice sa ln sc ∧ L = st.reverse ∧ vGo (zs.drop j) true st.length = 0 ∧ iGo (zs.drop j) st u v = iGo zs [] u v ∧ st.length ≤ j ∧ allAcc st ∧ St B W [.arr (94) 2 (.slice sa ln sc) ln (prV L)] [] wr) (fun i _ _ => n - (intOf i).toNat)
      case atStart => exact ⟨0, [], [], none, 0, 0, by omega, rfl, rfl, rfl, (vCode_zero.1 HV.out).2.2, rfl, by simp, allAcc.nil, H135.out⟩
      case round =>
       obtain ⟨j, st, L, sa, ln, sc, hj, rfl, rfl, hls, hvg, hg, hsl, ha, hst⟩ := hrel
       obtain ⟨u136, rfl⟩ : ∃ u136 : World, u136 = wr := ⟨_, rfl⟩
       have H137 := hid hst
       clear hst
       have HLS := hid hls
       have HVG := hid hvg
       have HG := hid hg
       have HA := hid ha
       clear hvg hg ha
       have hll := arr_len (H137.out.arrE 0 rfl)
       obtain ⟨ll1, ll2, ll3, ll4⟩ : ln ≤ st.length ∧ st.length ≤ ln ∧ ln ≤ L.length ∧ L.length ≤ ln := by rw [hls, List.length_reverse] at hll; rw [hls, List.length_reverse]; omega
       clear hls hll
       by_cases hjn : j < n
       ·
        skip
        have hjn' : (j : Int) < n := by omega
        obtain ⟨pb, po, hpa⟩ := (H137.out.oldPrs HS.out).at (by omega)
        subst hpa
        obtain ⟨cz0, cz1⟩ := (H137.out.oldPrs HS.out).get (i := j) hjn
        obtain ⟨oc, og, hoo⟩ : ∃ x y, zs.getD j (0, 0) = (x, y) := ⟨_, _, rfl⟩
        have HD := hid (drop_one (by rw [← HL.out]; exact hjn) hoo)
        rw [hoo] at cz0 cz1
        dsimp only at cz0 cz1
        clear hoo
        obtain ⟨oc0, oc11, hoA, hoK, hoG, hoV⟩ : 0 ≤ oc ∧ oc ≤ 11 ∧ (oc = 1 → true = true) ∧ pwK oc ≤ st.length ∧ pwArg oc og = true ∧ vGo (zs.drop (j + 1)) true (st.length + 1 - pwK oc) = 0 := vGo_cons (by rw [← HD.out]; exact HVG.out)
        have HARG := hid hoG
        have HVR := hid hoV
        have HKL := hid hoK
        clear hoA hoK hoG hoV
        obtain ⟨D138, hD138⟩ : ∃ D, u136.heap.size = D := ⟨_, rfl⟩
        go_upto_region 10 with fail
        have H139 := hid (H137.out.alloc #[.int .i64 oc, .int .i64 og] 57 hD138)
        first | refine gen_code H139.out ?_ | refine gen_list H139.out ?_ | refine gen_calls H139.out ?_
        intro w140 hG
        clear H139
        have H139 := hid hG
        clear hG
        clear hD138
        by_cases c141 : (oc : Int) = 0
        ·
         obtain ⟨c141c, c141d⟩ : (oc : Int) ≤ 0 ∧ (0 : Int) ≤ oc := by omega
         have c141a : ((oc : Int) == (0)) = true := by simpa using c141
         have c141b : ((oc : Int) != (0)) = false := by simpa using c141
         have c141h := hid c141
         clear c141
         have HK0 := hid (show pwK oc = 0 from pwK_0 (by have := c130h.out; have := c141h.out; omega))
         have hoe : oc = 0 := by have := c130h.out; have := c141h.out; omega
         have HPV := hid (show pwInt oc og (st.getD (pwK oc - 1) (0, 0)) (st.getD 0 (0, 0)) u v = (0, u) from by rw [hoe]; rfl)
         have HPA := hid (show accOk 0 = true ∧ accOk u = true from ⟨(by decide), (acc_val HU.out)⟩)
         have HPK := hid (pwIok_push (by omega) HPV.out HPA.out.1 HPA.out.2)
         clear hoe
         obtain ⟨D142, hD142⟩ : ∃ D, w140.heap.size = D := ⟨_, rfl⟩
         have H143 := hid (H139.out.alloc #[.int .i64 0, .int .i64 u] 94 hD142)
         have z150 := H139.out.cell 0 rfl 0 rfl
         have z151 := H139.out.cell 0 rfl 1 rfl
         go_upto_region 24 with (at_builtin; refine append_vals rfl _ _ 92 94 2 16 (.agg #[.int .i64 0, .int .i64 0]) Try.underlying92 info_ivl rfl (by decide) (by decide) rfl B _ _ _ D142 1 1 [.int .i64 0, .int .i64 u] rfl rfl rfl (H143.out.arrE 2 rfl) (lit_news H143.out 0 [.int .i64 0, .int .i64 u] rfl) (by intro u hu; simp at hu; rcases hu with rfl | rfl <;> rfl) (by omega) H143.out.size ?_; intro v146 w147 ho hg hv; have H144 := hid (H143.out.appendE 2 rfl ho hg hv); clear ho hg hv)
         clear z150 z151
         clear H143
         obtain ⟨g148, c149, hva⟩ := arr_pos (H144.out.arrE 2 rfl) (by omega)
         subst hva
         rw [show prV L ++ [.int .i64 0, .int .i64 u] = prV (L ++ [(0, u)]) from by rw [prV_app]; rfl] at H144
         have H145 := hid (show St B W [.cells D138 #[.int .i64 oc, .int .i64 og] 57, .arr (94) 2 (.slice (some ⟨g148, 0, none⟩) (ln + 1) c149) (ln + 1) (prV (L ++ [(0, u)]))] [] w147 from H144.out.pick [1, 2] rfl (by decide))
         clear hD142
         go_wp2_with fail
         go_roundw
         case rel => exact ⟨j + 1, (0, u) :: st.drop (pwK oc), (L ++ [(0, u)]), (some ⟨g148, 0, none⟩), (ln + 1), c149, by omega, by go_num, rfl, by rw [HLS.out, HK0.out]; simp, vGo_step HVR.out HKL.out (by simp only [List.length_cons, List.length_drop]; have := HKL.out; omega), iGo_step HG.out HD.out HPV.out HPK.out, by simp only [List.length_cons, List.length_drop]; have := HKL.out; omega, allAcc.step HA.out HPA.out _, H145.out.pick [1] rfl (by decide)⟩
         case measure => first | (simp [intOf]; omega) | (simp [intOf]; done)
        ·
         have c141a : ((oc : Int) == (0)) = false := by simpa using c141
         have c141b : ((oc : Int) != (0)) = true := by simpa using c141
         have c141h := hid c141
         clear c141
         by_cases c152 : (oc : Int) = 1
         ·
          obtain ⟨c152c, c152d⟩ : (oc : Int) ≤ 1 ∧ (1 : Int) ≤ oc := by omega
          have c152a : ((oc : Int) == (1)) = true := by simpa using c152
          have c152b : ((oc : Int) != (1)) = false := by simpa using c152
          have c152h := hid c152
          clear c152
          have HK0 := hid (show pwK oc = 0 from pwK_0 (by have := c130h.out; have := c141h.out; have := c152h.out; omega))
          have hoe : oc = 1 := by have := c130h.out; have := c141h.out; have := c152h.out; omega
          have HPV := hid (show pwInt oc og (st.getD (pwK oc - 1) (0, 0)) (st.getD 0 (0, 0)) u v = (0, v) from by rw [hoe]; rfl)
          have HPA := hid (show accOk 0 = true ∧ accOk v = true from ⟨(by decide), (acc_val HW.out)⟩)
          have HPK := hid (pwIok_push (by omega) HPV.out HPA.out.1 HPA.out.2)
          clear hoe
          obtain ⟨D153, hD153⟩ : ∃ D, w140.heap.size = D := ⟨_, rfl⟩
          have H154 := hid (H139.out.alloc #[.int .i64 0, .int .i64 v] 94 hD153)
          have z161 := H139.out.cell 0 rfl 0 rfl
          have z162 := H139.out.cell 0 rfl 1 rfl
          go_upto_region 24 with (at_builtin; refine append_vals rfl _ _ 92 94 2 16 (.agg #[.int .i64 0, .int .i64 0]) Try.underlying92 info_ivl rfl (by decide) (by decide) rfl B _ _ _ D153 1 1 [.int .i64 0, .int .i64 v] rfl rfl rfl (H154.out.arrE 2 rfl) (lit_news H154.out 0 [.int .i64 0, .int .i64 v] rfl) (by intro u hu; simp at hu; rcases hu with rfl | rfl <;> rfl) (by omega) H154.out.size ?_; intro v157 w158 ho hg hv; have H155 := hid (H154.out.appendE 2 rfl ho hg hv); clear ho hg hv)
          clear z161 z162
          clear H154
          obtain ⟨g159, c160, hva⟩ := arr_pos (H155.out.arrE 2 rfl) (by omega)
          subst hva
          rw [show prV L ++ [.int .i64 0, .int .i64 v] = prV (L ++ [(0, v)]) from by rw [prV_app]; rfl] at H155
          have H156 := hid (show St B W [.cells D138 #[.int .i64 oc, .int .i64 og] 57, .arr (94) 2 (.slice (some ⟨g159, 0, none⟩) (ln + 1) c160) (ln + 1) (prV (L ++ [(0, v)]))] [] w158 from H155.out.pick [1, 2] rfl (by decide))
          clear hD153
          go_wp2_with fail
          go_roundw
          case rel => exact ⟨j + 1, (0, v) :: st.drop (pwK oc), (L ++ [(0, v)]), (some ⟨g159, 0, none⟩), (ln + 1), c160, by omega, by go_num, rfl, by rw [HLS.out, HK0.out]; simp, vGo_step HVR.out HKL.out (by simp only [List.length_cons, List.length_drop]; have := HKL.out; omega), iGo_step HG.out HD.out HPV.out HPK.out, by simp only [List.length_cons, List.length_drop]; have := HKL.out; omega, allAcc.step HA.out HPA.out _, H156.out.pick [1] rfl (by decide)⟩
          case measure => first | (simp [intOf]; omega) | (simp [intOf]; done)
         ·
          have c152a : ((oc : Int) == (1)) = false := by simpa using c152
          have c152b : ((oc : Int) != (1)) = true := by simpa using c152
          have c152h := hid c152
          clear c152
          by_cases c163 : (oc : Int) = 2
          ·
           obtain ⟨c163c, c163d⟩ : (oc : Int) ≤ 2 ∧ (2 : Int) ≤ oc := by omega
           have c163a : ((oc : Int) == (2)) = true := by simpa using c163
           have c163b : ((oc : Int) != (2)) = false := by simpa using c163
           have c163h := hid c163
           clear c163
           have HK0 := hid (show pwK oc = 0 from pwK_0 (by have := c130h.out; have := c141h.out; have := c152h.out; have := c163h.out; omega))
           have hoe : oc = 2 := by have := c130h.out; have := c141h.out; have := c152h.out; have := c163h.out; omega
           have HPV := hid (show pwInt oc og (st.getD (pwK oc - 1) (0, 0)) (st.getD 0 (0, 0)) u v = (og, og) from by rw [hoe]; rfl)
           have HPA := hid (show accOk og = true ∧ accOk og = true from ⟨(acc_arg (by have := HARG.out; rwa [show oc = 2 from by have := c130h.out; have := c141h.out; have := c152h.out; have := c163h.out; omega] at this)), (acc_arg (by have := HARG.out; rwa [show oc = 2 from by have := c130h.out; have := c141h.out; have := c152h.out; have := c163h.out; omega] at this))⟩)
           have HPK := hid (pwIok_push (by omega) HPV.out HPA.out.1 HPA.out.2)
           clear hoe
           obtain ⟨D164, hD164⟩ : ∃ D, w140.heap.size = D := ⟨_, rfl⟩
           have H165 := hid (H139.out.alloc #[.int .i64 og, .int .i64 og] 94 hD164)
           have z172 := H139.out.cell 0 rfl 0 rfl
           have z173 := H139.out.cell 0 rfl 1 rfl
           go_upto_region 24 with (at_builtin; refine append_vals rfl _ _ 92 94 2 16 (.agg #[.int .i64 0, .int .i64 0]) Try.underlying92 info_ivl rfl (by decide) (by decide) rfl B _ _ _ D164 1 1 [.int .i64 og, .int .i64 og] rfl rfl rfl (H165.out.arrE 2 rfl) (lit_news H165.out 0 [.int .i64 og, .int .i64 og] rfl) (by intro u hu; simp at hu; rcases hu with rfl | rfl <;> rfl) (by omega) H165.out.size ?_; intro v168 w169 ho hg hv; have H166 := hid (H165.out.appendE 2 rfl ho hg hv); clear ho hg hv)
           clear z172 z173
           clear H165
           obtain ⟨g170, c171, hva⟩ := arr_pos (H166.out.arrE 2 rfl) (by omega)
           subst hva
           rw [show prV L ++ [.int .i64 og, .int .i64 og] = prV (L ++ [(og, og)]) from by rw [prV_app]; rfl] at H166
           have H167 := hid (show St B W [.cells D138 #[.int .i64 oc, .int .i64 og] 57, .arr (94) 2 (.slice (some ⟨g170, 0, none⟩) (ln + 1) c171) (ln + 1) (prV (L ++ [(og, og)]))] [] w169 from H166.out.pick [1, 2] rfl (by decide))
           clear hD164
           go_wp2_with fail
           go_roundw
           case rel => exact ⟨j + 1, (og, og) :: st.drop (pwK oc), (L ++ [(og, og)]), (some ⟨g170, 0, none⟩), (ln + 1), c171, by omega, by go_num, rfl, by rw [HLS.out, HK0.out]; simp, vGo_step HVR.out HKL.out (by simp only [List.length_cons, List.length_drop]; have := HKL.out; omega), iGo_step HG.out HD.out HPV.out HPK.out, by simp only [List.length_cons, List.length_drop]; have := HKL.out; omega, allAcc.step HA.out HPA.out _, H167.out.pick [1] rfl (by decide)⟩
           case measure => first | (simp [intOf]; omega) | (simp [intOf]; done)
          ·
           have c163a : ((oc : Int) == (2)) = false := by simpa using c163
           have c163b : ((oc : Int) != (2)) = true := by simpa using c163
           have c163h := hid c163
           clear c163
           have z174 := H139.out.cell 0 rfl 0 rfl
           have z175 := H139.out.cell 0 rfl 1 rfl
           go_wp2_with fail
           clear z174 z175
           refine (ptakes_any _ _).mono ?_
           rintro e w176 ⟨rfl, hsw⟩
           have hsw2 : w140 = w176 := by first | exact hsw | exact hsw.symm
           clear hsw
           subst hsw2
           have hb : pwIs oc = true := by simp [pwIs]; omega
           rw [hb, if_pos rfl]
           obtain ⟨k177, hk177⟩ : ∃ xx' : Int, (pwK oc : Int) = xx' := ⟨_, rfl⟩
           rw [hk177]
           have HK := hid hk177.symm
           have hc3 : 3 ≤ oc := by have := c130h.out; have := c141h.out; have := c152h.out; have := c163h.out; omega
           have hkl := pwK_le oc
           have hkl2 : 1 ≤ pwK oc := by unfold pwK; rw [if_neg (by omega)]; split <;> omega
           obtain ⟨kn1, kn2⟩ : 1 ≤ k177 ∧ k177 ≤ 2 := by omega
           obtain ⟨T, hT⟩ : ∃ T : Nat, (ln : Int) - k177 = T := ⟨ln - pwK oc, by have := HKL.out; omega⟩
           obtain ⟨T1, hT1⟩ : ∃ T1 : Nat, (ln : Int) - 1 = T1 := ⟨ln - 1, by have := HKL.out; omega⟩
           have HTK := hid (show T + pwK oc = st.length from by have := HKL.out; omega)
           have HTL := hid (show T < ln ∧ T1 < ln ∧ T1 + 1 = st.length from by have := HKL.out; omega)
           clear hkl hkl2 hk177 hb
           obtain ⟨g, cc, hgg⟩ := arr_pos (H139.out.arrE 1 rfl) (by have := HTL.out; omega)
           injection hgg with hga hgb hgc
           subst hga
           clear hgb hgc
           go_upto_region 19 with fail
           obtain ⟨x0, x1, hx⟩ : ∃ x0 x1, L.getD T (0, 0) = (x0, x1) := ⟨_, _, rfl⟩
           obtain ⟨y0, y1, hy⟩ : ∃ y0 y1, L.getD T1 (0, 0) = (y0, y1) := ⟨_, _, rfl⟩
           have HX := hid hx
           have HY := hid hy
           have HXS := hid (show st.getD (pwK oc - 1) (0, 0) = (x0, x1) from by rw [← hx]; exact (stk_get (0, 0) HLS.out (by unfold pwK; rw [if_neg (by omega)]; split <;> omega) HTK.out).symm)
           have HYS := hid (show st.getD 0 (0, 0) = (y0, y1) from by rw [← hy]; exact (stk_get (K := 1) (0, 0) HLS.out (by omega) HTL.out.2.2).symm)
           have HXA := hid (show accOk x0 = true ∧ accOk x1 = true from by have := HA.out (pwK oc - 1); rw [HXS.out] at this; exact this)
           have HYA := hid (show accOk y0 = true ∧ accOk y1 = true from by have := HA.out 0; rw [HYS.out] at this; exact this)
           clear hx hy
           obtain ⟨t1, t2, t3, t4⟩ : 0 ≤ (T : Int) ∧ (T : Int) < ln ∧ 0 ≤ (T1 : Int) ∧ (T1 : Int) < ln := by have := HTL.out; omega
           have t5 : IntKind.i64.wrap (T1 : Int) = T1 := IntWalk.i64_in _ (by omega)
           have H178 := hid H139.out.drew
           refine wp_region_held_drew (S := (fun w' => w'.cell? ⟨g, T * 2, none⟩ = some (.int .i64 x0) ∧ w'.cell? ⟨g, T * 2 + 1, none⟩ = some (.int .i64 x1) ∧ w'.cell? ⟨g, T1 * 2, none⟩ = some (.int .i64 y0) ∧ w'.cell? ⟨g, T1 * 2 + 1, none⟩ = some (.int .i64 y1))) (by kernel_rfl) ⟨(by have := (arr_pair (H178.out.arrE 1 rfl) (i := T) (by have := HTL.out; omega)).1; rw [HX.out] at this; exact this), (by have := (arr_pair (H178.out.arrE 1 rfl) (i := T) (by have := HTL.out; omega)).2; rw [HX.out] at this; exact this), (by have := (arr_pair (H178.out.arrE 1 rfl) (i := T1) (by have := HTL.out; omega)).1; rw [HY.out] at this; exact this), (by have := (arr_pair (H178.out.arrE 1 rfl) (i := T1) (by have := HTL.out; omega)).2; rw [HY.out] at this; exact this)⟩ (fun hHeld => ?_)
           generalize w140.drew = k179 at *
           refine tkA 0 ?_
           try simp only [Act.put, p1, p2, p3, p4, p5, p6]
           refine tkA 1 ?_
           try simp only [Act.put, p1, p2, p3, p4, p5, p6]
           refine tkA 2 ?_
           try simp only [Act.put, p1, p2, p3, p4, p5, p6]
           refine tkA 3 ?_
           try simp only [Act.put, p1, p2, p3, p4, p5, p6]
           refine tkA 4 ?_
           try simp only [Act.put, p1, p2, p3, p4, p5, p6]
           refine tkA 5 ?_
           try simp only [Act.put, p1, p2, p3, p4, p5, p6]
           refine tkA 6 ?_
           try simp only [Act.put, p1, p2, p3, p4, p5, p6]
           refine tkA 7 ?_
           try simp only [Act.put, p1, p2, p3, p4, p5, p6]
           refine tkA 8 ?_
           try simp only [Act.put, p1, p2, p3, p4, p5, p6]
           refine tkA 9 ?_
           try simp only [Act.put, p1, p2, p3, p4, p5, p6]
           refine wpAnyH_ready (rs := [10, 11]) (by kernel_rfl) (by simp) (AllReadyH.cons (o := _) rfl (fun K hK => ?_) (AllReadyH.cons (o := _) rfl (fun K hK => ?_) AllReadyH.nil))
           ·
            obtain ⟨D180, hD180⟩ : ∃ D, k179.heap.size = D := ⟨_, rfl⟩
            have H181 := hid (H178.out.alloc #[.int .i64 0, .int .i64 0] 94 hD180)
            go_simp
            refine hK.out _ _ ?_ (fun hHeld2 => ?_)
            focus ((try dsimp only); (exact ⟨(by have := (arr_pair (H181.out.arrE 2 rfl) (i := T) (by have := HTL.out; omega)).1; rw [HX.out] at this; exact this), (by have := (arr_pair (H181.out.arrE 2 rfl) (i := T) (by have := HTL.out; omega)).2; rw [HX.out] at this; exact this), (by have := (arr_pair (H181.out.arrE 2 rfl) (i := T1) (by have := HTL.out; omega)).1; rw [HY.out] at this; exact this), (by have := (arr_pair (H181.out.arrE 2 rfl) (i := T1) (by have := HTL.out; omega)).2; rw [HY.out] at this; exact this)⟩))
            clear hK K hHeld
            try simp only [Act.put, p1, p2, p3, p4, p5, p6]
            clear hD180
            generalize (k179.alloc (.cells #[.int .i64 0, .int .i64 0] 94)) = k182 at *
            have hHeld := hHeld2
            clear hHeld2
            refine wpAnyH_ready (rs := [11]) (by kernel_rfl) (by simp) (AllReadyH.cons (o := _) rfl (fun K hK => ?_) AllReadyH.nil)
            obtain ⟨D183, hD183⟩ : ∃ D, k182.heap.size = D := ⟨_, rfl⟩
            have H184 := hid (H181.out.alloc #[.int .i64 0, .int .i64 0] 94 hD183)
            go_simp
            refine hK.out _ _ ?_ (fun hHeld2 => ?_)
            focus ((try dsimp only); (exact ⟨(by have := (arr_pair (H184.out.arrE 3 rfl) (i := T) (by have := HTL.out; omega)).1; rw [HX.out] at this; exact this), (by have := (arr_pair (H184.out.arrE 3 rfl) (i := T) (by have := HTL.out; omega)).2; rw [HX.out] at this; exact this), (by have := (arr_pair (H184.out.arrE 3 rfl) (i := T1) (by have := HTL.out; omega)).1; rw [HY.out] at this; exact this), (by have := (arr_pair (H184.out.arrE 3 rfl) (i := T1) (by have := HTL.out; omega)).2; rw [HY.out] at this; exact this)⟩))
            clear hK K hHeld
            try simp only [Act.put, p1, p2, p3, p4, p5, p6]
            clear hD183
            generalize (k182.alloc (.cells #[.int .i64 0, .int .i64 0] 94)) = k185 at *
            have hHeld := hHeld2
            clear hHeld2
            refine wpAnyH_ready (rs := [12]) (by kernel_rfl) (by simp) (AllReadyH.cons (o := _) rfl (fun K hK => ?_) AllReadyH.nil)
            have z186 := H184.out.cell 1 rfl 0 rfl
            have z187 := H184.out.free 1 rfl 0
            have z188 := H184.out.cell 1 rfl 1 rfl
            have z189 := H184.out.free 1 rfl 1
            have H190 := hid (show St _ _ (_ :: .cells D180 #[.int .i64 x0, .int .i64 x1] 94 :: _) _ _ from ((H184.out.set 1 rfl 0 (.int .i64 x0)).set 1 rfl 1 (.int .i64 x1)))
            go_simp
            refine hK.out _ _ ?_ (fun hHeld2 => ?_)
            focus ((try dsimp only); (exact ⟨(by have := (arr_pair (H190.out.arrE 3 rfl) (i := T) (by have := HTL.out; omega)).1; rw [HX.out] at this; exact this), (by have := (arr_pair (H190.out.arrE 3 rfl) (i := T) (by have := HTL.out; omega)).2; rw [HX.out] at this; exact this), (by have := (arr_pair (H190.out.arrE 3 rfl) (i := T1) (by have := HTL.out; omega)).1; rw [HY.out] at this; exact this), (by have := (arr_pair (H190.out.arrE 3 rfl) (i := T1) (by have := HTL.out; omega)).2; rw [HY.out] at this; exact this)⟩))
            clear hK K hHeld
            try simp only [Act.put, p1, p2, p3, p4, p5, p6]
            clear z186 z187 z188 z189
            generalize ((k185.setCell ⟨D180, 0, none⟩ (.int .i64 x0)).setCell ⟨D180, 1, none⟩ (.int .i64 x1)) = k191 at *
            have hHeld := hHeld2
            clear hHeld2
            refine wpAnyH_ready (rs := [13]) (by kernel_rfl) (by simp) (AllReadyH.cons (o := _) rfl (fun K hK => ?_) AllReadyH.nil)
            have z192 := H190.out.cell 0 rfl 0 rfl
            have z193 := H190.out.free 0 rfl 0
            have z194 := H190.out.cell 0 rfl 1 rfl
            have z195 := H190.out.free 0 rfl 1
            have H196 := hid (show St _ _ (.cells D183 #[.int .i64 y0, .int .i64 y1] 94 :: _) _ _ from ((H190.out.set 0 rfl 0 (.int .i64 y0)).set 0 rfl 1 (.int .i64 y1)))
            go_simp
            refine hK.out _ _ ?_ (fun hHeld2 => ?_)
            focus ((try dsimp only); (exact ⟨(by have := (arr_pair (H196.out.arrE 3 rfl) (i := T) (by have := HTL.out; omega)).1; rw [HX.out] at this; exact this), (by have := (arr_pair (H196.out.arrE 3 rfl) (i := T) (by have := HTL.out; omega)).2; rw [HX.out] at this; exact this), (by have := (arr_pair (H196.out.arrE 3 rfl) (i := T1) (by have := HTL.out; omega)).1; rw [HY.out] at this; exact this), (by have := (arr_pair (H196.out.arrE 3 rfl) (i := T1) (by have := HTL.out; omega)).2; rw [HY.out] at this; exact this)⟩))
            clear hK K hHeld
            try simp only [Act.put, p1, p2, p3, p4, p5, p6]
            clear z192 z193 z194 z195
            generalize ((k191.setCell ⟨D183, 0, none⟩ (.int .i64 y0)).setCell ⟨D183, 1, none⟩ (.int .i64 y1)) = k197 at *
            have hHeld := hHeld2
            clear hHeld2
            refine wpAnyH_done (by kernel_rfl) ?_ _
            try clear hHeld
            clear t1 t2 t3 t4 t5
            have z198 := H196.out.cell 2 rfl 0 rfl
            have z199 := H196.out.cell 2 rfl 1 rfl
            have z200 := H196.out.cell 1 rfl 0 rfl
            have z201 := H196.out.cell 1 rfl 1 rfl
            have z202 := H196.out.cell 0 rfl 0 rfl
            have z203 := H196.out.cell 0 rfl 1 rfl
            go_wp2_with fail
            clear z198 z199 z200 z201 z202 z203
            refine (papply_any _ _ _ _ _ _ _ ⟨hc3, oc11⟩ HXA.out.1 HXA.out.2 HYA.out.1 HYA.out.2).mono ?_
            rintro e w204 ⟨⟨l9, h9, rfl, hlh⟩, hb⟩
            have H205 := hid (H196.out.call hb)
            clear hb
            obtain ⟨b206, hb206⟩ : ∃ xx', pwIok oc og (x0, x1) (y0, y1) 0 0 = xx' := ⟨_, rfl⟩
            rw [hb206] at hlh ⊢
            have HNb206 := hid hb206
            clear hb206
            have HLH := hid hlh
            clear hlh
            obtain ⟨D207, hD207⟩ : ∃ D, w204.heap.size = D := ⟨_, rfl⟩
            go_upto_region 21 with fail
            have H208 := hid (H205.out.alloc #[.int .i64 l9, .int .i64 h9] 94 hD207)
            first | refine gen_code H208.out ?_ | refine gen_list H208.out ?_ | refine gen_calls H208.out ?_
            intro w209 hG
            clear H208
            have H208 := hid hG
            clear hG
            clear hD207
            cases b206 with
            | true =>
             go_upto_region 23 with fail
             have hlh := (show l9 = _ ∧ h9 = _ from by first | exact HLH.out rfl | exact HLH.out trivial | exact HLH.out)
             have HPK := hid (show pwIok oc og (st.getD (pwK oc - 1) (0, 0)) (st.getD 0 (0, 0)) u v = true from by rw [HXS.out, HYS.out, pwIok_src hc3]; exact HNb206.out)
             have HPV := hid (show pwInt oc og (st.getD (pwK oc - 1) (0, 0)) (st.getD 0 (0, 0)) u v = (l9, h9) from by rw [HXS.out, HYS.out, pwInt_src hc3, hlh.1, hlh.2])
             have HPA := hid (show accOk l9 = true ∧ accOk h9 = true from by have := pwIok_lo HPK.out; rw [HPV.out] at this; exact this)
             clear hlh
             obtain ⟨t1, t2⟩ : (T : Int) ≤ ln ∧ (ln : Int) ≤ sc := by have := HTL.out; have := arr_cap (H208.out.arrE 4 rfl); omega
             have t3 : (T : Int) ≤ sc := by omega
             have t4 : 0 ≤ (T : Int) := by omega
             have H210 := hid (H208.out.take 4 rfl (k := T) (by have := HTL.out; omega))
             rw [prV_take] at H210
             go_upto_region 23 with fail
             have H211 := hid H210.out.drew
             refine wp_region_held_drew (S := (fun w' => w'.cell? ⟨D207, 0, none⟩ = some (.int .i64 l9) ∧ w'.cell? ⟨D207, 1, none⟩ = some (.int .i64 h9))) (by kernel_rfl) ⟨H211.out.cell 0 rfl 0 rfl, H211.out.cell 0 rfl 1 rfl⟩ (fun hHeld => ?_)
             generalize w209.drew = k212 at *
             refine tkA 0 ?_
             try simp only [Act.put, p1, p2, p3, p4, p5, p6]
             refine tkA 1 ?_
             try simp only [Act.put, p1, p2, p3, p4, p5, p6]
             refine tkA 2 ?_
             try simp only [Act.put, p1, p2, p3, p4, p5, p6]
             refine tkA 3 ?_
             try simp only [Act.put, p1, p2, p3, p4, p5, p6]
             refine wpAnyH_ready (rs := [4]) (by kernel_rfl) (by simp) (AllReadyH.cons (o := _) rfl (fun K hK => ?_) AllReadyH.nil)
             obtain ⟨D213, hD213⟩ : ∃ D, k212.heap.size = D := ⟨_, rfl⟩
             have H214 := hid (H211.out.alloc #[.int .i64 l9, .int .i64 h9] 94 hD213)
             go_simp
             refine hK.out _ _ ?_ (fun hHeld2 => ?_)
             focus ((try dsimp only); (exact ⟨H214.out.cell 1 rfl 0 rfl, H214.out.cell 1 rfl 1 rfl⟩))
             clear hK K hHeld
             try simp only [Act.put, p1, p2, p3, p4, p5, p6]
             clear hD213
             generalize (k212.alloc (.cells #[.int .i64 l9, .int .i64 h9] 94)) = k215 at *
             have hHeld := hHeld2
             clear hHeld2
             refine wpAnyH_ready (rs := [5]) (by kernel_rfl) (by simp) (AllReadyH.cons (o := _) rfl (fun K hK => ?_) AllReadyH.nil)
             rw [if_pos (by rfl)]
             refine oper_append_vals _ _ 92 94 2 16 (.agg #[.int .i64 0, .int .i64 0]) Try.underlying92 info_ivl rfl (by decide) (by decide) rfl B _ _ _ D213 1 1 [.int .i64 l9, .int .i64 h9] rfl rfl rfl (H214.out.arrE 5 rfl) (lit_news H214.out 0 [.int .i64 l9, .int .i64 h9] rfl) (by intro u hu; simp at hu; rcases hu with rfl | rfl <;> rfl) (by omega) H214.out.size ?_
             intro v9a k217 ho hg hv
             have H216 := hid (H214.out.appendE 5 rfl ho hg hv)
             clear ho hg hv
             obtain ⟨g219, c220, hva⟩ := arr_pos (H216.out.arrE 5 rfl) (by omega)
             subst hva
             rw [show prV (L.take T) ++ [.int .i64 l9, .int .i64 h9] = prV ((L.take T) ++ [(l9, h9)]) from by rw [prV_app]; rfl] at H216
             refine hK.out _ _ ?_ (fun hHeld2 => ?_)
             focus ((try dsimp only); (exact ⟨H216.out.cell 1 rfl 0 rfl, H216.out.cell 1 rfl 1 rfl⟩))
             clear hK K
             try simp only [Act.put, p1, p2, p3, p4, p5, p6]
             clear hHeld
             have hHeld := hHeld2
             clear hHeld2
             refine tkA 6 ?_
             try simp only [Act.put, p1, p2, p3, p4, p5, p6]
             refine wpAnyH_done (by kernel_rfl) ?_ _
             try clear hHeld
             go_wp2_with fail
             go_roundw
             case rel => exact ⟨j + 1, (l9, h9) :: st.drop (pwK oc), ((L.take T) ++ [(l9, h9)]), (some ⟨g219, 0, none⟩), (T + 1), c220, by omega, by go_num, rfl, stk_take HLS.out HTK.out _, vGo_step HVR.out HKL.out (by simp only [List.length_cons, List.length_drop]; have := HKL.out; omega), iGo_step HG.out HD.out HPV.out HPK.out, by simp only [List.length_cons, List.length_drop]; have := HKL.out; omega, allAcc.step HA.out HPA.out _, H216.out.pick [5] rfl (by decide)⟩
             case measure => first | (simp [intOf]; omega) | (simp [intOf]; done)
            | false =>
             go_wp2_with fail
             go_ret3
             exact ⟨by rw [HEV.out, iGo_stop HG.out HD.out (by rw [HXS.out, HYS.out, pwIok_src hc3]; exact HNb206.out)]; rfl, by first | exact H208.out.below | exact H208.out.below'⟩
           ·
            obtain ⟨D221, hD221⟩ : ∃ D, k179.heap.size = D := ⟨_, rfl⟩
            have H222 := hid (H178.out.alloc #[.int .i64 0, .int .i64 0] 94 hD221)
            go_simp
            refine hK.out _ _ ?_ (fun hHeld2 => ?_)
            focus ((try dsimp only); (exact ⟨(by have := (arr_pair (H222.out.arrE 2 rfl) (i := T) (by have := HTL.out; omega)).1; rw [HX.out] at this; exact this), (by have := (arr_pair (H222.out.arrE 2 rfl) (i := T) (by have := HTL.out; omega)).2; rw [HX.out] at this; exact this), (by have := (arr_pair (H222.out.arrE 2 rfl) (i := T1) (by have := HTL.out; omega)).1; rw [HY.out] at this; exact this), (by have := (arr_pair (H222.out.arrE 2 rfl) (i := T1) (by have := HTL.out; omega)).2; rw [HY.out] at this; exact this)⟩))
            clear hK K hHeld
            try simp only [Act.put, p1, p2, p3, p4, p5, p6]
            clear hD221
            generalize (k179.alloc (.cells #[.int .i64 0, .int .i64 0] 94)) = k223 at *
            have hHeld := hHeld2
            clear hHeld2
            refine wpAnyH_ready (rs := [10]) (by kernel_rfl) (by simp) (AllReadyH.cons (o := _) rfl (fun K hK => ?_) AllReadyH.nil)
            obtain ⟨D224, hD224⟩ : ∃ D, k223.heap.size = D := ⟨_, rfl⟩
            have H225 := hid (H222.out.alloc #[.int .i64 0, .int .i64 0] 94 hD224)
            go_simp
            refine hK.out _ _ ?_ (fun hHeld2 => ?_)
            focus ((try dsimp only); (exact ⟨(by have := (arr_pair (H225.out.arrE 3 rfl) (i := T) (by have := HTL.out; omega)).1; rw [HX.out] at this; exact this), (by have := (arr_pair (H225.out.arrE 3 rfl) (i := T) (by have := HTL.out; omega)).2; rw [HX.out] at this; exact this), (by have := (arr_pair (H225.out.arrE 3 rfl) (i := T1) (by have := HTL.out; omega)).1; rw [HY.out] at this; exact this), (by have := (arr_pair (H225.out.arrE 3 rfl) (i := T1) (by have := HTL.out; omega)).2; rw [HY.out] at this; exact this)⟩))
            clear hK K hHeld
            try simp only [Act.put, p1, p2, p3, p4, p5, p6]
            clear hD224
            generalize (k223.alloc (.cells #[.int .i64 0, .int .i64 0] 94)) = k226 at *
            have hHeld := hHeld2
            clear hHeld2
            refine wpAnyH_ready (rs := [12]) (by kernel_rfl) (by simp) (AllReadyH.cons (o := _) rfl (fun K hK => ?_) AllReadyH.nil)
            have z227 := H225.out.cell 0 rfl 0 rfl
            have z228 := H225.out.free 0 rfl 0
            have z229 := H225.out.cell 0 rfl 1 rfl
            have z230 := H225.out.free 0 rfl 1
            have H231 := hid (show St _ _ (.cells D224 #[.int .i64 x0, .int .i64 x1] 94 :: _) _ _ from ((H225.out.set 0 rfl 0 (.int .i64 x0)).set 0 rfl 1 (.int .i64 x1)))
            go_simp
            refine hK.out _ _ ?_ (fun hHeld2 => ?_)
            focus ((try dsimp only); (exact ⟨(by have := (arr_pair (H231.out.arrE 3 rfl) (i := T) (by have := HTL.out; omega)).1; rw [HX.out] at this; exact this), (by have := (arr_pair (H231.out.arrE 3 rfl) (i := T) (by have := HTL.out; omega)).2; rw [HX.out] at this; exact this), (by have := (arr_pair (H231.out.arrE 3 rfl) (i := T1) (by have := HTL.out; omega)).1; rw [HY.out] at this; exact this), (by have := (arr_pair (H231.out.arrE 3 rfl) (i := T1) (by have := HTL.out; omega)).2; rw [HY.out] at this; exact this)⟩))
            clear hK K hHeld
            try simp only [Act.put, p1, p2, p3, p4, p5, p6]
            clear z227 z228 z229 z230
            generalize ((k226.setCell ⟨D224, 0, none⟩ (.int .i64 x0)).setCell ⟨D224, 1, none⟩ (.int .i64 x1)) = k232 at *
            have hHeld := hHeld2
            clear hHeld2
            refine wpAnyH_ready (rs := [13]) (by kernel_rfl) (by simp) (AllReadyH.cons (o := _) rfl (fun K hK => ?_) AllReadyH.nil)
            have z233 := H231.out.cell 1 rfl 0 rfl
            have z234 := H231.out.free 1 rfl 0
            have z235 := H231.out.cell 1 rfl 1 rfl
            have z236 := H231.out.free 1 rfl 1
            have H237 := hid (show St _ _ (_ :: .cells D221 #[.int .i64 y0, .int .i64 y1] 94 :: _) _ _ from ((H231.out.set 1 rfl 0 (.int .i64 y0)).set 1 rfl 1 (.int .i64 y1)))
            go_simp
            refine hK.out _ _ ?_ (fun hHeld2 => ?_)
            focus ((try dsimp only); (exact ⟨(by have := (arr_pair (H237.out.arrE 3 rfl) (i := T) (by have := HTL.out; omega)).1; rw [HX.out] at this; exact this), (by have := (arr_pair (H237.out.arrE 3 rfl) (i := T) (by have := HTL.out; omega)).2; rw [HX.out] at this; exact this), (by have := (arr_pair (H237.out.arrE 3 rfl) (i := T1) (by have := HTL.out; omega)).1; rw [HY.out] at this; exact this), (by have := (arr_pair (H237.out.arrE 3 rfl) (i := T1) (by have := HTL.out; omega)).2; rw [HY.out] at this; exact this)⟩))
            clear hK K hHeld
            try simp only [Act.put, p1, p2, p3, p4, p5, p6]
            clear z233 z234 z235 z236
            generalize ((k232.setCell ⟨D221, 0, none⟩ (.int .i64 y0)).setCell ⟨D221, 1, none⟩ (.int .i64 y1)) = k238 at *
            have hHeld := hHeld2
            clear hHeld2
            refine wpAnyH_done (by kernel_rfl) ?_ _
            try clear hHeld
            clear t1 t2 t3 t4 t5
            have z239 := H237.out.cell 2 rfl 0 rfl
            have z240 := H237.out.cell 2 rfl 1 rfl
            have z241 := H237.out.cell 0 rfl 0 rfl
            have z242 := H237.out.cell 0 rfl 1 rfl
            have z243 := H237.out.cell 1 rfl 0 rfl
            have z244 := H237.out.cell 1 rfl 1 rfl
            go_wp2_with fail
            clear z239 z240 z241 z242 z243 z244
            refine (papply_any _ _ _ _ _ _ _ ⟨hc3, oc11⟩ HXA.out.1 HXA.out.2 HYA.out.1 HYA.out.2).mono ?_
            rintro e w245 ⟨⟨l9, h9, rfl, hlh⟩, hb⟩
            have H246 := hid (H237.out.call hb)
            clear hb
            obtain ⟨b247, hb247⟩ : ∃ xx', pwIok oc og (x0, x1) (y0, y1) 0 0 = xx' := ⟨_, rfl⟩
            rw [hb247] at hlh ⊢
            have HNb247 := hid hb247
            clear hb247
            have HLH := hid hlh
            clear hlh
            obtain ⟨D248, hD248⟩ : ∃ D, w245.heap.size = D := ⟨_, rfl⟩
            go_upto_region 21 with fail
            have H249 := hid (H246.out.alloc #[.int .i64 l9, .int .i64 h9] 94 hD248)
            first | refine gen_code H249.out ?_ | refine gen_list H249.out ?_ | refine gen_calls H249.out ?_
            intro w250 hG
            clear H249
            have H249 := hid hG
            clear hG
            clear hD248
            cases b247 with
            | true =>
             go_upto_region 23 with fail
             have hlh := (show l9 = _ ∧ h9 = _ from by first | exact HLH.out rfl | exact HLH.out trivial | exact HLH.out)
             have HPK := hid (show pwIok oc og (st.getD (pwK oc - 1) (0, 0)) (st.getD 0 (0, 0)) u v = true from by rw [HXS.out, HYS.out, pwIok_src hc3]; exact HNb247.out)
             have HPV := hid (show pwInt oc og (st.getD (pwK oc - 1) (0, 0)) (st.getD 0 (0, 0)) u v = (l9, h9) from by rw [HXS.out, HYS.out, pwInt_src hc3, hlh.1, hlh.2])
             have HPA := hid (show accOk l9 = true ∧ accOk h9 = true from by have := pwIok_lo HPK.out; rw [HPV.out] at this; exact this)
             clear hlh
             obtain ⟨t1, t2⟩ : (T : Int) ≤ ln ∧ (ln : Int) ≤ sc := by have := HTL.out; have := arr_cap (H249.out.arrE 4 rfl); omega
             have t3 : (T : Int) ≤ sc := by omega
             have t4 : 0 ≤ (T : Int) := by omega
             have H251 := hid (H249.out.take 4 rfl (k := T) (by have := HTL.out; omega))
             rw [prV_take] at H251
             go_upto_region 23 with fail
             have H252 := hid H251.out.drew
             refine wp_region_held_drew (S := (fun w' => w'.cell? ⟨D248, 0, none⟩ = some (.int .i64 l9) ∧ w'.cell? ⟨D248, 1, none⟩ = some (.int .i64 h9))) (by kernel_rfl) ⟨H252.out.cell 0 rfl 0 rfl, H252.out.cell 0 rfl 1 rfl⟩ (fun hHeld => ?_)
             generalize w250.drew = k253 at *
             refine tkA 0 ?_
             try simp only [Act.put, p1, p2, p3, p4, p5, p6]
             refine tkA 1 ?_
             try simp only [Act.put, p1, p2, p3, p4, p5, p6]
             refine tkA 2 ?_
             try simp only [Act.put, p1, p2, p3, p4, p5, p6]
             refine tkA 3 ?_
             try simp only [Act.put, p1, p2, p3, p4, p5, p6]
             refine wpAnyH_ready (rs := [4]) (by kernel_rfl) (by simp) (AllReadyH.cons (o := _) rfl (fun K hK => ?_) AllReadyH.nil)
             obtain ⟨D254, hD254⟩ : ∃ D, k253.heap.size = D := ⟨_, rfl⟩
             have H255 := hid (H252.out.alloc #[.int .i64 l9, .int .i64 h9] 94 hD254)
             go_simp
             refine hK.out _ _ ?_ (fun hHeld2 => ?_)
             focus ((try dsimp only); (exact ⟨H255.out.cell 1 rfl 0 rfl, H255.out.cell 1 rfl 1 rfl⟩))
             clear hK K hHeld
             try simp only [Act.put, p1, p2, p3, p4, p5, p6]
             clear hD254
             generalize (k253.alloc (.cells #[.int .i64 l9, .int .i64 h9] 94)) = k256 at *
             have hHeld := hHeld2
             clear hHeld2
             refine wpAnyH_ready (rs := [5]) (by kernel_rfl) (by simp) (AllReadyH.cons (o := _) rfl (fun K hK => ?_) AllReadyH.nil)
             rw [if_pos (by rfl)]
             refine oper_append_vals _ _ 92 94 2 16 (.agg #[.int .i64 0, .int .i64 0]) Try.underlying92 info_ivl rfl (by decide) (by decide) rfl B _ _ _ D254 1 1 [.int .i64 l9, .int .i64 h9] rfl rfl rfl (H255.out.arrE 5 rfl) (lit_news H255.out 0 [.int .i64 l9, .int .i64 h9] rfl) (by intro u hu; simp at hu; rcases hu with rfl | rfl <;> rfl) (by omega) H255.out.size ?_
             intro v9a k258 ho hg hv
             have H257 := hid (H255.out.appendE 5 rfl ho hg hv)
             clear ho hg hv
             obtain ⟨g260, c261, hva⟩ := arr_pos (H257.out.arrE 5 rfl) (by omega)
             subst hva
             rw [show prV (L.take T) ++ [.int .i64 l9, .int .i64 h9] = prV ((L.take T) ++ [(l9, h9)]) from by rw [prV_app]; rfl] at H257
             refine hK.out _ _ ?_ (fun hHeld2 => ?_)
             focus ((try dsimp only); (exact ⟨H257.out.cell 1 rfl 0 rfl, H257.out.cell 1 rfl 1 rfl⟩))
             clear hK K
             try simp only [Act.put, p1, p2, p3, p4, p5, p6]
             clear hHeld
             have hHeld := hHeld2
             clear hHeld2
             refine tkA 6 ?_
             try simp only [Act.put, p1, p2, p3, p4, p5, p6]
             refine wpAnyH_done (by kernel_rfl) ?_ _
             try clear hHeld
             go_wp2_with fail
             go_roundw
             case rel => exact ⟨j + 1, (l9, h9) :: st.drop (pwK oc), ((L.take T) ++ [(l9, h9)]), (some ⟨g260, 0, none⟩), (T + 1), c261, by omega, by go_num, rfl, stk_take HLS.out HTK.out _, vGo_step HVR.out HKL.out (by simp only [List.length_cons, List.length_drop]; have := HKL.out; omega), iGo_step HG.out HD.out HPV.out HPK.out, by simp only [List.length_cons, List.length_drop]; have := HKL.out; omega, allAcc.step HA.out HPA.out _, H257.out.pick [5] rfl (by decide)⟩
             case measure => first | (simp [intOf]; omega) | (simp [intOf]; done)
            | false =>
             go_wp2_with fail
             go_ret3
             exact ⟨by rw [HEV.out, iGo_stop HG.out HD.out (by rw [HXS.out, HYS.out, pwIok_src hc3]; exact HNb247.out)]; rfl, by first | exact H249.out.below | exact H249.out.below'⟩
       ·
        skip
        have hjn' : ¬ ((j : Int) < n) := by omega
        have HE := hid (show zs.drop j = [] from List.drop_eq_nil_of_le (by have := HL.out; omega))
        have hs1 : st.length = 1 := vGo_nil (by rw [← HE.out]; exact HVG.out)
        obtain ⟨q1, q2⟩ : 1 ≤ ln ∧ ln ≤ 1 := by omega
        have q3 : 0 < ln := by omega
        have q4 : (0 : Int) < ln := by omega
        obtain ⟨z0, z1, hz⟩ : ∃ z0 z1, L.getD 0 (0, 0) = (z0, z1) := ⟨_, _, rfl⟩
        have HZ := hid (show ivR zs u v = (z0, z1, 0) from by rw [HEV.out, ← HG.out, HE.out]; unfold iGo; rw [show st.headD (0, 0) = (z0, z1) from by rw [← hz, stk_get (K := 1) (0, 0) HLS.out (by omega) (by omega), List.headD_eq_head?_getD, List.getD_eq_getElem?_getD, List.head?_eq_getElem?]])
        obtain ⟨g, cc, hgg⟩ := arr_pos (H137.out.arrE 0 rfl) (by omega)
        injection hgg with hga hgb hgc
        subst hga
        clear hgb hgc
        go_upto_region 25 with fail
        have H262 := hid H137.out.drew
        refine wp_region_held_drew (S := (fun w' => w'.cell? ⟨g, 0, none⟩ = some (.int .i64 z0) ∧ w'.cell? ⟨g, 1, none⟩ = some (.int .i64 z1))) (by kernel_rfl) ⟨(by have := (arr_pair (H262.out.arrE 0 rfl) (i := 0) (by omega)).1; rw [hz] at this; exact this), (by have := (arr_pair (H262.out.arrE 0 rfl) (i := 0) (by omega)).2; rw [hz] at this; exact this)⟩ (fun hHeld => ?_)
        generalize u136.drew = k263 at *
        refine tkA 0 ?_
        try simp only [Act.put, p1, p2, p3, p4, p5, p6]
        refine tkA 1 ?_
        try simp only [Act.put, p1, p2, p3, p4, p5, p6]
        refine tkA 2 ?_
        try simp only [Act.put, p1, p2, p3, p4, p5, p6]
        refine tkA 3 ?_
        try simp only [Act.put, p1, p2, p3, p4, p5, p6]
        refine tkA 4 ?_
        try simp only [Act.put, p1, p2, p3, p4, p5, p6]
        refine tkA 5 ?_
        try simp only [Act.put, p1, p2, p3, p4, p5, p6]
        refine tkA 6 ?_
        try simp only [Act.put, p1, p2, p3, p4, p5, p6]
        refine tkA 7 ?_
        try simp only [Act.put, p1, p2, p3, p4, p5, p6]
        refine tkA 8 ?_
        try simp only [Act.put, p1, p2, p3, p4, p5, p6]
        refine tkA 9 ?_
        try simp only [Act.put, p1, p2, p3, p4, p5, p6]
        refine tkA 10 ?_
        try simp only [Act.put, p1, p2, p3, p4, p5, p6]
        refine wpAnyH_done (by kernel_rfl) ?_ _
        try clear hHeld
        go_wp2_with fail
        go_ret3
        exact ⟨by rw [HZ.out]; rfl, by first | exact H262.out.below | exact H262.out.below'⟩
 ·
  have c130a : ((k129 : Int) == (0)) = false := by simpa using c130
  have c130b : ((k129 : Int) != (0)) = true := by simpa using c130
  have c130h := hid c130
  clear c130
  go_wp2_with fail
  go_ret3
  exact ⟨by rw [ivR_bad HNk129.out (by have := c130h.out; omega)]; rfl, by first | exact H128.out.below | exact H128.out.below'⟩
end Go.Proofs.Yteejjnhlfgjlaaa
