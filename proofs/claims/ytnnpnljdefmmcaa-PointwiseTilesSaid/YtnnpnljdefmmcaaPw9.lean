/-
  Contracts: the value of a program, with its errors, in the program and in the reference.
-/
import Derived.Test.YtnnpnljdefmmcaaPw8
namespace Go.Proofs.Ytnnpnljdefmmcaa
open Go.RowKit
attribute [local go_sem ↓] Go.wp_at_zero Go.wp_at_succ
set_option linter.unusedVariables false
set_option linter.unusedSimpArgs false

theorem own_cases {B : Nat} {w : World} {sa : Option Addr} {ln sc : Nat} {L : List Int} (h : Own B w (.slice sa ln sc) L) (j n : Nat) :
    (j < n ∧ sa = none ∧ ln = 0 ∧ sc = 0 ∧ L = []) ∨ (j < n ∧ ∃ g, sa = some ⟨g, 0, none⟩) ∨ ¬ j < n := by
  by_cases hj : j < n
  · rcases h.form with ⟨e, e0⟩ | ⟨g, c', e, _⟩
    · cases e; exact .inl ⟨hj, rfl, rfl, rfl, e0⟩
    · cases e; exact .inr (.inl ⟨hj, g, rfl⟩)
  · exact .inr (.inr hj)
theorem pwVal_k0 {c : Int} (h : 0 ≤ c) (h' : pwK c = 0) (g x y x' y' a b : Int) : pwVal c g x y a b = pwVal c g x' y' a b := by
  have : c ≤ 2 := by unfold pwK at h'; split at h' <;> (try split at h') <;> omega
  unfold pwVal
  rcases (show c = 0 ∨ c = 1 ∨ c = 2 by omega) with rfl | rfl | rfl <;> rfl
theorem pwVal_k1 {c : Int} (h : c ≤ 11) (h' : pwK c = 1) (g x y y' a b : Int) : pwVal c g x y a b = pwVal c g x y' a b := by
  have : 10 ≤ c := by unfold pwK at h'; split at h' <;> (try split at h') <;> omega
  unfold pwVal
  rcases (show c = 10 ∨ c = 11 by omega) with rfl | rfl <;> rfl
theorem evR_bad {l : List (Int × Int)} {a b k : Int} (h : vCode l true = k) (hk : k ≠ 0) : evR l a b = (0, k) := by unfold evR; rw [h, if_pos hk]
theorem evR_range {l : List (Int × Int)} {a b : Int} (h : vCode l true = 0) (hk : ¬ (pixOk a = true ∧ pixOk b = true)) : evR l a b = (0, 2) := by unfold evR; rw [h, if_neg (by simp), if_pos hk]
theorem evR_go {l : List (Int × Int)} {a b : Int} (h : vCode l true = 0) (ha : pixOk a = true) (hb : pixOk b = true) : evR l a b = eGo l [] a b := by unfold evR; rw [h, if_neg (by simp), if_neg (by simp [ha, hb])]

set_option maxRecDepth 100000 in
set_option maxHeartbeats 6400000 in
theorem peval_any (a : Option Addr) (n c : Nat) (zs : List (Int × Int)) (u v : Int) (W : World) (hs : Prs W a n c zs) : Calls Try.prog 35 #[.slice a n c, .int .i64 u, .int .i64 v] W fun e w' => e = .returned (.tuple #[.int .i64 (evR zs u v).1, .int .i64 (evR zs u v).2]) ∧ Below W.heap.size W w' := by
  obtain ⟨B, hB⟩ : ∃ B, W.heap.size = B := ⟨_, rfl⟩
  have HI0 := hid (St.init hB)
  have HS := hid hs
  have HL := hid hs.len
  have nmx : (n : Int) ≤ 9223372036854775807 := by have := hs.nc; have := hs.cap; omega
  clear hs
  go_enter Try.func35, Try.ntmps35
  go_wp2_with fail
  refine (pvalid_any14 _ _ _ _ true _ (HI0.out.oldPrs HS.out)).mono ?_
  rintro e w127 ⟨rfl, hb⟩
  have H128 := hid (HI0.out.call hb)
  clear hb
  obtain ⟨k129, hk129⟩ : ∃ xx', vCode zs true = xx' := ⟨_, rfl⟩
  rw [hk129]
  have HNk129 := hid hk129
  clear hk129
  by_cases c130 : (k129 : Int) = 0
  · obtain ⟨c130c, c130d⟩ : (k129 : Int) ≤ 0 ∧ (0 : Int) ≤ k129 := by omega
    have c130a : ((k129 : Int) == (0)) = true := by simpa using c130
    have c130b : ((k129 : Int) != (0)) = false := by simpa using c130
    have c130h := hid c130
    clear c130
    by_cases c131 : (u : Int) < 0
    · skip
      go_wp2_with fail
      go_ret2
      exact ⟨by rw [evR_range (by rw [HNk129.out]; have := c130h.out; omega) (by rw [pixOk_iff, pixOk_iff]; have := c130h.out; omega)]; rfl, by first | exact H128.out.below | exact H128.out.below'⟩
    · skip
      by_cases c132 : (4294967296 : Int) < u
      · skip
        go_wp2_with fail
        go_ret2
        exact ⟨by rw [evR_range (by rw [HNk129.out]; have := c130h.out; omega) (by rw [pixOk_iff, pixOk_iff]; have := c130h.out; omega)]; rfl, by first | exact H128.out.below | exact H128.out.below'⟩
      · skip
        by_cases c133 : (v : Int) < 0
        · skip
          go_wp2_with fail
          go_ret2
          exact ⟨by rw [evR_range (by rw [HNk129.out]; have := c130h.out; omega) (by rw [pixOk_iff, pixOk_iff]; have := c130h.out; omega)]; rfl, by first | exact H128.out.below | exact H128.out.below'⟩
        · skip
          by_cases c134 : (4294967296 : Int) < v
          · skip
            go_wp2_with fail
            go_ret2
            exact ⟨by rw [evR_range (by rw [HNk129.out]; have := c130h.out; omega) (by rw [pixOk_iff, pixOk_iff]; have := c130h.out; omega)]; rfl, by first | exact H128.out.below | exact H128.out.below'⟩
          · skip
            go_wp2_with fail
            have HEV := hid (evR_go (l := zs) (a := u) (b := v) (by rw [HNk129.out]; have := c130h.out; omega) (pixOk_iff.2 (by have := c130h.out; omega)) (pixOk_iff.2 (by have := c130h.out; omega)))
            refine (prun_any _ _ _ _ _ _ _ (H128.out.oldPrs HS.out) (by rw [HNk129.out]; have := c130h.out; omega) (pixOk_iff.2 (by have := c130h.out; omega)) (pixOk_iff.2 (by have := c130h.out; omega))).mono ?_
            rintro e w135 ⟨rfl, hb⟩
            have H136 := hid (H128.out.call hb)
            clear hb
            obtain ⟨r137, hr137⟩ : ∃ xx', (eGo zs [] u v).1 = xx' := ⟨_, rfl⟩
            rw [hr137]
            have HNr137 := hid hr137
            clear hr137
            obtain ⟨r138, hr138⟩ : ∃ xx', (eGo zs [] u v).2 = xx' := ⟨_, rfl⟩
            rw [hr138]
            have HNr138 := hid hr138
            clear hr138
            go_wp2_with fail
            go_ret2
            exact ⟨by rw [HEV.out, HNr137.out, HNr138.out]; rfl, by first | exact H136.out.below | exact H136.out.below'⟩
  · have c130a : ((k129 : Int) == (0)) = false := by simpa using c130
    have c130b : ((k129 : Int) != (0)) = true := by simpa using c130
    have c130h := hid c130
    clear c130
    go_wp2_with fail
    go_ret2
    exact ⟨by rw [evR_bad HNk129.out (by have := c130h.out; omega)]; rfl, by first | exact H128.out.below | exact H128.out.below'⟩

set_option maxRecDepth 100000 in
set_option maxHeartbeats 6400000 in
theorem reval_any (a : Option Addr) (n c : Nat) (zs : List (Int × Int)) (u v : Int) (W : World) (hs : Prs W a n c zs) : Calls Try.prog 36 #[.slice a n c, .int .i64 u, .int .i64 v] W fun e w' => e = .returned (.tuple #[.int .i64 (evR zs u v).1, .int .i64 (evR zs u v).2]) ∧ Below W.heap.size W w' := by
  obtain ⟨B, hB⟩ : ∃ B, W.heap.size = B := ⟨_, rfl⟩
  have HI0 := hid (St.init hB)
  have HS := hid hs
  have HL := hid hs.len
  have nmx : (n : Int) ≤ 9223372036854775807 := by have := hs.nc; have := hs.cap; omega
  clear hs
  go_enter Try.func36, Try.ntmps36
  go_wp2_with fail
  refine (rvalid_any14 _ _ _ _ true _ (HI0.out.oldPrs HS.out)).mono ?_
  rintro e w139 ⟨rfl, hb⟩
  have H140 := hid (HI0.out.call hb)
  clear hb
  obtain ⟨k141, hk141⟩ : ∃ xx', vCode zs true = xx' := ⟨_, rfl⟩
  rw [hk141]
  have HNk141 := hid hk141
  clear hk141
  by_cases c142 : (k141 : Int) = 0
  · obtain ⟨c142c, c142d⟩ : (k141 : Int) ≤ 0 ∧ (0 : Int) ≤ k141 := by omega
    have c142a : ((k141 : Int) == (0)) = true := by simpa using c142
    have c142b : ((k141 : Int) != (0)) = false := by simpa using c142
    have c142h := hid c142
    clear c142
    by_cases c143 : (u : Int) < 0
    · skip
      go_wp2_with fail
      go_ret2
      exact ⟨by rw [evR_range (by rw [HNk141.out]; have := c142h.out; omega) (by rw [pixOk_iff, pixOk_iff]; have := c142h.out; omega)]; rfl, by first | exact H140.out.below | exact H140.out.below'⟩
    · skip
      by_cases c144 : (4294967296 : Int) < u
      · skip
        go_wp2_with fail
        go_ret2
        exact ⟨by rw [evR_range (by rw [HNk141.out]; have := c142h.out; omega) (by rw [pixOk_iff, pixOk_iff]; have := c142h.out; omega)]; rfl, by first | exact H140.out.below | exact H140.out.below'⟩
      · skip
        by_cases c145 : (v : Int) < 0
        · skip
          go_wp2_with fail
          go_ret2
          exact ⟨by rw [evR_range (by rw [HNk141.out]; have := c142h.out; omega) (by rw [pixOk_iff, pixOk_iff]; have := c142h.out; omega)]; rfl, by first | exact H140.out.below | exact H140.out.below'⟩
        · skip
          by_cases c146 : (4294967296 : Int) < v
          · skip
            go_wp2_with fail
            go_ret2
            exact ⟨by rw [evR_range (by rw [HNk141.out]; have := c142h.out; omega) (by rw [pixOk_iff, pixOk_iff]; have := c142h.out; omega)]; rfl, by first | exact H140.out.below | exact H140.out.below'⟩
          · skip
            go_wp2_with fail
            have HV := hid (show vCode zs true = 0 from by rw [HNk141.out]; have := c142h.out; omega)
            have HEV := hid (evR_go (l := zs) (a := u) (b := v) HV.out (pixOk_iff.2 (by have := c142h.out; omega)) (pixOk_iff.2 (by have := c142h.out; omega)))
            obtain ⟨n1, n2⟩ : 1 ≤ n ∧ n ≤ 32 := by have := vCode_zero.1 HV.out; have := HL.out; omega
            have H147 := hid (show St B W [.own (.slice none 0 0) ([])] [] w139 from H140.out.grow (Below.refl _ _) (Own.nil _ _))
            go_loopw [10, 9] (fun i s wr => ∃ (j : Nat) (st L : List Int) (sa : Option Addr) (ln sc : Nat), j ≤ n ∧ i = .int .i64 j ∧ s = .slice sa ln sc ∧ L = st.reverse ∧ vGo (zs.drop j) true st.length = 0 ∧ eGo (zs.drop j) st u v = eGo zs [] u v ∧ st.length ≤ j ∧ accL st ∧ ln ≤ L.length ∧ L.length ≤ ln ∧ St B W [.own (.slice sa ln sc) L] [] wr) (fun i _ _ => n - (intOf i).toNat)
            case atStart => exact ⟨0, [], [], none, 0, 0, by omega, rfl, rfl, rfl, (vCode_zero.1 HV.out).2.2, rfl, by simp, accL_nil, by simp, by simp, H147.out⟩
            case round =>
              obtain ⟨j, st, L, sa, ln, sc, hj, rfl, rfl, hls, hvg, hg, hsl, ha, lx1, lx2, hst⟩ := hrel
              obtain ⟨u148, rfl⟩ : ∃ u148 : World, u148 = wr := ⟨_, rfl⟩
              have H149 := hid hst
              clear hst
              have HLS := hid hls
              have HVG := hid hvg
              have HG := hid hg
              have HA := hid ha
              obtain ⟨ll1, ll2⟩ : ln ≤ st.length ∧ st.length ≤ ln := by rw [hls, List.length_reverse] at lx1 lx2; omega
              clear hls hvg hg ha
              rcases own_cases (H149.out.own 0 rfl) j n with ⟨hjn, hsa, hln, hsc, hlz⟩ | ⟨hjn, g, hsa⟩ | hjn
              · skip
                subst hsa
                subst hln
                subst hsc
                clear hlz
                have hjn' : (j : Int) < n := by omega
                obtain ⟨pb, po, hpa⟩ := (H149.out.oldPrs HS.out).at (by omega)
                subst hpa
                obtain ⟨cz0, cz1⟩ := (H149.out.oldPrs HS.out).get (i := j) hjn
                obtain ⟨oc, og, hoo⟩ : ∃ x y, zs.getD j (0, 0) = (x, y) := ⟨_, _, rfl⟩
                have HD := hid (drop_one (by rw [← HL.out]; exact hjn) hoo)
                rw [hoo] at cz0 cz1
                dsimp only at cz0 cz1
                clear hoo
                obtain ⟨oc0, oc11, hoA, hoK, hoG, hoV⟩ : 0 ≤ oc ∧ oc ≤ 11 ∧ (oc = 1 → true = true) ∧ pwK oc ≤ st.length ∧ pwArg oc og = true ∧ vGo (zs.drop (j + 1)) true (st.length + 1 - pwK oc) = 0 := vGo_cons (by rw [← HD.out]; exact HVG.out)
                have HARG := hid hoG
                have HVR := hid hoV
                have HKL := hid hoK
                clear hoA hoK hoG hoV
                go_wp2_with fail
                refine (rtakes_any _ _).mono ?_
                rintro e w150 ⟨rfl, hsw⟩
                have hsw2 : u148 = w150 := by first | exact hsw | exact hsw.symm
                clear hsw
                subst hsw2
                obtain ⟨k151, hk151⟩ : ∃ xx', ((pwK oc : Nat) : Int) = xx' := ⟨_, rfl⟩
                rw [hk151]
                have HNk151 := hid hk151
                clear hk151
                go_upto_region 11 with fail
                have hk0 : pwK oc = 0 := by have := HKL.out; omega
                obtain rfl : k151 = 0 := by have := HNk151.out; omega
                clear HNk151
                have HK0 := hid hk0
                go_wp2_with fail
                refine (rapply_any _ _ _ _ _ _ _ ⟨oc0, oc11⟩ (by decide) (by decide)).mono ?_
                rintro e w152 ⟨⟨v9, rfl, hv9⟩, hb⟩
                have H153 := hid (H149.out.call hb)
                clear hb
                obtain ⟨b154, hb154⟩ : ∃ xx', accOk (pwVal oc og 0 0 u v) = xx' := ⟨_, rfl⟩
                rw [hb154] at hv9 ⊢
                have HNb154 := hid hb154
                clear hb154
                have HV9 := hid hv9
                clear hv9
                have HPP := hid (show pwVal oc og (st.getD (pwK oc - 1) 0) (st.getD 0 0) u v = pwVal oc og 0 0 u v from pwVal_k0 oc0 HK0.out _ _ _ _ _ _ _)
                cases b154 with
                | true =>
                  have hv9 := (show v9 = _ from by first | exact HV9.out rfl | exact HV9.out trivial)
                  have HPA := hid (show accOk v9 = true from by rw [hv9]; exact HNb154.out)
                  have HPV := hid (HPP.out.trans hv9.symm)
                  clear hv9
                  obtain ⟨D155, hD155⟩ : ∃ D, w152.heap.size = D := ⟨_, rfl⟩
                  have H156 := hid (show St B W [.cells D155 #[.int .i64 v9] 3, .own (.slice none 0 0) L] [] (w152.alloc (.cells #[.int .i64 v9] 3)) from (H153.out.alloc #[.int .i64 v9] 3 hD155))
                  go_upto_region 9 with (at_builtin; refine append_int rfl _ _ rfl B _ L v9 D155 1 rfl rfl (H156.out.own 1 rfl) (H156.out.cell 0 rfl 0 rfl) (by first | (rw [List.length_take]; omega) | omega) H156.out.size ?_; intro v159 w160 ho hg hv; have H157 := hid (H156.out.append 1 rfl ho hg hv); clear ho hg hv)
                  clear H156
                  obtain ⟨v159a, v159c, hva, _⟩ := (H157.out.own 1 rfl).slc
                  subst hva
                  have H158 := hid (show St B W [.own (.slice v159a ((L ++ [v9]).length) v159c) (L ++ [v9])] [] w160 from H157.out.pick [1] rfl (by decide))
                  clear hD155
                  go_wp2_with fail
                  go_roundw
                  case rel => exact ⟨j + 1, v9 :: st.drop (pwK oc), L ++ [v9], v159a, (L ++ [v9]).length, v159c, by omega, by go_num, rfl, by rw [HLS.out, HK0.out]; simp, vGo_step HVR.out HKL.out (by simp only [List.length_cons, List.length_drop]; have := HKL.out; omega), eGo_step HG.out HD.out HPV.out HPA.out, by simp only [List.length_cons, List.length_drop]; have := HKL.out; omega, accL_cons HPA.out HA.out _, by omega, by omega, H158.out.pick [0] rfl (by decide)⟩
                  case measure => first | (simp [intOf]; omega) | (simp [intOf]; done)
                | false =>
                  go_wp2_with fail
                  go_ret2
                  exact ⟨by rw [HEV.out, eGo_stop HG.out HD.out HPP.out HNb154.out]; rfl, by first | exact H153.out.below | exact H153.out.below'⟩
              · skip
                subst hsa
                have hjn' : (j : Int) < n := by omega
                obtain ⟨pb, po, hpa⟩ := (H149.out.oldPrs HS.out).at (by omega)
                subst hpa
                obtain ⟨cz0, cz1⟩ := (H149.out.oldPrs HS.out).get (i := j) hjn
                obtain ⟨oc, og, hoo⟩ : ∃ x y, zs.getD j (0, 0) = (x, y) := ⟨_, _, rfl⟩
                have HD := hid (drop_one (by rw [← HL.out]; exact hjn) hoo)
                rw [hoo] at cz0 cz1
                dsimp only at cz0 cz1
                clear hoo
                obtain ⟨oc0, oc11, hoA, hoK, hoG, hoV⟩ : 0 ≤ oc ∧ oc ≤ 11 ∧ (oc = 1 → true = true) ∧ pwK oc ≤ st.length ∧ pwArg oc og = true ∧ vGo (zs.drop (j + 1)) true (st.length + 1 - pwK oc) = 0 := vGo_cons (by rw [← HD.out]; exact HVG.out)
                have HARG := hid hoG
                have HVR := hid hoV
                have HKL := hid hoK
                clear hoA hoK hoG hoV
                go_wp2_with fail
                refine (rtakes_any _ _).mono ?_
                rintro e w161 ⟨rfl, hsw⟩
                have hsw2 : u148 = w161 := by first | exact hsw | exact hsw.symm
                clear hsw
                subst hsw2
                obtain ⟨k162, hk162⟩ : ∃ xx', ((pwK oc : Nat) : Int) = xx' := ⟨_, rfl⟩
                rw [hk162]
                have HNk162 := hid hk162
                clear hk162
                go_upto_region 11 with fail
                rcases (show pwK oc = 0 ∨ pwK oc = 1 ∨ pwK oc = 2 by unfold pwK; split <;> (try split) <;> omega) with hk0 | hk0 | hk0
                · skip
                  obtain rfl : k162 = 0 := by have := HNk162.out; omega
                  clear HNk162
                  have HK0 := hid hk0
                  obtain ⟨T, hT⟩ : ∃ T : Nat, (ln : Int) - 0 = T := ⟨ln - 0, by have := HKL.out; omega⟩
                  have HTK := hid (show T + pwK oc = st.length from by have := HKL.out; omega)
                  go_wp2_with fail
                  refine (rapply_any _ _ _ _ _ _ _ ⟨oc0, oc11⟩ (by decide) (by decide)).mono ?_
                  rintro e w163 ⟨⟨v9, rfl, hv9⟩, hb⟩
                  have H164 := hid (H149.out.call hb)
                  clear hb
                  obtain ⟨b165, hb165⟩ : ∃ xx', accOk (pwVal oc og 0 0 u v) = xx' := ⟨_, rfl⟩
                  rw [hb165] at hv9 ⊢
                  have HNb165 := hid hb165
                  clear hb165
                  have HV9 := hid hv9
                  clear hv9
                  have HPP := hid (show pwVal oc og (st.getD (pwK oc - 1) 0) (st.getD 0 0) u v = pwVal oc og 0 0 u v from pwVal_k0 oc0 HK0.out _ _ _ _ _ _ _)
                  cases b165 with
                  | true =>
                    have hv9 := (show v9 = _ from by first | exact HV9.out rfl | exact HV9.out trivial)
                    have HPA := hid (show accOk v9 = true from by rw [hv9]; exact HNb165.out)
                    have HPV := hid (HPP.out.trans hv9.symm)
                    clear hv9
                    obtain ⟨t1, t2⟩ : (T : Int) ≤ ln ∧ (ln : Int) ≤ sc := by have := HTK.out; have := (H164.out.slc 0 rfl).nc; omega
                    have t3 : (T : Int) ≤ sc := by omega
                    have H166 := hid (H164.out.takeOwn 0 rfl (k := T) (by omega))
                    obtain ⟨D167, hD167⟩ : ∃ D, w163.heap.size = D := ⟨_, rfl⟩
                    have H168 := hid (show St B W [.cells D167 #[.int .i64 v9] 3, .own (.slice (some ⟨g, 0, none⟩) T sc) (L.take T)] [] (w163.alloc (.cells #[.int .i64 v9] 3)) from (H166.out.alloc #[.int .i64 v9] 3 hD167))
                    go_upto_region 9 with (at_builtin; refine append_int rfl _ _ rfl B _ (L.take T) v9 D167 1 rfl rfl (H168.out.own 1 rfl) (H168.out.cell 0 rfl 0 rfl) (by first | (rw [List.length_take]; omega) | omega) H168.out.size ?_; intro v171 w172 ho hg hv; have H169 := hid (H168.out.append 1 rfl ho hg hv); clear ho hg hv)
                    clear H168
                    obtain ⟨v171a, v171c, hva, _⟩ := (H169.out.own 1 rfl).slc
                    subst hva
                    have H170 := hid (show St B W [.own (.slice v171a (((L.take T) ++ [v9]).length) v171c) ((L.take T) ++ [v9])] [] w172 from H169.out.pick [1] rfl (by decide))
                    clear hD167
                    go_wp2_with fail
                    go_roundw
                    case rel => exact ⟨j + 1, v9 :: st.drop (pwK oc), (L.take T) ++ [v9], v171a, ((L.take T) ++ [v9]).length, v171c, by omega, by go_num, rfl, stk_take HLS.out HTK.out _, vGo_step HVR.out HKL.out (by simp only [List.length_cons, List.length_drop]; have := HKL.out; omega), eGo_step HG.out HD.out HPV.out HPA.out, by simp only [List.length_cons, List.length_drop]; have := HKL.out; omega, accL_cons HPA.out HA.out _, by omega, by omega, H170.out.pick [0] rfl (by decide)⟩
                    case measure => first | (simp [intOf]; omega) | (simp [intOf]; done)
                  | false =>
                    go_wp2_with fail
                    go_ret2
                    exact ⟨by rw [HEV.out, eGo_stop HG.out HD.out HPP.out HNb165.out]; rfl, by first | exact H164.out.below | exact H164.out.below'⟩
                · skip
                  obtain rfl : k162 = 1 := by have := HNk162.out; omega
                  clear HNk162
                  have HK0 := hid hk0
                  obtain ⟨T, hT⟩ : ∃ T : Nat, (ln : Int) - 1 = T := ⟨ln - 1, by have := HKL.out; omega⟩
                  have HTK := hid (show T + pwK oc = st.length from by have := HKL.out; omega)
                  obtain ⟨x, hx⟩ : ∃ x, L.getD T 0 = x := ⟨_, rfl⟩
                  have HXS := hid (show st.getD (pwK oc - 1) 0 = x from by rw [← hx]; exact (stk_get 0 HLS.out (by omega) HTK.out).symm)
                  have HXA := hid (show accOk x = true from by rw [← HXS.out]; exact HA.out _)
                  have zx := (H149.out.get 0 rfl (j := T) (by omega)).1
                  rw [hx] at zx
                  clear hx
                  go_wp2_with fail
                  refine (rapply_any _ _ _ _ _ _ _ ⟨oc0, oc11⟩ HXA.out (by decide)).mono ?_
                  rintro e w173 ⟨⟨v9, rfl, hv9⟩, hb⟩
                  have H174 := hid (H149.out.call hb)
                  clear hb
                  obtain ⟨b175, hb175⟩ : ∃ xx', accOk (pwVal oc og x 0 u v) = xx' := ⟨_, rfl⟩
                  rw [hb175] at hv9 ⊢
                  have HNb175 := hid hb175
                  clear hb175
                  have HV9 := hid hv9
                  clear hv9
                  have HPP := hid (show pwVal oc og (st.getD (pwK oc - 1) 0) (st.getD 0 0) u v = pwVal oc og x 0 u v from by rw [HXS.out]; exact pwVal_k1 oc11 HK0.out _ _ _ _ _ _)
                  cases b175 with
                  | true =>
                    have hv9 := (show v9 = _ from by first | exact HV9.out rfl | exact HV9.out trivial)
                    have HPA := hid (show accOk v9 = true from by rw [hv9]; exact HNb175.out)
                    have HPV := hid (HPP.out.trans hv9.symm)
                    clear hv9
                    obtain ⟨t1, t2⟩ : (T : Int) ≤ ln ∧ (ln : Int) ≤ sc := by have := HTK.out; have := (H174.out.slc 0 rfl).nc; omega
                    have t3 : (T : Int) ≤ sc := by omega
                    have H176 := hid (H174.out.takeOwn 0 rfl (k := T) (by omega))
                    obtain ⟨D177, hD177⟩ : ∃ D, w173.heap.size = D := ⟨_, rfl⟩
                    have H178 := hid (show St B W [.cells D177 #[.int .i64 v9] 3, .own (.slice (some ⟨g, 0, none⟩) T sc) (L.take T)] [] (w173.alloc (.cells #[.int .i64 v9] 3)) from (H176.out.alloc #[.int .i64 v9] 3 hD177))
                    go_upto_region 9 with (at_builtin; refine append_int rfl _ _ rfl B _ (L.take T) v9 D177 1 rfl rfl (H178.out.own 1 rfl) (H178.out.cell 0 rfl 0 rfl) (by first | (rw [List.length_take]; omega) | omega) H178.out.size ?_; intro v181 w182 ho hg hv; have H179 := hid (H178.out.append 1 rfl ho hg hv); clear ho hg hv)
                    clear H178
                    obtain ⟨v181a, v181c, hva, _⟩ := (H179.out.own 1 rfl).slc
                    subst hva
                    have H180 := hid (show St B W [.own (.slice v181a (((L.take T) ++ [v9]).length) v181c) ((L.take T) ++ [v9])] [] w182 from H179.out.pick [1] rfl (by decide))
                    clear hD177
                    go_wp2_with fail
                    go_roundw
                    case rel => exact ⟨j + 1, v9 :: st.drop (pwK oc), (L.take T) ++ [v9], v181a, ((L.take T) ++ [v9]).length, v181c, by omega, by go_num, rfl, stk_take HLS.out HTK.out _, vGo_step HVR.out HKL.out (by simp only [List.length_cons, List.length_drop]; have := HKL.out; omega), eGo_step HG.out HD.out HPV.out HPA.out, by simp only [List.length_cons, List.length_drop]; have := HKL.out; omega, accL_cons HPA.out HA.out _, by omega, by omega, H180.out.pick [0] rfl (by decide)⟩
                    case measure => first | (simp [intOf]; omega) | (simp [intOf]; done)
                  | false =>
                    go_wp2_with fail
                    go_ret2
                    exact ⟨by rw [HEV.out, eGo_stop HG.out HD.out HPP.out HNb175.out]; rfl, by first | exact H174.out.below | exact H174.out.below'⟩
                · skip
                  obtain rfl : k162 = 2 := by have := HNk162.out; omega
                  clear HNk162
                  have HK0 := hid hk0
                  obtain ⟨T, hT⟩ : ∃ T : Nat, (ln : Int) - 2 = T := ⟨ln - 2, by have := HKL.out; omega⟩
                  have HTK := hid (show T + pwK oc = st.length from by have := HKL.out; omega)
                  obtain ⟨x, hx⟩ : ∃ x, L.getD T 0 = x := ⟨_, rfl⟩
                  have HXS := hid (show st.getD (pwK oc - 1) 0 = x from by rw [← hx]; exact (stk_get 0 HLS.out (by omega) HTK.out).symm)
                  have HXA := hid (show accOk x = true from by rw [← HXS.out]; exact HA.out _)
                  have zx := (H149.out.get 0 rfl (j := T) (by omega)).1
                  rw [hx] at zx
                  clear hx
                  obtain ⟨T1, hT1⟩ : ∃ T1 : Nat, (ln : Int) - 1 = T1 := ⟨ln - 1, by have := HKL.out; omega⟩
                  obtain ⟨y, hy⟩ : ∃ y, L.getD T1 0 = y := ⟨_, rfl⟩
                  have HYS := hid (show st.getD 0 0 = y from by rw [← hy]; exact (stk_get (K := 1) 0 HLS.out (by omega) (by omega)).symm)
                  have HYA := hid (show accOk y = true from by rw [← HYS.out]; exact HA.out _)
                  have zy := (H149.out.get 0 rfl (j := T1) (by omega)).1
                  rw [hy] at zy
                  clear hy
                  go_wp2_with fail
                  refine (rapply_any _ _ _ _ _ _ _ ⟨oc0, oc11⟩ HXA.out HYA.out).mono ?_
                  rintro e w183 ⟨⟨v9, rfl, hv9⟩, hb⟩
                  have H184 := hid (H149.out.call hb)
                  clear hb
                  obtain ⟨b185, hb185⟩ : ∃ xx', accOk (pwVal oc og x y u v) = xx' := ⟨_, rfl⟩
                  rw [hb185] at hv9 ⊢
                  have HNb185 := hid hb185
                  clear hb185
                  have HV9 := hid hv9
                  clear hv9
                  have HPP := hid (show pwVal oc og (st.getD (pwK oc - 1) 0) (st.getD 0 0) u v = pwVal oc og x y u v from by rw [HXS.out, HYS.out])
                  cases b185 with
                  | true =>
                    have hv9 := (show v9 = _ from by first | exact HV9.out rfl | exact HV9.out trivial)
                    have HPA := hid (show accOk v9 = true from by rw [hv9]; exact HNb185.out)
                    have HPV := hid (HPP.out.trans hv9.symm)
                    clear hv9
                    obtain ⟨t1, t2⟩ : (T : Int) ≤ ln ∧ (ln : Int) ≤ sc := by have := HTK.out; have := (H184.out.slc 0 rfl).nc; omega
                    have t3 : (T : Int) ≤ sc := by omega
                    have H186 := hid (H184.out.takeOwn 0 rfl (k := T) (by omega))
                    obtain ⟨D187, hD187⟩ : ∃ D, w183.heap.size = D := ⟨_, rfl⟩
                    have H188 := hid (show St B W [.cells D187 #[.int .i64 v9] 3, .own (.slice (some ⟨g, 0, none⟩) T sc) (L.take T)] [] (w183.alloc (.cells #[.int .i64 v9] 3)) from (H186.out.alloc #[.int .i64 v9] 3 hD187))
                    go_upto_region 9 with (at_builtin; refine append_int rfl _ _ rfl B _ (L.take T) v9 D187 1 rfl rfl (H188.out.own 1 rfl) (H188.out.cell 0 rfl 0 rfl) (by first | (rw [List.length_take]; omega) | omega) H188.out.size ?_; intro v191 w192 ho hg hv; have H189 := hid (H188.out.append 1 rfl ho hg hv); clear ho hg hv)
                    clear H188
                    obtain ⟨v191a, v191c, hva, _⟩ := (H189.out.own 1 rfl).slc
                    subst hva
                    have H190 := hid (show St B W [.own (.slice v191a (((L.take T) ++ [v9]).length) v191c) ((L.take T) ++ [v9])] [] w192 from H189.out.pick [1] rfl (by decide))
                    clear hD187
                    go_wp2_with fail
                    go_roundw
                    case rel => exact ⟨j + 1, v9 :: st.drop (pwK oc), (L.take T) ++ [v9], v191a, ((L.take T) ++ [v9]).length, v191c, by omega, by go_num, rfl, stk_take HLS.out HTK.out _, vGo_step HVR.out HKL.out (by simp only [List.length_cons, List.length_drop]; have := HKL.out; omega), eGo_step HG.out HD.out HPV.out HPA.out, by simp only [List.length_cons, List.length_drop]; have := HKL.out; omega, accL_cons HPA.out HA.out _, by omega, by omega, H190.out.pick [0] rfl (by decide)⟩
                    case measure => first | (simp [intOf]; omega) | (simp [intOf]; done)
                  | false =>
                    go_wp2_with fail
                    go_ret2
                    exact ⟨by rw [HEV.out, eGo_stop HG.out HD.out HPP.out HNb185.out]; rfl, by first | exact H184.out.below | exact H184.out.below'⟩
              · skip
                have hjn' : ¬ ((j : Int) < n) := by omega
                have HE := hid (show zs.drop j = [] from List.drop_eq_nil_of_le (by have := HL.out; omega))
                have hs1 : st.length = 1 := vGo_last (by rw [← HE.out]; exact HVG.out)
                obtain ⟨q1, q2⟩ : 1 ≤ ln ∧ ln ≤ 1 := by omega
                obtain ⟨z, hz⟩ : ∃ z, L.getD 0 0 = z := ⟨_, rfl⟩
                have HZ := hid (show evR zs u v = (z, 0) from by rw [HEV.out, ← HG.out, HE.out]; unfold eGo; rw [← hz, stk_get (K := 1) 0 HLS.out (by omega) (by omega), List.headD_eq_head?_getD, List.getD_eq_getElem?_getD, List.head?_eq_getElem?])
                obtain ⟨g, cc, hgg⟩ := (H149.out.own 0 rfl).pos (by omega)
                injection hgg with hga hgb hgc
                subst hga
                clear hgb hgc
                have zz := (H149.out.get 0 rfl (j := 0) (by omega)).1
                rw [hz] at zz
                clear hs1 hz
                go_wp2_with fail
                go_ret2
                exact ⟨by rw [HZ.out]; rfl, by first | exact H149.out.below | exact H149.out.below'⟩
  · have c142a : ((k141 : Int) == (0)) = false := by simpa using c142
    have c142b : ((k141 : Int) != (0)) = true := by simpa using c142
    have c142h := hid c142
    clear c142
    go_wp2_with fail
    go_ret2
    exact ⟨by rw [evR_bad HNk141.out (by have := c142h.out; omega)]; rfl, by first | exact H140.out.below | exact H140.out.below'⟩
end Go.Proofs.Ytnnpnljdefmmcaa
