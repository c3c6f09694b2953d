/-
 Contracts: the interval of a program, in the reference.
-/
import Derived.Test.YteejjnhlfgjlaaaPw6
import Derived.Test.YteejjnhlfgjlaaaPw10
namespace Go.Proofs.Yteejjnhlfgjlaaa
open Go.RowKit
attribute [local go_sem ↓] Go.wp_at_zero Go.wp_at_succ
set_option linter.unusedVariables false
set_option linter.unusedSimpArgs false

set_option maxHeartbeats 800000 in
theorem rval14_any (v : Int) (w : World) : Calls Try.prog 64 #[.int .i64 v] w fun e w' => e = .returned (.bool (valOk v)) ∧ w' = w := by
 go_enter Try.func64, Try.ntmps64
 go_wp2
 all_goals (go_ret; refine ⟨ret_b (bool_of_iff ?_), rfl⟩; simp only [valOk, decide_eq_true_eq, Bool.false_eq_true, false_iff, true_iff, Bool.and_eq_true, iff_false, iff_true] <;> omega)
theorem arr_cases {B : Nat} {w : World} {e : TypeId} {sz ln sc : Nat} {sa : Option Addr} {vs : List Value} (h : w.ownsRow B e sz (.slice sa ln sc) ln vs) (j n : Nat) :
    (j < n ∧ sa = none ∧ ln = 0 ∧ sc = 0) ∨ (j < n ∧ ∃ g, sa = some ⟨g, 0, none⟩) ∨ ¬ j < n := by
  by_cases hj : j < n
  · rcases ownsRow_form h with ⟨e, e0⟩ | ⟨g, c', e, _⟩
    · cases e; exact .inl ⟨hj, rfl, rfl, rfl⟩
    · cases e; exact .inr (.inl ⟨hj, g, rfl⟩)
  · exact .inr (.inr hj)
theorem info_span : (Try.prog.info? 99).map (fun i => (i.zero, i.size, i.bytes)) = some (some (.agg #[.int .i64 0, .int .i64 0]), 2, 16) := by kernel_rfl

set_option maxRecDepth 100000 in
set_option maxHeartbeats 6400000 in
theorem rinterval_any (a : Option Addr) (n c : Nat) (zs : List (Int × Int)) (u v : Int) (W : World) (hs : Prs W a n c zs) : Calls Try.prog 70 #[.slice a n c, .int .i64 u, .int .i64 v] W fun e w' => e = .returned (.tuple #[.int .i64 (ivR zs u v).1, .int .i64 (ivR zs u v).2.1, .int .i64 (ivR zs u v).2.2]) ∧ Below W.heap.size W w' := by
 obtain ⟨B, hB⟩ : ∃ B, W.heap.size = B := ⟨_, rfl⟩; have HI0 := hid (St.init hB); have HS := hid hs; have HL := hid hs.len; have nmx : (n : Int) ≤ 9223372036854775807 := by have := hs.nc; have := hs.cap; omega
 clear hs
 go_enter Try.func70, Try.ntmps70
 go_wp2_with fail
 refine (rvalid_any14 _ _ _ _ true _ (HI0.out.oldPrs HS.out)).mono ?_; rintro e w1 ⟨rfl, hb⟩; have H128 := hid (HI0.out.call hb); clear hb; obtain ⟨k1, hk1⟩ : ∃ xx', vCode zs true = xx' := ⟨_, rfl⟩; rw [hk1]; have HNk1 := hid hk1; clear hk1; by_cases c1 : (k1 : Int) = 0
 ·
  obtain ⟨c1c, c1d⟩ : (k1 : Int) ≤ 0 ∧ (0 : Int) ≤ k1 := by omega
  have c1a : ((k1 : Int) == (0)) = true := by simpa using c1
  have c1b : ((k1 : Int) != (0)) = false := by simpa using c1
  have c1h := hid c1; clear c1; go_wp2_with fail
  refine (rval14_any _ _).mono ?_; rintro e w2 ⟨rfl, hsw⟩; have hsw2 : w1 = w2 := by first | exact hsw | exact hsw.symm
  clear hsw; subst hsw2; obtain ⟨b1, hb1⟩ : ∃ xx', valOk u = xx' := ⟨_, rfl⟩; rw [hb1]; have HNb1 := hid hb1; clear hb1; cases b1; rotate_left
  ·
   go_wp2_with fail
   refine (rval14_any _ _).mono ?_; rintro e w2 ⟨rfl, hsw⟩; have hsw2 : w1 = w2 := by first | exact hsw | exact hsw.symm
   clear hsw; subst hsw2; obtain ⟨b1, hb1⟩ : ∃ xx', valOk v = xx' := ⟨_, rfl⟩; rw [hb1]; have HNb2 := hid hb1; clear hb1; cases b1; rotate_left
   ·
    go_wp2_with fail
    have HV := hid (show vCode zs true = 0 from by rw [HNk1.out]; have := c1h.out; omega); have HU := hid (show valOk u = true from HNb1.out); have HW := hid (show valOk v = true from HNb2.out); have HEV := hid (ivR_go (l := zs) (a := u) (b := v) HV.out HU.out HW.out); obtain ⟨n1, n2⟩ : 1 ≤ n ∧ n ≤ 32 := by have := vCode_zero.1 HV.out; have := HL.out; omega
    have H1 := hid (show St B W [.arr (99) 2 (.slice none 0 0) 0 (prV [])] [] w1 from H128.out.arrNilE 99 2)
    go_loopw [11, 10] (fun i s wr => ∃ (j : Nat) (st L : List (Int × Int)) (sa : Option Addr) (ln sc : Nat), j ≤ n ∧ i = .int .i64 j ∧ s = .slice sa ln sc ∧ L = st.reverse ∧ vGo (zs.drop j) true st.length = 0 ∧ iGo (zs.drop j) st u v = iGo zs [] u v ∧ st.length ≤ j ∧ allAcc st ∧ St B W [.arr (99) 2 (.slice sa ln sc) ln (prV L)] [] wr) (fun i _ _ => n - (intOf i).toNat)
    case atStart => exact ⟨0, [], [], none, 0, 0, by omega, rfl, rfl, rfl, (vCode_zero.1 HV.out).2.2, rfl, by simp, allAcc.nil, H1.out⟩
    case round =>
     obtain ⟨j, st, L, sa, ln, sc, hj, rfl, rfl, hls, hvg, hg, hsl, ha, hst⟩ := hrel; obtain ⟨u1, rfl⟩ : ∃ u1 : World, u1 = wr := ⟨_, rfl⟩; have H1 := hid hst; clear hst; have HLS := hid hls; have HVG := hid hvg; have HG := hid hg; have HA := hid ha; clear hvg hg ha; have hll := arr_len (H1.out.arrE 0 rfl); obtain ⟨ll1, ll2, ll3, ll4⟩ : ln ≤ st.length ∧ st.length ≤ ln ∧ ln ≤ L.length ∧ L.length ≤ ln := by rw [hls, List.length_reverse] at hll; rw [hls, List.length_reverse]; omega
     clear hls hll
     rcases arr_cases (H1.out.arrE 0 rfl) j n with ⟨hjn, hsa, hln, hsc⟩ | ⟨hjn, g, hsa⟩ | hjn
     ·
      subst hsa; subst hln; subst hsc; have hjn' : (j : Int) < n := by omega
      obtain ⟨pb, po, hpa⟩ := (H1.out.oldPrs HS.out).at (by omega); subst hpa; obtain ⟨cz0, cz1⟩ := (H1.out.oldPrs HS.out).get (i := j) hjn; obtain ⟨oc, og, hoo⟩ : ∃ x y, zs.getD j (0, 0) = (x, y) := ⟨_, _, rfl⟩; have HD := hid (drop_one (by rw [← HL.out]; exact hjn) hoo); rw [hoo] at cz0 cz1
      dsimp only at cz0 cz1
      clear hoo; obtain ⟨oc0, oc1, hoA, hoK, hoG, hoV⟩ : 0 ≤ oc ∧ oc ≤ 11 ∧ (oc = 1 → true = true) ∧ pwK oc ≤ st.length ∧ pwArg oc og = true ∧ vGo (zs.drop (j + 1)) true (st.length + 1 - pwK oc) = 0 := vGo_cons (by rw [← HD.out]; exact HVG.out); have HARG := hid hoG; have HVR := hid hoV; have HKL := hid hoK; clear hoA hoK hoG hoV; go_wp2_with fail
      refine (rtakes_any _ _).mono ?_; rintro e w1 ⟨rfl, hsw⟩; have hsw2 : u1 = w1 := by first | exact hsw | exact hsw.symm
      clear hsw; subst hsw2; obtain ⟨k2, hk1⟩ : ∃ xx', ((pwK oc : Nat) : Int) = xx' := ⟨_, rfl⟩; rw [hk1]; have HNk2 := hid hk1; clear hk1; have hk0 : pwK oc = 0 := by have := HKL.out; omega
      obtain rfl : k2 = 0 := by have := HNk2.out; omega
      clear HNk2; have HK0 := hid hk0; obtain ⟨D1, hD1⟩ : ∃ D, u1.heap.size = D := ⟨_, rfl⟩; go_upto_region 12 with fail
      have H2 := hid (show St _ _ (.cells (D1 + 1) _ _ :: .cells D1 _ _ :: _) _ _ from ((H1.out.alloc #[.int .i64 0, .int .i64 0] 99 hD1).alloc #[.int .i64 0, .int .i64 0] 99 (by first | exact hD1 | simp [hD1]))); first | refine gK H2 ?_ | refine gL H2 ?_ | refine gC H2 ?_
      clear H2; intro w1 H2; clear hD1; go_upto_region 16 with fail
      have HOO := hid (show zs.getD j (0, 0) = (oc, og) from by have := HD.out; rw [List.drop_eq_getElem_cons (by have := HL.out; omega)] at this; rw [List.getD_eq_getElem?_getD, List.getElem?_eq_getElem (by have := HL.out; omega), ← (List.cons.inj this).1]; rfl); have H3 := hid H2.out.drew; refine wp_region_held_drew (S := (fun w' => w'.cell? ⟨D1, 0, none⟩ = some (.int .i64 0) ∧ w'.cell? ⟨D1, 1, none⟩ = some (.int .i64 0) ∧ w'.cell? ⟨D1 + 1, 0, none⟩ = some (.int .i64 0) ∧ w'.cell? ⟨D1 + 1, 1, none⟩ = some (.int .i64 0) ∧ w'.cell? ⟨pb, po + j * 2, none⟩ = some (.int .i64 oc) ∧ w'.cell? ⟨pb, po + j * 2 + 1, none⟩ = some (.int .i64 og))) (by kernel_rfl) ⟨H3.out.cell 1 rfl 0 rfl, H3.out.cell 1 rfl 1 rfl, H3.out.cell 0 rfl 0 rfl, H3.out.cell 0 rfl 1 rfl, (by have := ((H3.out.oldPrs HS.out).get (i := j) hjn).1; rw [HOO.out] at this; exact this), (by have := ((H3.out.oldPrs HS.out).get (i := j) hjn).2; rw [HOO.out] at this; exact this)⟩ (fun hHeld => ?_); generalize w1.drew = k2 at *; refine tk 0 ?_; refine tk 1 ?_; refine tk 2 ?_; refine tk 3 ?_; refine tk 4 ?_; refine tk 5 ?_; refine tk 6 ?_; refine tk 7 ?_; refine wpAnyH_ready (rs := [8, 12]) (by kernel_rfl) (by simp) (AllReadyH.cons (o := _) rfl (fun K hK => ?_) (AllReadyH.cons (o := _) rfl (fun K hK => ?_) AllReadyH.nil))
      ·
       go_simp
       go_at_call 84
       refine (rnext_any _ _ _ _ _ _ _ _ _ ⟨oc0, oc1⟩ (by decide) (by decide) (by decide) (by decide)).mono ?_; rintro e w1 ⟨⟨l9, h9, rfl, hlh⟩, hb⟩; have H2 := hid (H3.out.call hb); clear hb; obtain ⟨b1, hb1⟩ : ∃ xx', pwIok oc og (0, 0) (0, 0) u v = xx' := ⟨_, rfl⟩; rw [hb1] at hlh ⊢; have HNb3 := hid hb1; clear hb1; have HLH := hid hlh; clear hlh; have HPP := hid (show pwInt oc og (st.getD (pwK oc - 1) (0, 0)) (st.getD 0 (0, 0)) u v = pwInt oc og (0, 0) (0, 0) u v ∧ pwIok oc og (st.getD (pwK oc - 1) (0, 0)) (st.getD 0 (0, 0)) u v = pwIok oc og (0, 0) (0, 0) u v from pwInt_k0 oc0 HK0.out _ _ _ _ _ _ _); refine hK.out _ _ (by (try dsimp only); exact ⟨H2.out.cell 1 rfl 0 rfl, H2.out.cell 1 rfl 1 rfl, H2.out.cell 0 rfl 0 rfl, H2.out.cell 0 rfl 1 rfl, (by have := ((H2.out.oldPrs HS.out).get (i := j) hjn).1; rw [HOO.out] at this; exact this), (by have := ((H2.out.oldPrs HS.out).get (i := j) hjn).2; rw [HOO.out] at this; exact this)⟩) ?_; clear hK K hHeld; intro hHeld; try simp only [pz]
       refine tk 9 ?_; refine tk 10 ?_; refine tk 11 ?_; refine rdy 12 fun K hK => ?_
       obtain ⟨D1, hD1⟩ : ∃ D, w1.heap.size = D := ⟨_, rfl⟩; have H4 := hid (H2.out.alloc #[.int .i64 0, .int .i64 0] 99 hD1); go_simp
       refine hK.out _ _ (by (try dsimp only); exact ⟨H4.out.cell 2 rfl 0 rfl, H4.out.cell 2 rfl 1 rfl, H4.out.cell 1 rfl 0 rfl, H4.out.cell 1 rfl 1 rfl, (by have := ((H4.out.oldPrs HS.out).get (i := j) hjn).1; rw [HOO.out] at this; exact this), (by have := ((H4.out.oldPrs HS.out).get (i := j) hjn).2; rw [HOO.out] at this; exact this)⟩) ?_; clear hK K hHeld; intro hHeld; try simp only [pz]
       clear hD1; generalize (w1.alloc (.cells #[.int .i64 0, .int .i64 0] 99)) = k3 at *; refine rdy 13 fun K hK => ?_
       obtain ⟨z2, z3, z4, z5⟩ := H4.out.f2 0 rfl; have H2 := hid (show St _ _ (.cells D1 #[.int .i64 l9, .int .i64 h9] 99 :: _) _ _ from ((H4.out.set 0 rfl 0 (.int .i64 l9)).set 0 rfl 1 (.int .i64 h9))); go_simp
       refine hK.out _ _ (by (try dsimp only); exact ⟨H2.out.cell 2 rfl 0 rfl, H2.out.cell 2 rfl 1 rfl, H2.out.cell 1 rfl 0 rfl, H2.out.cell 1 rfl 1 rfl, (by have := ((H2.out.oldPrs HS.out).get (i := j) hjn).1; rw [HOO.out] at this; exact this), (by have := ((H2.out.oldPrs HS.out).get (i := j) hjn).2; rw [HOO.out] at this; exact this)⟩) ?_; clear hK K hHeld; intro hHeld; try simp only [pz]
       clear z2 z3 z4 z5; generalize ((k3.setCell ⟨D1, 0, none⟩ (.int .i64 l9)).setCell ⟨D1, 1, none⟩ (.int .i64 h9)) = k3 at *; refine tk 14 ?_; refine wpAnyH_done (by kernel_rfl) ?_ _; try clear hHeld
       cases b1; rotate_left
       ·
        go_upto_region 19 with fail
        have hlh := (show l9 = (pwInt oc og (0, 0) (0, 0) u v).1 ∧ h9 = (pwInt oc og (0, 0) (0, 0) u v).2 from by first | exact HLH.out rfl | exact HLH.out trivial | exact HLH.out); have HPK := hid (show pwIok oc og (st.getD (pwK oc - 1) (0, 0)) (st.getD 0 (0, 0)) u v = true from by rw [HPP.out.2]; exact HNb3.out); have HPV := hid (show pwInt oc og (st.getD (pwK oc - 1) (0, 0)) (st.getD 0 (0, 0)) u v = (l9, h9) from by rw [HPP.out.1, hlh.1, hlh.2]); have HPA := hid (show accOk l9 = true ∧ accOk h9 = true from by have := pwIok_lo HPK.out; rw [HPV.out] at this; exact this); clear hlh; have t5 : IntKind.i64.wrap (0 : Int) = 0 := rfl; have t6 : IntKind.i64.wrap (((0 : Nat) : Int) - 0) = 0 := rfl; go_upto_region 19 with fail
        have H4 := hid H2.out.drew; refine wp_region_held_drew (S := (fun w' => w'.cell? ⟨D1, 0, none⟩ = some (.int .i64 l9) ∧ w'.cell? ⟨D1, 1, none⟩ = some (.int .i64 h9))) (by kernel_rfl) ⟨H4.out.cell 0 rfl 0 rfl, H4.out.cell 0 rfl 1 rfl⟩ (fun hHeld => ?_); generalize k3.drew = k3 at *; refine tk 0 ?_; refine tk 1 ?_; refine tk 2 ?_; refine tk 3 ?_; refine tk 4 ?_; refine tk 5 ?_; refine tk 6 ?_; refine rdy 7 fun K hK => ?_
        obtain ⟨D1, hD1⟩ : ∃ D, k3.heap.size = D := ⟨_, rfl⟩; have H5 := hid (H4.out.alloc #[.int .i64 l9, .int .i64 h9] 99 hD1); go_simp
        refine hK.out _ _ (by (try dsimp only); exact ⟨H5.out.cell 1 rfl 0 rfl, H5.out.cell 1 rfl 1 rfl⟩) ?_; clear hK K hHeld; intro hHeld; try simp only [pz]
        clear hD1; generalize (k3.alloc (.cells #[.int .i64 l9, .int .i64 h9] 99)) = k3 at *; refine rdy 8 fun K hK => ?_
        rw [if_pos (by rfl)]; refine oper_append_vals _ _ 97 99 2 16 (.agg #[.int .i64 0, .int .i64 0]) Try.underlying97 info_span rfl (by decide) (by decide) rfl B _ _ _ D1 1 1 [.int .i64 l9, .int .i64 h9] rfl rfl rfl (H5.out.arrE 4 rfl) (lit_news H5.out 0 [.int .i64 l9, .int .i64 h9] rfl) (by intro u hu; simp at hu; rcases hu with rfl | rfl <;> rfl) (by omega) H5.out.size ?_; intro v9a k3 ho hg hv; have H4 := hid (H5.out.appendE 4 rfl ho hg hv); clear ho hg hv; obtain ⟨g1, c2, hva⟩ := arr_pos (H4.out.arrE 4 rfl) (by omega); subst hva; rw [show prV L ++ [.int .i64 l9, .int .i64 h9] = prV (L ++ [(l9, h9)]) from by rw [prV_app]; rfl] at H4; refine hK.out _ _ (by (try dsimp only); exact ⟨H4.out.cell 1 rfl 0 rfl, H4.out.cell 1 rfl 1 rfl⟩) ?_; clear hK K hHeld; intro hHeld; try simp only [pz]
        refine tk 9 ?_; refine wpAnyH_done (by kernel_rfl) ?_ _; try clear hHeld
        go_wp2_with fail
        go_roundw
        case rel => exact ⟨j + 1, (l9, h9) :: st.drop (pwK oc), (L ++ [(l9, h9)]), (some ⟨g1, 0, none⟩), (0 + 1), c2, by omega, by go_num, rfl, by rw [HLS.out, HK0.out]; simp, vGo_step HVR.out HKL.out (by simp only [List.length_cons, List.length_drop]; have := HKL.out; omega), iGo_step HG.out HD.out HPV.out HPK.out, by simp only [List.length_cons, List.length_drop]; have := HKL.out; omega, allAcc.step HA.out HPA.out _, H4.out.pick [4] rfl (by decide)⟩
        case measure => first | (simp [intOf]; omega) | (simp [intOf]; done)
       go_wp2_with fail
       go_ret3
       exact ⟨by rw [HEV.out, iGo_stop HG.out HD.out (HPP.out.2.trans HNb3.out)]; rfl, H2.out.bl⟩
      obtain ⟨D1, hD1⟩ : ∃ D, k2.heap.size = D := ⟨_, rfl⟩; have H2 := hid (H3.out.alloc #[.int .i64 0, .int .i64 0] 99 hD1); go_simp
      refine hK.out _ _ (by (try dsimp only); exact ⟨H2.out.cell 2 rfl 0 rfl, H2.out.cell 2 rfl 1 rfl, H2.out.cell 1 rfl 0 rfl, H2.out.cell 1 rfl 1 rfl, (by have := ((H2.out.oldPrs HS.out).get (i := j) hjn).1; rw [HOO.out] at this; exact this), (by have := ((H2.out.oldPrs HS.out).get (i := j) hjn).2; rw [HOO.out] at this; exact this)⟩) ?_; clear hK K hHeld; intro hHeld; try simp only [pz]
      clear hD1; generalize (k2.alloc (.cells #[.int .i64 0, .int .i64 0] 99)) = k2 at *; refine rdy 8 fun K hK => ?_
      go_simp
      go_at_call 84
      refine (rnext_any _ _ _ _ _ _ _ _ _ ⟨oc0, oc1⟩ (by decide) (by decide) (by decide) (by decide)).mono ?_; rintro e w1 ⟨⟨l9, h9, rfl, hlh⟩, hb⟩; have H3 := hid (H2.out.call hb); clear hb; obtain ⟨b1, hb1⟩ : ∃ xx', pwIok oc og (0, 0) (0, 0) u v = xx' := ⟨_, rfl⟩; rw [hb1] at hlh ⊢; have HNb3 := hid hb1; clear hb1; have HLH := hid hlh; clear hlh; have HPP := hid (show pwInt oc og (st.getD (pwK oc - 1) (0, 0)) (st.getD 0 (0, 0)) u v = pwInt oc og (0, 0) (0, 0) u v ∧ pwIok oc og (st.getD (pwK oc - 1) (0, 0)) (st.getD 0 (0, 0)) u v = pwIok oc og (0, 0) (0, 0) u v from pwInt_k0 oc0 HK0.out _ _ _ _ _ _ _); refine hK.out _ _ (by (try dsimp only); exact ⟨H3.out.cell 2 rfl 0 rfl, H3.out.cell 2 rfl 1 rfl, H3.out.cell 1 rfl 0 rfl, H3.out.cell 1 rfl 1 rfl, (by have := ((H3.out.oldPrs HS.out).get (i := j) hjn).1; rw [HOO.out] at this; exact this), (by have := ((H3.out.oldPrs HS.out).get (i := j) hjn).2; rw [HOO.out] at this; exact this)⟩) ?_; clear hK K hHeld; intro hHeld; try simp only [pz]
      refine tk 9 ?_; refine tk 10 ?_; refine tk 11 ?_; refine rdy 13 fun K hK => ?_
      obtain ⟨z2, z3, z4, z5⟩ := H3.out.f2 0 rfl; have H2 := hid (show St _ _ (.cells D1 #[.int .i64 l9, .int .i64 h9] 99 :: _) _ _ from ((H3.out.set 0 rfl 0 (.int .i64 l9)).set 0 rfl 1 (.int .i64 h9))); go_simp
      refine hK.out _ _ (by (try dsimp only); exact ⟨H2.out.cell 2 rfl 0 rfl, H2.out.cell 2 rfl 1 rfl, H2.out.cell 1 rfl 0 rfl, H2.out.cell 1 rfl 1 rfl, (by have := ((H2.out.oldPrs HS.out).get (i := j) hjn).1; rw [HOO.out] at this; exact this), (by have := ((H2.out.oldPrs HS.out).get (i := j) hjn).2; rw [HOO.out] at this; exact this)⟩) ?_; clear hK K hHeld; intro hHeld; try simp only [pz]
      clear z2 z3 z4 z5; generalize ((w1.setCell ⟨D1, 0, none⟩ (.int .i64 l9)).setCell ⟨D1, 1, none⟩ (.int .i64 h9)) = k2 at *; refine tk 14 ?_; refine wpAnyH_done (by kernel_rfl) ?_ _; try clear hHeld
      cases b1; rotate_left
      ·
       go_upto_region 19 with fail
       have hlh := (show l9 = (pwInt oc og (0, 0) (0, 0) u v).1 ∧ h9 = (pwInt oc og (0, 0) (0, 0) u v).2 from by first | exact HLH.out rfl | exact HLH.out trivial | exact HLH.out); have HPK := hid (show pwIok oc og (st.getD (pwK oc - 1) (0, 0)) (st.getD 0 (0, 0)) u v = true from by rw [HPP.out.2]; exact HNb3.out); have HPV := hid (show pwInt oc og (st.getD (pwK oc - 1) (0, 0)) (st.getD 0 (0, 0)) u v = (l9, h9) from by rw [HPP.out.1, hlh.1, hlh.2]); have HPA := hid (show accOk l9 = true ∧ accOk h9 = true from by have := pwIok_lo HPK.out; rw [HPV.out] at this; exact this); clear hlh; have t5 : IntKind.i64.wrap (0 : Int) = 0 := rfl; have t6 : IntKind.i64.wrap (((0 : Nat) : Int) - 0) = 0 := rfl; go_upto_region 19 with fail
       have H3 := hid H2.out.drew; refine wp_region_held_drew (S := (fun w' => w'.cell? ⟨D1, 0, none⟩ = some (.int .i64 l9) ∧ w'.cell? ⟨D1, 1, none⟩ = some (.int .i64 h9))) (by kernel_rfl) ⟨H3.out.cell 0 rfl 0 rfl, H3.out.cell 0 rfl 1 rfl⟩ (fun hHeld => ?_); generalize k2.drew = k2 at *; refine tk 0 ?_; refine tk 1 ?_; refine tk 2 ?_; refine tk 3 ?_; refine tk 4 ?_; refine tk 5 ?_; refine tk 6 ?_; refine rdy 7 fun K hK => ?_
       obtain ⟨D1, hD1⟩ : ∃ D, k2.heap.size = D := ⟨_, rfl⟩; have H4 := hid (H3.out.alloc #[.int .i64 l9, .int .i64 h9] 99 hD1); go_simp
       refine hK.out _ _ (by (try dsimp only); exact ⟨H4.out.cell 1 rfl 0 rfl, H4.out.cell 1 rfl 1 rfl⟩) ?_; clear hK K hHeld; intro hHeld; try simp only [pz]
       clear hD1; generalize (k2.alloc (.cells #[.int .i64 l9, .int .i64 h9] 99)) = k2 at *; refine rdy 8 fun K hK => ?_
       rw [if_pos (by rfl)]; refine oper_append_vals _ _ 97 99 2 16 (.agg #[.int .i64 0, .int .i64 0]) Try.underlying97 info_span rfl (by decide) (by decide) rfl B _ _ _ D1 1 1 [.int .i64 l9, .int .i64 h9] rfl rfl rfl (H4.out.arrE 4 rfl) (lit_news H4.out 0 [.int .i64 l9, .int .i64 h9] rfl) (by intro u hu; simp at hu; rcases hu with rfl | rfl <;> rfl) (by omega) H4.out.size ?_; intro v9a k2 ho hg hv; have H3 := hid (H4.out.appendE 4 rfl ho hg hv); clear ho hg hv; obtain ⟨g1, c2, hva⟩ := arr_pos (H3.out.arrE 4 rfl) (by omega); subst hva; rw [show prV L ++ [.int .i64 l9, .int .i64 h9] = prV (L ++ [(l9, h9)]) from by rw [prV_app]; rfl] at H3; refine hK.out _ _ (by (try dsimp only); exact ⟨H3.out.cell 1 rfl 0 rfl, H3.out.cell 1 rfl 1 rfl⟩) ?_; clear hK K hHeld; intro hHeld; try simp only [pz]
       refine tk 9 ?_; refine wpAnyH_done (by kernel_rfl) ?_ _; try clear hHeld
       go_wp2_with fail
       go_roundw
       case rel => exact ⟨j + 1, (l9, h9) :: st.drop (pwK oc), (L ++ [(l9, h9)]), (some ⟨g1, 0, none⟩), (0 + 1), c2, by omega, by go_num, rfl, by rw [HLS.out, HK0.out]; simp, vGo_step HVR.out HKL.out (by simp only [List.length_cons, List.length_drop]; have := HKL.out; omega), iGo_step HG.out HD.out HPV.out HPK.out, by simp only [List.length_cons, List.length_drop]; have := HKL.out; omega, allAcc.step HA.out HPA.out _, H3.out.pick [4] rfl (by decide)⟩
       case measure => first | (simp [intOf]; omega) | (simp [intOf]; done)
      go_wp2_with fail
      go_ret3
      exact ⟨by rw [HEV.out, iGo_stop HG.out HD.out (HPP.out.2.trans HNb3.out)]; rfl, H2.out.bl⟩
     ·
      subst hsa; have hjn' : (j : Int) < n := by omega
      obtain ⟨pb, po, hpa⟩ := (H1.out.oldPrs HS.out).at (by omega); subst hpa; obtain ⟨cz0, cz1⟩ := (H1.out.oldPrs HS.out).get (i := j) hjn; obtain ⟨oc, og, hoo⟩ : ∃ x y, zs.getD j (0, 0) = (x, y) := ⟨_, _, rfl⟩; have HD := hid (drop_one (by rw [← HL.out]; exact hjn) hoo); rw [hoo] at cz0 cz1
      dsimp only at cz0 cz1
      clear hoo; obtain ⟨oc0, oc1, hoA, hoK, hoG, hoV⟩ : 0 ≤ oc ∧ oc ≤ 11 ∧ (oc = 1 → true = true) ∧ pwK oc ≤ st.length ∧ pwArg oc og = true ∧ vGo (zs.drop (j + 1)) true (st.length + 1 - pwK oc) = 0 := vGo_cons (by rw [← HD.out]; exact HVG.out); have HARG := hid hoG; have HVR := hid hoV; have HKL := hid hoK; clear hoA hoK hoG hoV; go_wp2_with fail
      refine (rtakes_any _ _).mono ?_; rintro e w1 ⟨rfl, hsw⟩; have hsw2 : u1 = w1 := by first | exact hsw | exact hsw.symm
      clear hsw; subst hsw2; obtain ⟨k2, hk1⟩ : ∃ xx', ((pwK oc : Nat) : Int) = xx' := ⟨_, rfl⟩; rw [hk1]; have HNk2 := hid hk1; clear hk1
      rcases (show pwK oc = 0 ∨ pwK oc = 1 ∨ pwK oc = 2 by unfold pwK; split <;> (try split) <;> omega) with hk0 | hk0 | hk0
      ·
       obtain rfl : k2 = 0 := by have := HNk2.out; omega
       clear HNk2; have HK0 := hid hk0; obtain ⟨T, hT⟩ : ∃ T : Nat, (ln : Int) - 0 = T := ⟨ln - 0, by have := HKL.out; omega⟩; have HTK := hid (show T + pwK oc = st.length from by have := HKL.out; omega); obtain ⟨D1, hD1⟩ : ∃ D, u1.heap.size = D := ⟨_, rfl⟩; go_upto_region 12 with fail
       have H2 := hid (show St _ _ (.cells (D1 + 1) _ _ :: .cells D1 _ _ :: _) _ _ from ((H1.out.alloc #[.int .i64 0, .int .i64 0] 99 hD1).alloc #[.int .i64 0, .int .i64 0] 99 (by first | exact hD1 | simp [hD1]))); first | refine gK H2 ?_ | refine gL H2 ?_ | refine gC H2 ?_
       clear H2; intro w1 H2; clear hD1; go_upto_region 16 with fail
       have HOO := hid (show zs.getD j (0, 0) = (oc, og) from by have := HD.out; rw [List.drop_eq_getElem_cons (by have := HL.out; omega)] at this; rw [List.getD_eq_getElem?_getD, List.getElem?_eq_getElem (by have := HL.out; omega), ← (List.cons.inj this).1]; rfl); have H3 := hid H2.out.drew; refine wp_region_held_drew (S := (fun w' => w'.cell? ⟨D1, 0, none⟩ = some (.int .i64 0) ∧ w'.cell? ⟨D1, 1, none⟩ = some (.int .i64 0) ∧ w'.cell? ⟨D1 + 1, 0, none⟩ = some (.int .i64 0) ∧ w'.cell? ⟨D1 + 1, 1, none⟩ = some (.int .i64 0) ∧ w'.cell? ⟨pb, po + j * 2, none⟩ = some (.int .i64 oc) ∧ w'.cell? ⟨pb, po + j * 2 + 1, none⟩ = some (.int .i64 og))) (by kernel_rfl) ⟨H3.out.cell 1 rfl 0 rfl, H3.out.cell 1 rfl 1 rfl, H3.out.cell 0 rfl 0 rfl, H3.out.cell 0 rfl 1 rfl, (by have := ((H3.out.oldPrs HS.out).get (i := j) hjn).1; rw [HOO.out] at this; exact this), (by have := ((H3.out.oldPrs HS.out).get (i := j) hjn).2; rw [HOO.out] at this; exact this)⟩ (fun hHeld => ?_); generalize w1.drew = k3 at *; refine tk 0 ?_; refine tk 1 ?_; refine tk 2 ?_; refine tk 3 ?_; refine tk 4 ?_; refine tk 5 ?_; refine tk 6 ?_; refine tk 7 ?_; refine wpAnyH_ready (rs := [8, 12]) (by kernel_rfl) (by simp) (AllReadyH.cons (o := _) rfl (fun K hK => ?_) (AllReadyH.cons (o := _) rfl (fun K hK => ?_) AllReadyH.nil))
       ·
        go_simp
        go_at_call 84
        refine (rnext_any _ _ _ _ _ _ _ _ _ ⟨oc0, oc1⟩ (by decide) (by decide) (by decide) (by decide)).mono ?_; rintro e w1 ⟨⟨l9, h9, rfl, hlh⟩, hb⟩; have H2 := hid (H3.out.call hb); clear hb; obtain ⟨b1, hb1⟩ : ∃ xx', pwIok oc og (0, 0) (0, 0) u v = xx' := ⟨_, rfl⟩; rw [hb1] at hlh ⊢; have HNb3 := hid hb1; clear hb1; have HLH := hid hlh; clear hlh; have HPP := hid (show pwInt oc og (st.getD (pwK oc - 1) (0, 0)) (st.getD 0 (0, 0)) u v = pwInt oc og (0, 0) (0, 0) u v ∧ pwIok oc og (st.getD (pwK oc - 1) (0, 0)) (st.getD 0 (0, 0)) u v = pwIok oc og (0, 0) (0, 0) u v from pwInt_k0 oc0 HK0.out _ _ _ _ _ _ _); refine hK.out _ _ (by (try dsimp only); exact ⟨H2.out.cell 1 rfl 0 rfl, H2.out.cell 1 rfl 1 rfl, H2.out.cell 0 rfl 0 rfl, H2.out.cell 0 rfl 1 rfl, (by have := ((H2.out.oldPrs HS.out).get (i := j) hjn).1; rw [HOO.out] at this; exact this), (by have := ((H2.out.oldPrs HS.out).get (i := j) hjn).2; rw [HOO.out] at this; exact this)⟩) ?_; clear hK K hHeld; intro hHeld; try simp only [pz]
        refine tk 9 ?_; refine tk 10 ?_; refine tk 11 ?_; refine rdy 12 fun K hK => ?_
        obtain ⟨D1, hD1⟩ : ∃ D, w1.heap.size = D := ⟨_, rfl⟩; have H4 := hid (H2.out.alloc #[.int .i64 0, .int .i64 0] 99 hD1); go_simp
        refine hK.out _ _ (by (try dsimp only); exact ⟨H4.out.cell 2 rfl 0 rfl, H4.out.cell 2 rfl 1 rfl, H4.out.cell 1 rfl 0 rfl, H4.out.cell 1 rfl 1 rfl, (by have := ((H4.out.oldPrs HS.out).get (i := j) hjn).1; rw [HOO.out] at this; exact this), (by have := ((H4.out.oldPrs HS.out).get (i := j) hjn).2; rw [HOO.out] at this; exact this)⟩) ?_; clear hK K hHeld; intro hHeld; try simp only [pz]
        clear hD1; generalize (w1.alloc (.cells #[.int .i64 0, .int .i64 0] 99)) = k4 at *; refine rdy 13 fun K hK => ?_
        obtain ⟨z2, z3, z4, z5⟩ := H4.out.f2 0 rfl; have H2 := hid (show St _ _ (.cells D1 #[.int .i64 l9, .int .i64 h9] 99 :: _) _ _ from ((H4.out.set 0 rfl 0 (.int .i64 l9)).set 0 rfl 1 (.int .i64 h9))); go_simp
        refine hK.out _ _ (by (try dsimp only); exact ⟨H2.out.cell 2 rfl 0 rfl, H2.out.cell 2 rfl 1 rfl, H2.out.cell 1 rfl 0 rfl, H2.out.cell 1 rfl 1 rfl, (by have := ((H2.out.oldPrs HS.out).get (i := j) hjn).1; rw [HOO.out] at this; exact this), (by have := ((H2.out.oldPrs HS.out).get (i := j) hjn).2; rw [HOO.out] at this; exact this)⟩) ?_; clear hK K hHeld; intro hHeld; try simp only [pz]
        clear z2 z3 z4 z5; generalize ((k4.setCell ⟨D1, 0, none⟩ (.int .i64 l9)).setCell ⟨D1, 1, none⟩ (.int .i64 h9)) = k4 at *; refine tk 14 ?_; refine wpAnyH_done (by kernel_rfl) ?_ _; try clear hHeld
        cases b1; rotate_left
        ·
         go_upto_region 19 with fail
         have hlh := (show l9 = (pwInt oc og (0, 0) (0, 0) u v).1 ∧ h9 = (pwInt oc og (0, 0) (0, 0) u v).2 from by first | exact HLH.out rfl | exact HLH.out trivial | exact HLH.out); have HPK := hid (show pwIok oc og (st.getD (pwK oc - 1) (0, 0)) (st.getD 0 (0, 0)) u v = true from by rw [HPP.out.2]; exact HNb3.out); have HPV := hid (show pwInt oc og (st.getD (pwK oc - 1) (0, 0)) (st.getD 0 (0, 0)) u v = (l9, h9) from by rw [HPP.out.1, hlh.1, hlh.2]); have HPA := hid (show accOk l9 = true ∧ accOk h9 = true from by have := pwIok_lo HPK.out; rw [HPV.out] at this; exact this); clear hlh; obtain ⟨t1, t2⟩ : (T : Int) ≤ ln ∧ (ln : Int) ≤ sc := by have := HTK.out; have := arr_cap (H2.out.arrE 3 rfl); omega
         have t3 : (T : Int) ≤ sc := by omega
         have t4 : 0 ≤ (T : Int) := by omega
         have t5 : IntKind.i64.wrap (T : Int) = T := IntWalk.i64_in _ (by omega); have H4 := hid (H2.out.take 3 rfl (k := T) (by omega)); rw [prV_take] at H4; go_upto_region 19 with fail
         have H5 := hid H4.out.drew; refine wp_region_held_drew (S := (fun w' => w'.cell? ⟨D1, 0, none⟩ = some (.int .i64 l9) ∧ w'.cell? ⟨D1, 1, none⟩ = some (.int .i64 h9))) (by kernel_rfl) ⟨H5.out.cell 0 rfl 0 rfl, H5.out.cell 0 rfl 1 rfl⟩ (fun hHeld => ?_); generalize k4.drew = k4 at *; refine tk 0 ?_; refine tk 1 ?_; refine tk 2 ?_; refine tk 3 ?_; refine tk 4 ?_; refine tk 5 ?_; refine tk 6 ?_; refine rdy 7 fun K hK => ?_
         obtain ⟨D1, hD1⟩ : ∃ D, k4.heap.size = D := ⟨_, rfl⟩; have H4 := hid (H5.out.alloc #[.int .i64 l9, .int .i64 h9] 99 hD1); go_simp
         refine hK.out _ _ (by (try dsimp only); exact ⟨H4.out.cell 1 rfl 0 rfl, H4.out.cell 1 rfl 1 rfl⟩) ?_; clear hK K hHeld; intro hHeld; try simp only [pz]
         clear hD1; generalize (k4.alloc (.cells #[.int .i64 l9, .int .i64 h9] 99)) = k4 at *; refine rdy 8 fun K hK => ?_
         rw [if_pos (by rfl)]; refine oper_append_vals _ _ 97 99 2 16 (.agg #[.int .i64 0, .int .i64 0]) Try.underlying97 info_span rfl (by decide) (by decide) rfl B _ _ _ D1 1 1 [.int .i64 l9, .int .i64 h9] rfl rfl rfl (H4.out.arrE 4 rfl) (lit_news H4.out 0 [.int .i64 l9, .int .i64 h9] rfl) (by intro u hu; simp at hu; rcases hu with rfl | rfl <;> rfl) (by omega) H4.out.size ?_; intro v9a k4 ho hg hv; have H5 := hid (H4.out.appendE 4 rfl ho hg hv); clear ho hg hv; obtain ⟨g1, c2, hva⟩ := arr_pos (H5.out.arrE 4 rfl) (by omega); subst hva; rw [show prV (L.take T) ++ [.int .i64 l9, .int .i64 h9] = prV ((L.take T) ++ [(l9, h9)]) from by rw [prV_app]; rfl] at H5; refine hK.out _ _ (by (try dsimp only); exact ⟨H5.out.cell 1 rfl 0 rfl, H5.out.cell 1 rfl 1 rfl⟩) ?_; clear hK K hHeld; intro hHeld; try simp only [pz]
         refine tk 9 ?_; refine wpAnyH_done (by kernel_rfl) ?_ _; try clear hHeld
         go_wp2_with fail
         go_roundw
         case rel => exact ⟨j + 1, (l9, h9) :: st.drop (pwK oc), ((L.take T) ++ [(l9, h9)]), (some ⟨g1, 0, none⟩), (T + 1), c2, by omega, by go_num, rfl, stk_take HLS.out HTK.out _, vGo_step HVR.out HKL.out (by simp only [List.length_cons, List.length_drop]; have := HKL.out; omega), iGo_step HG.out HD.out HPV.out HPK.out, by simp only [List.length_cons, List.length_drop]; have := HKL.out; omega, allAcc.step HA.out HPA.out _, H5.out.pick [4] rfl (by decide)⟩
         case measure => first | (simp [intOf]; omega) | (simp [intOf]; done)
        go_wp2_with fail
        go_ret3
        exact ⟨by rw [HEV.out, iGo_stop HG.out HD.out (HPP.out.2.trans HNb3.out)]; rfl, H2.out.bl⟩
       obtain ⟨D1, hD1⟩ : ∃ D, k3.heap.size = D := ⟨_, rfl⟩; have H2 := hid (H3.out.alloc #[.int .i64 0, .int .i64 0] 99 hD1); go_simp
       refine hK.out _ _ (by (try dsimp only); exact ⟨H2.out.cell 2 rfl 0 rfl, H2.out.cell 2 rfl 1 rfl, H2.out.cell 1 rfl 0 rfl, H2.out.cell 1 rfl 1 rfl, (by have := ((H2.out.oldPrs HS.out).get (i := j) hjn).1; rw [HOO.out] at this; exact this), (by have := ((H2.out.oldPrs HS.out).get (i := j) hjn).2; rw [HOO.out] at this; exact this)⟩) ?_; clear hK K hHeld; intro hHeld; try simp only [pz]
       clear hD1; generalize (k3.alloc (.cells #[.int .i64 0, .int .i64 0] 99)) = k3 at *; refine rdy 8 fun K hK => ?_
       go_simp
       go_at_call 84
       refine (rnext_any _ _ _ _ _ _ _ _ _ ⟨oc0, oc1⟩ (by decide) (by decide) (by decide) (by decide)).mono ?_; rintro e w1 ⟨⟨l9, h9, rfl, hlh⟩, hb⟩; have H3 := hid (H2.out.call hb); clear hb; obtain ⟨b1, hb1⟩ : ∃ xx', pwIok oc og (0, 0) (0, 0) u v = xx' := ⟨_, rfl⟩; rw [hb1] at hlh ⊢; have HNb3 := hid hb1; clear hb1; have HLH := hid hlh; clear hlh; have HPP := hid (show pwInt oc og (st.getD (pwK oc - 1) (0, 0)) (st.getD 0 (0, 0)) u v = pwInt oc og (0, 0) (0, 0) u v ∧ pwIok oc og (st.getD (pwK oc - 1) (0, 0)) (st.getD 0 (0, 0)) u v = pwIok oc og (0, 0) (0, 0) u v from pwInt_k0 oc0 HK0.out _ _ _ _ _ _ _); refine hK.out _ _ (by (try dsimp only); exact ⟨H3.out.cell 2 rfl 0 rfl, H3.out.cell 2 rfl 1 rfl, H3.out.cell 1 rfl 0 rfl, H3.out.cell 1 rfl 1 rfl, (by have := ((H3.out.oldPrs HS.out).get (i := j) hjn).1; rw [HOO.out] at this; exact this), (by have := ((H3.out.oldPrs HS.out).get (i := j) hjn).2; rw [HOO.out] at this; exact this)⟩) ?_; clear hK K hHeld; intro hHeld; try simp only [pz]
       refine tk 9 ?_; refine tk 10 ?_; refine tk 11 ?_; refine rdy 13 fun K hK => ?_
       obtain ⟨z2, z3, z4, z5⟩ := H3.out.f2 0 rfl; have H2 := hid (show St _ _ (.cells D1 #[.int .i64 l9, .int .i64 h9] 99 :: _) _ _ from ((H3.out.set 0 rfl 0 (.int .i64 l9)).set 0 rfl 1 (.int .i64 h9))); go_simp
       refine hK.out _ _ (by (try dsimp only); exact ⟨H2.out.cell 2 rfl 0 rfl, H2.out.cell 2 rfl 1 rfl, H2.out.cell 1 rfl 0 rfl, H2.out.cell 1 rfl 1 rfl, (by have := ((H2.out.oldPrs HS.out).get (i := j) hjn).1; rw [HOO.out] at this; exact this), (by have := ((H2.out.oldPrs HS.out).get (i := j) hjn).2; rw [HOO.out] at this; exact this)⟩) ?_; clear hK K hHeld; intro hHeld; try simp only [pz]
       clear z2 z3 z4 z5; generalize ((w1.setCell ⟨D1, 0, none⟩ (.int .i64 l9)).setCell ⟨D1, 1, none⟩ (.int .i64 h9)) = k3 at *; refine tk 14 ?_; refine wpAnyH_done (by kernel_rfl) ?_ _; try clear hHeld
       cases b1; rotate_left
       ·
        go_upto_region 19 with fail
        have hlh := (show l9 = (pwInt oc og (0, 0) (0, 0) u v).1 ∧ h9 = (pwInt oc og (0, 0) (0, 0) u v).2 from by first | exact HLH.out rfl | exact HLH.out trivial | exact HLH.out); have HPK := hid (show pwIok oc og (st.getD (pwK oc - 1) (0, 0)) (st.getD 0 (0, 0)) u v = true from by rw [HPP.out.2]; exact HNb3.out); have HPV := hid (show pwInt oc og (st.getD (pwK oc - 1) (0, 0)) (st.getD 0 (0, 0)) u v = (l9, h9) from by rw [HPP.out.1, hlh.1, hlh.2]); have HPA := hid (show accOk l9 = true ∧ accOk h9 = true from by have := pwIok_lo HPK.out; rw [HPV.out] at this; exact this); clear hlh; obtain ⟨t1, t2⟩ : (T : Int) ≤ ln ∧ (ln : Int) ≤ sc := by have := HTK.out; have := arr_cap (H2.out.arrE 3 rfl); omega
        have t3 : (T : Int) ≤ sc := by omega
        have t4 : 0 ≤ (T : Int) := by omega
        have t5 : IntKind.i64.wrap (T : Int) = T := IntWalk.i64_in _ (by omega); have H3 := hid (H2.out.take 3 rfl (k := T) (by omega)); rw [prV_take] at H3; go_upto_region 19 with fail
        have H4 := hid H3.out.drew; refine wp_region_held_drew (S := (fun w' => w'.cell? ⟨D1, 0, none⟩ = some (.int .i64 l9) ∧ w'.cell? ⟨D1, 1, none⟩ = some (.int .i64 h9))) (by kernel_rfl) ⟨H4.out.cell 0 rfl 0 rfl, H4.out.cell 0 rfl 1 rfl⟩ (fun hHeld => ?_); generalize k3.drew = k3 at *; refine tk 0 ?_; refine tk 1 ?_; refine tk 2 ?_; refine tk 3 ?_; refine tk 4 ?_; refine tk 5 ?_; refine tk 6 ?_; refine rdy 7 fun K hK => ?_
        obtain ⟨D1, hD1⟩ : ∃ D, k3.heap.size = D := ⟨_, rfl⟩; have H3 := hid (H4.out.alloc #[.int .i64 l9, .int .i64 h9] 99 hD1); go_simp
        refine hK.out _ _ (by (try dsimp only); exact ⟨H3.out.cell 1 rfl 0 rfl, H3.out.cell 1 rfl 1 rfl⟩) ?_; clear hK K hHeld; intro hHeld; try simp only [pz]
        clear hD1; generalize (k3.alloc (.cells #[.int .i64 l9, .int .i64 h9] 99)) = k3 at *; refine rdy 8 fun K hK => ?_
        rw [if_pos (by rfl)]; refine oper_append_vals _ _ 97 99 2 16 (.agg #[.int .i64 0, .int .i64 0]) Try.underlying97 info_span rfl (by decide) (by decide) rfl B _ _ _ D1 1 1 [.int .i64 l9, .int .i64 h9] rfl rfl rfl (H3.out.arrE 4 rfl) (lit_news H3.out 0 [.int .i64 l9, .int .i64 h9] rfl) (by intro u hu; simp at hu; rcases hu with rfl | rfl <;> rfl) (by omega) H3.out.size ?_; intro v9a k3 ho hg hv; have H4 := hid (H3.out.appendE 4 rfl ho hg hv); clear ho hg hv; obtain ⟨g1, c2, hva⟩ := arr_pos (H4.out.arrE 4 rfl) (by omega); subst hva; rw [show prV (L.take T) ++ [.int .i64 l9, .int .i64 h9] = prV ((L.take T) ++ [(l9, h9)]) from by rw [prV_app]; rfl] at H4; refine hK.out _ _ (by (try dsimp only); exact ⟨H4.out.cell 1 rfl 0 rfl, H4.out.cell 1 rfl 1 rfl⟩) ?_; clear hK K hHeld; intro hHeld; try simp only [pz]
        refine tk 9 ?_; refine wpAnyH_done (by kernel_rfl) ?_ _; try clear hHeld
        go_wp2_with fail
        go_roundw
        case rel => exact ⟨j + 1, (l9, h9) :: st.drop (pwK oc), ((L.take T) ++ [(l9, h9)]), (some ⟨g1, 0, none⟩), (T + 1), c2, by omega, by go_num, rfl, stk_take HLS.out HTK.out _, vGo_step HVR.out HKL.out (by simp only [List.length_cons, List.length_drop]; have := HKL.out; omega), iGo_step HG.out HD.out HPV.out HPK.out, by simp only [List.length_cons, List.length_drop]; have := HKL.out; omega, allAcc.step HA.out HPA.out _, H4.out.pick [4] rfl (by decide)⟩
        case measure => first | (simp [intOf]; omega) | (simp [intOf]; done)
       go_wp2_with fail
       go_ret3
       exact ⟨by rw [HEV.out, iGo_stop HG.out HD.out (HPP.out.2.trans HNb3.out)]; rfl, H2.out.bl⟩
      ·
       obtain rfl : k2 = 1 := by have := HNk2.out; omega
       clear HNk2; have HK0 := hid hk0; obtain ⟨T, hT⟩ : ∃ T : Nat, (ln : Int) - 1 = T := ⟨ln - 1, by have := HKL.out; omega⟩; have HTK := hid (show T + pwK oc = st.length from by have := HKL.out; omega); obtain ⟨x0, x1, hx⟩ : ∃ x0 x1, L.getD T (0, 0) = (x0, x1) := ⟨_, _, rfl⟩; have HXS := hid (show st.getD (pwK oc - 1) (0, 0) = (x0, x1) from by rw [← hx]; exact (stk_get (0, 0) HLS.out (by omega) HTK.out).symm); have HXA := hid (show accOk x0 = true ∧ accOk x1 = true from by have := HA.out (pwK oc - 1); rw [HXS.out] at this; exact this); have HX := hid hx; clear hx; obtain ⟨D1, hD1⟩ : ∃ D, u1.heap.size = D := ⟨_, rfl⟩; go_upto_region 12 with fail
       have H2 := hid (show St _ _ (.cells (D1 + 1) _ _ :: .cells D1 _ _ :: _) _ _ from ((H1.out.alloc #[.int .i64 0, .int .i64 0] 99 hD1).alloc #[.int .i64 0, .int .i64 0] 99 (by first | exact hD1 | simp [hD1]))); first | refine gK H2 ?_ | refine gL H2 ?_ | refine gC H2 ?_
       clear H2; intro w1 H2; clear hD1; go_upto_region 15 with fail
       obtain ⟨zx0, zx1⟩ := arr_pair (H2.out.arrE 2 rfl) (i := T) (by have := HTK.out; omega); rw [HX.out] at zx0 zx1
       dsimp only at zx0 zx1
       obtain ⟨z2, z3, z4, z5⟩ := H2.out.f2 1 rfl; go_upto_region 16 with fail
       clear z2 z3 z4 z5; have H3 := hid (show St _ _ (_ :: .cells D1 #[.int .i64 x0, .int .i64 x1] 99 :: _) _ _ from ((H2.out.set 1 rfl 0 (.int .i64 x0)).set 1 rfl 1 (.int .i64 x1))); first | refine gK H3 ?_ | refine gL H3 ?_ | refine gC H3 ?_
       clear H3; intro w1 H3; have HOO := hid (show zs.getD j (0, 0) = (oc, og) from by have := HD.out; rw [List.drop_eq_getElem_cons (by have := HL.out; omega)] at this; rw [List.getD_eq_getElem?_getD, List.getElem?_eq_getElem (by have := HL.out; omega), ← (List.cons.inj this).1]; rfl); have H2 := hid H3.out.drew; refine wp_region_held_drew (S := (fun w' => w'.cell? ⟨D1, 0, none⟩ = some (.int .i64 x0) ∧ w'.cell? ⟨D1, 1, none⟩ = some (.int .i64 x1) ∧ w'.cell? ⟨D1 + 1, 0, none⟩ = some (.int .i64 0) ∧ w'.cell? ⟨D1 + 1, 1, none⟩ = some (.int .i64 0) ∧ w'.cell? ⟨pb, po + j * 2, none⟩ = some (.int .i64 oc) ∧ w'.cell? ⟨pb, po + j * 2 + 1, none⟩ = some (.int .i64 og))) (by kernel_rfl) ⟨H2.out.cell 1 rfl 0 rfl, H2.out.cell 1 rfl 1 rfl, H2.out.cell 0 rfl 0 rfl, H2.out.cell 0 rfl 1 rfl, (by have := ((H2.out.oldPrs HS.out).get (i := j) hjn).1; rw [HOO.out] at this; exact this), (by have := ((H2.out.oldPrs HS.out).get (i := j) hjn).2; rw [HOO.out] at this; exact this)⟩ (fun hHeld => ?_); generalize w1.drew = k3 at *; refine tk 0 ?_; refine tk 1 ?_; refine tk 2 ?_; refine tk 3 ?_; refine tk 4 ?_; refine tk 5 ?_; refine tk 6 ?_; refine tk 7 ?_; refine wpAnyH_ready (rs := [8, 12]) (by kernel_rfl) (by simp) (AllReadyH.cons (o := _) rfl (fun K hK => ?_) (AllReadyH.cons (o := _) rfl (fun K hK => ?_) AllReadyH.nil))
       ·
        go_simp
        go_at_call 84
        refine (rnext_any _ _ _ _ _ _ _ _ _ ⟨oc0, oc1⟩ HXA.out.1 HXA.out.2 (by decide) (by decide)).mono ?_; rintro e w1 ⟨⟨l9, h9, rfl, hlh⟩, hb⟩; have H3 := hid (H2.out.call hb); clear hb; obtain ⟨b1, hb1⟩ : ∃ xx', pwIok oc og (x0, x1) (0, 0) u v = xx' := ⟨_, rfl⟩; rw [hb1] at hlh ⊢; have HNb3 := hid hb1; clear hb1; have HLH := hid hlh; clear hlh; have HPP := hid (show pwInt oc og (st.getD (pwK oc - 1) (0, 0)) (st.getD 0 (0, 0)) u v = pwInt oc og (x0, x1) (0, 0) u v ∧ pwIok oc og (st.getD (pwK oc - 1) (0, 0)) (st.getD 0 (0, 0)) u v = pwIok oc og (x0, x1) (0, 0) u v from by rw [HXS.out]; exact pwInt_k1 oc1 HK0.out _ _ _ _ _ _); refine hK.out _ _ (by (try dsimp only); exact ⟨H3.out.cell 1 rfl 0 rfl, H3.out.cell 1 rfl 1 rfl, H3.out.cell 0 rfl 0 rfl, H3.out.cell 0 rfl 1 rfl, (by have := ((H3.out.oldPrs HS.out).get (i := j) hjn).1; rw [HOO.out] at this; exact this), (by have := ((H3.out.oldPrs HS.out).get (i := j) hjn).2; rw [HOO.out] at this; exact this)⟩) ?_; clear hK K hHeld; intro hHeld; try simp only [pz]
        refine tk 9 ?_; refine tk 10 ?_; refine tk 11 ?_; refine rdy 12 fun K hK => ?_
        obtain ⟨D256, hD256⟩ : ∃ D, w1.heap.size = D := ⟨_, rfl⟩; have H4 := hid (H3.out.alloc #[.int .i64 0, .int .i64 0] 99 hD256); go_simp
        refine hK.out _ _ (by (try dsimp only); exact ⟨H4.out.cell 2 rfl 0 rfl, H4.out.cell 2 rfl 1 rfl, H4.out.cell 1 rfl 0 rfl, H4.out.cell 1 rfl 1 rfl, (by have := ((H4.out.oldPrs HS.out).get (i := j) hjn).1; rw [HOO.out] at this; exact this), (by have := ((H4.out.oldPrs HS.out).get (i := j) hjn).2; rw [HOO.out] at this; exact this)⟩) ?_; clear hK K hHeld; intro hHeld; try simp only [pz]
        clear hD256; generalize (w1.alloc (.cells #[.int .i64 0, .int .i64 0] 99)) = k4 at *; refine rdy 13 fun K hK => ?_
        obtain ⟨z2, z3, z4, z5⟩ := H4.out.f2 0 rfl; have H3 := hid (show St _ _ (.cells D256 #[.int .i64 l9, .int .i64 h9] 99 :: _) _ _ from ((H4.out.set 0 rfl 0 (.int .i64 l9)).set 0 rfl 1 (.int .i64 h9))); go_simp
        refine hK.out _ _ (by (try dsimp only); exact ⟨H3.out.cell 2 rfl 0 rfl, H3.out.cell 2 rfl 1 rfl, H3.out.cell 1 rfl 0 rfl, H3.out.cell 1 rfl 1 rfl, (by have := ((H3.out.oldPrs HS.out).get (i := j) hjn).1; rw [HOO.out] at this; exact this), (by have := ((H3.out.oldPrs HS.out).get (i := j) hjn).2; rw [HOO.out] at this; exact this)⟩) ?_; clear hK K hHeld; intro hHeld; try simp only [pz]
        clear z2 z3 z4 z5; generalize ((k4.setCell ⟨D256, 0, none⟩ (.int .i64 l9)).setCell ⟨D256, 1, none⟩ (.int .i64 h9)) = k4 at *; refine tk 14 ?_; refine wpAnyH_done (by kernel_rfl) ?_ _; try clear hHeld
        cases b1; rotate_left
        ·
         go_upto_region 19 with fail
         have hlh := (show l9 = (pwInt oc og (x0, x1) (0, 0) u v).1 ∧ h9 = (pwInt oc og (x0, x1) (0, 0) u v).2 from by first | exact HLH.out rfl | exact HLH.out trivial | exact HLH.out); have HPK := hid (show pwIok oc og (st.getD (pwK oc - 1) (0, 0)) (st.getD 0 (0, 0)) u v = true from by rw [HPP.out.2]; exact HNb3.out); have HPV := hid (show pwInt oc og (st.getD (pwK oc - 1) (0, 0)) (st.getD 0 (0, 0)) u v = (l9, h9) from by rw [HPP.out.1, hlh.1, hlh.2]); have HPA := hid (show accOk l9 = true ∧ accOk h9 = true from by have := pwIok_lo HPK.out; rw [HPV.out] at this; exact this); clear hlh; obtain ⟨t1, t2⟩ : (T : Int) ≤ ln ∧ (ln : Int) ≤ sc := by have := HTK.out; have := arr_cap (H3.out.arrE 3 rfl); omega
         have t3 : (T : Int) ≤ sc := by omega
         have t4 : 0 ≤ (T : Int) := by omega
         have t5 : IntKind.i64.wrap (T : Int) = T := IntWalk.i64_in _ (by omega); have H4 := hid (H3.out.take 3 rfl (k := T) (by omega)); rw [prV_take] at H4; go_upto_region 19 with fail
         have H5 := hid H4.out.drew; refine wp_region_held_drew (S := (fun w' => w'.cell? ⟨D256, 0, none⟩ = some (.int .i64 l9) ∧ w'.cell? ⟨D256, 1, none⟩ = some (.int .i64 h9))) (by kernel_rfl) ⟨H5.out.cell 0 rfl 0 rfl, H5.out.cell 0 rfl 1 rfl⟩ (fun hHeld => ?_); generalize k4.drew = k4 at *; refine tk 0 ?_; refine tk 1 ?_; refine tk 2 ?_; refine tk 3 ?_; refine tk 4 ?_; refine tk 5 ?_; refine tk 6 ?_; refine rdy 7 fun K hK => ?_
         obtain ⟨D1, hD1⟩ : ∃ D, k4.heap.size = D := ⟨_, rfl⟩; have H4 := hid (H5.out.alloc #[.int .i64 l9, .int .i64 h9] 99 hD1); go_simp
         refine hK.out _ _ (by (try dsimp only); exact ⟨H4.out.cell 1 rfl 0 rfl, H4.out.cell 1 rfl 1 rfl⟩) ?_; clear hK K hHeld; intro hHeld; try simp only [pz]
         clear hD1; generalize (k4.alloc (.cells #[.int .i64 l9, .int .i64 h9] 99)) = k4 at *; refine rdy 8 fun K hK => ?_
         rw [if_pos (by rfl)]; refine oper_append_vals _ _ 97 99 2 16 (.agg #[.int .i64 0, .int .i64 0]) Try.underlying97 info_span rfl (by decide) (by decide) rfl B _ _ _ D1 1 1 [.int .i64 l9, .int .i64 h9] rfl rfl rfl (H4.out.arrE 4 rfl) (lit_news H4.out 0 [.int .i64 l9, .int .i64 h9] rfl) (by intro u hu; simp at hu; rcases hu with rfl | rfl <;> rfl) (by omega) H4.out.size ?_; intro v9a k4 ho hg hv; have H5 := hid (H4.out.appendE 4 rfl ho hg hv); clear ho hg hv; obtain ⟨g1, c2, hva⟩ := arr_pos (H5.out.arrE 4 rfl) (by omega); subst hva; rw [show prV (L.take T) ++ [.int .i64 l9, .int .i64 h9] = prV ((L.take T) ++ [(l9, h9)]) from by rw [prV_app]; rfl] at H5; refine hK.out _ _ (by (try dsimp only); exact ⟨H5.out.cell 1 rfl 0 rfl, H5.out.cell 1 rfl 1 rfl⟩) ?_; clear hK K hHeld; intro hHeld; try simp only [pz]
         refine tk 9 ?_; refine wpAnyH_done (by kernel_rfl) ?_ _; try clear hHeld
         go_wp2_with fail
         go_roundw
         case rel => exact ⟨j + 1, (l9, h9) :: st.drop (pwK oc), ((L.take T) ++ [(l9, h9)]), (some ⟨g1, 0, none⟩), (T + 1), c2, by omega, by go_num, rfl, stk_take HLS.out HTK.out _, vGo_step HVR.out HKL.out (by simp only [List.length_cons, List.length_drop]; have := HKL.out; omega), iGo_step HG.out HD.out HPV.out HPK.out, by simp only [List.length_cons, List.length_drop]; have := HKL.out; omega, allAcc.step HA.out HPA.out _, H5.out.pick [4] rfl (by decide)⟩
         case measure => first | (simp [intOf]; omega) | (simp [intOf]; done)
        go_wp2_with fail
        go_ret3
        exact ⟨by rw [HEV.out, iGo_stop HG.out HD.out (HPP.out.2.trans HNb3.out)]; rfl, H3.out.bl⟩
       obtain ⟨D1, hD1⟩ : ∃ D, k3.heap.size = D := ⟨_, rfl⟩; have H3 := hid (H2.out.alloc #[.int .i64 0, .int .i64 0] 99 hD1); go_simp
       refine hK.out _ _ (by (try dsimp only); exact ⟨H3.out.cell 2 rfl 0 rfl, H3.out.cell 2 rfl 1 rfl, H3.out.cell 1 rfl 0 rfl, H3.out.cell 1 rfl 1 rfl, (by have := ((H3.out.oldPrs HS.out).get (i := j) hjn).1; rw [HOO.out] at this; exact this), (by have := ((H3.out.oldPrs HS.out).get (i := j) hjn).2; rw [HOO.out] at this; exact this)⟩) ?_; clear hK K hHeld; intro hHeld; try simp only [pz]
       clear hD1; generalize (k3.alloc (.cells #[.int .i64 0, .int .i64 0] 99)) = k3 at *; refine rdy 8 fun K hK => ?_
       go_simp
       go_at_call 84
       refine (rnext_any _ _ _ _ _ _ _ _ _ ⟨oc0, oc1⟩ HXA.out.1 HXA.out.2 (by decide) (by decide)).mono ?_; rintro e w1 ⟨⟨l9, h9, rfl, hlh⟩, hb⟩; have H2 := hid (H3.out.call hb); clear hb; obtain ⟨b1, hb1⟩ : ∃ xx', pwIok oc og (x0, x1) (0, 0) u v = xx' := ⟨_, rfl⟩; rw [hb1] at hlh ⊢; have HNb3 := hid hb1; clear hb1; have HLH := hid hlh; clear hlh; have HPP := hid (show pwInt oc og (st.getD (pwK oc - 1) (0, 0)) (st.getD 0 (0, 0)) u v = pwInt oc og (x0, x1) (0, 0) u v ∧ pwIok oc og (st.getD (pwK oc - 1) (0, 0)) (st.getD 0 (0, 0)) u v = pwIok oc og (x0, x1) (0, 0) u v from by rw [HXS.out]; exact pwInt_k1 oc1 HK0.out _ _ _ _ _ _); refine hK.out _ _ (by (try dsimp only); exact ⟨H2.out.cell 2 rfl 0 rfl, H2.out.cell 2 rfl 1 rfl, H2.out.cell 1 rfl 0 rfl, H2.out.cell 1 rfl 1 rfl, (by have := ((H2.out.oldPrs HS.out).get (i := j) hjn).1; rw [HOO.out] at this; exact this), (by have := ((H2.out.oldPrs HS.out).get (i := j) hjn).2; rw [HOO.out] at this; exact this)⟩) ?_; clear hK K hHeld; intro hHeld; try simp only [pz]
       refine tk 9 ?_; refine tk 10 ?_; refine tk 11 ?_; refine rdy 13 fun K hK => ?_
       obtain ⟨z2, z3, z4, z5⟩ := H2.out.f2 0 rfl; have H3 := hid (show St _ _ (.cells D1 #[.int .i64 l9, .int .i64 h9] 99 :: _) _ _ from ((H2.out.set 0 rfl 0 (.int .i64 l9)).set 0 rfl 1 (.int .i64 h9))); go_simp
       refine hK.out _ _ (by (try dsimp only); exact ⟨H3.out.cell 2 rfl 0 rfl, H3.out.cell 2 rfl 1 rfl, H3.out.cell 1 rfl 0 rfl, H3.out.cell 1 rfl 1 rfl, (by have := ((H3.out.oldPrs HS.out).get (i := j) hjn).1; rw [HOO.out] at this; exact this), (by have := ((H3.out.oldPrs HS.out).get (i := j) hjn).2; rw [HOO.out] at this; exact this)⟩) ?_; clear hK K hHeld; intro hHeld; try simp only [pz]
       clear z2 z3 z4 z5; generalize ((w1.setCell ⟨D1, 0, none⟩ (.int .i64 l9)).setCell ⟨D1, 1, none⟩ (.int .i64 h9)) = k3 at *; refine tk 14 ?_; refine wpAnyH_done (by kernel_rfl) ?_ _; try clear hHeld
       cases b1; rotate_left
       ·
        go_upto_region 19 with fail
        have hlh := (show l9 = (pwInt oc og (x0, x1) (0, 0) u v).1 ∧ h9 = (pwInt oc og (x0, x1) (0, 0) u v).2 from by first | exact HLH.out rfl | exact HLH.out trivial | exact HLH.out); have HPK := hid (show pwIok oc og (st.getD (pwK oc - 1) (0, 0)) (st.getD 0 (0, 0)) u v = true from by rw [HPP.out.2]; exact HNb3.out); have HPV := hid (show pwInt oc og (st.getD (pwK oc - 1) (0, 0)) (st.getD 0 (0, 0)) u v = (l9, h9) from by rw [HPP.out.1, hlh.1, hlh.2]); have HPA := hid (show accOk l9 = true ∧ accOk h9 = true from by have := pwIok_lo HPK.out; rw [HPV.out] at this; exact this); clear hlh; obtain ⟨t1, t2⟩ : (T : Int) ≤ ln ∧ (ln : Int) ≤ sc := by have := HTK.out; have := arr_cap (H3.out.arrE 3 rfl); omega
        have t3 : (T : Int) ≤ sc := by omega
        have t4 : 0 ≤ (T : Int) := by omega
        have t5 : IntKind.i64.wrap (T : Int) = T := IntWalk.i64_in _ (by omega); have H2 := hid (H3.out.take 3 rfl (k := T) (by omega)); rw [prV_take] at H2; go_upto_region 19 with fail
        have H4 := hid H2.out.drew; refine wp_region_held_drew (S := (fun w' => w'.cell? ⟨D1, 0, none⟩ = some (.int .i64 l9) ∧ w'.cell? ⟨D1, 1, none⟩ = some (.int .i64 h9))) (by kernel_rfl) ⟨H4.out.cell 0 rfl 0 rfl, H4.out.cell 0 rfl 1 rfl⟩ (fun hHeld => ?_); generalize k3.drew = k3 at *; refine tk 0 ?_; refine tk 1 ?_; refine tk 2 ?_; refine tk 3 ?_; refine tk 4 ?_; refine tk 5 ?_; refine tk 6 ?_; refine rdy 7 fun K hK => ?_
        obtain ⟨D1, hD1⟩ : ∃ D, k3.heap.size = D := ⟨_, rfl⟩; have H2 := hid (H4.out.alloc #[.int .i64 l9, .int .i64 h9] 99 hD1); go_simp
        refine hK.out _ _ (by (try dsimp only); exact ⟨H2.out.cell 1 rfl 0 rfl, H2.out.cell 1 rfl 1 rfl⟩) ?_; clear hK K hHeld; intro hHeld; try simp only [pz]
        clear hD1; generalize (k3.alloc (.cells #[.int .i64 l9, .int .i64 h9] 99)) = k3 at *; refine rdy 8 fun K hK => ?_
        rw [if_pos (by rfl)]; refine oper_append_vals _ _ 97 99 2 16 (.agg #[.int .i64 0, .int .i64 0]) Try.underlying97 info_span rfl (by decide) (by decide) rfl B _ _ _ D1 1 1 [.int .i64 l9, .int .i64 h9] rfl rfl rfl (H2.out.arrE 4 rfl) (lit_news H2.out 0 [.int .i64 l9, .int .i64 h9] rfl) (by intro u hu; simp at hu; rcases hu with rfl | rfl <;> rfl) (by omega) H2.out.size ?_; intro v9a k3 ho hg hv; have H4 := hid (H2.out.appendE 4 rfl ho hg hv); clear ho hg hv; obtain ⟨g1, c2, hva⟩ := arr_pos (H4.out.arrE 4 rfl) (by omega); subst hva; rw [show prV (L.take T) ++ [.int .i64 l9, .int .i64 h9] = prV ((L.take T) ++ [(l9, h9)]) from by rw [prV_app]; rfl] at H4; refine hK.out _ _ (by (try dsimp only); exact ⟨H4.out.cell 1 rfl 0 rfl, H4.out.cell 1 rfl 1 rfl⟩) ?_; clear hK K hHeld; intro hHeld; try simp only [pz]
        refine tk 9 ?_; refine wpAnyH_done (by kernel_rfl) ?_ _; try clear hHeld
        go_wp2_with fail
        go_roundw
        case rel => exact ⟨j + 1, (l9, h9) :: st.drop (pwK oc), ((L.take T) ++ [(l9, h9)]), (some ⟨g1, 0, none⟩), (T + 1), c2, by omega, by go_num, rfl, stk_take HLS.out HTK.out _, vGo_step HVR.out HKL.out (by simp only [List.length_cons, List.length_drop]; have := HKL.out; omega), iGo_step HG.out HD.out HPV.out HPK.out, by simp only [List.length_cons, List.length_drop]; have := HKL.out; omega, allAcc.step HA.out HPA.out _, H4.out.pick [4] rfl (by decide)⟩
        case measure => first | (simp [intOf]; omega) | (simp [intOf]; done)
       go_wp2_with fail
       go_ret3
       exact ⟨by rw [HEV.out, iGo_stop HG.out HD.out (HPP.out.2.trans HNb3.out)]; rfl, H3.out.bl⟩
      obtain rfl : k2 = 2 := by have := HNk2.out; omega
      clear HNk2; have HK0 := hid hk0; obtain ⟨T, hT⟩ : ∃ T : Nat, (ln : Int) - 2 = T := ⟨ln - 2, by have := HKL.out; omega⟩; have HTK := hid (show T + pwK oc = st.length from by have := HKL.out; omega); obtain ⟨x0, x1, hx⟩ : ∃ x0 x1, L.getD T (0, 0) = (x0, x1) := ⟨_, _, rfl⟩; have HXS := hid (show st.getD (pwK oc - 1) (0, 0) = (x0, x1) from by rw [← hx]; exact (stk_get (0, 0) HLS.out (by omega) HTK.out).symm); have HXA := hid (show accOk x0 = true ∧ accOk x1 = true from by have := HA.out (pwK oc - 1); rw [HXS.out] at this; exact this); have HX := hid hx; clear hx; obtain ⟨T1, hT1⟩ : ∃ T1 : Nat, (ln : Int) - 1 = T1 := ⟨ln - 1, by have := HKL.out; omega⟩; obtain ⟨y0, y1, hy⟩ : ∃ y0 y1, L.getD T1 (0, 0) = (y0, y1) := ⟨_, _, rfl⟩; have HYS := hid (show st.getD 0 (0, 0) = (y0, y1) from by rw [← hy]; exact (stk_get (K := 1) (0, 0) HLS.out (by omega) (by omega)).symm); have HYA := hid (show accOk y0 = true ∧ accOk y1 = true from by have := HA.out 0; rw [HYS.out] at this; exact this); have HY := hid hy; clear hy; obtain ⟨D1, hD1⟩ : ∃ D, u1.heap.size = D := ⟨_, rfl⟩; go_upto_region 12 with fail
      have H2 := hid (show St _ _ (.cells (D1 + 1) _ _ :: .cells D1 _ _ :: _) _ _ from ((H1.out.alloc #[.int .i64 0, .int .i64 0] 99 hD1).alloc #[.int .i64 0, .int .i64 0] 99 (by first | exact hD1 | simp [hD1]))); first | refine gK H2 ?_ | refine gL H2 ?_ | refine gC H2 ?_
      clear H2; intro w1 H2; clear hD1; go_upto_region 13 with fail
      obtain ⟨zy0, zy1⟩ := arr_pair (H2.out.arrE 2 rfl) (i := T1) (by have := HTK.out; omega); rw [HY.out] at zy0 zy1
      dsimp only at zy0 zy1
      obtain ⟨z2, z3, z4, z5⟩ := H2.out.f2 0 rfl; go_upto_region 14 with fail
      clear z2 z3 z4 z5; have H3 := hid (show St _ _ (.cells (D1 + 1) #[.int .i64 y0, .int .i64 y1] 99 :: _) _ _ from ((H2.out.set 0 rfl 0 (.int .i64 y0)).set 0 rfl 1 (.int .i64 y1))); first | refine gK H3 ?_ | refine gL H3 ?_ | refine gC H3 ?_
      clear H3; intro w1 H3; go_upto_region 15 with fail
      obtain ⟨zx0, zx1⟩ := arr_pair (H3.out.arrE 2 rfl) (i := T) (by have := HTK.out; omega); rw [HX.out] at zx0 zx1
      dsimp only at zx0 zx1
      obtain ⟨z2, z3, z4, z5⟩ := H3.out.f2 1 rfl; go_upto_region 16 with fail
      clear z2 z3 z4 z5; have H2 := hid (show St _ _ (_ :: .cells D1 #[.int .i64 x0, .int .i64 x1] 99 :: _) _ _ from ((H3.out.set 1 rfl 0 (.int .i64 x0)).set 1 rfl 1 (.int .i64 x1))); first | refine gK H2 ?_ | refine gL H2 ?_ | refine gC H2 ?_
      clear H2; intro w1 H2; have HOO := hid (show zs.getD j (0, 0) = (oc, og) from by have := HD.out; rw [List.drop_eq_getElem_cons (by have := HL.out; omega)] at this; rw [List.getD_eq_getElem?_getD, List.getElem?_eq_getElem (by have := HL.out; omega), ← (List.cons.inj this).1]; rfl); have H3 := hid H2.out.drew; refine wp_region_held_drew (S := (fun w' => w'.cell? ⟨D1, 0, none⟩ = some (.int .i64 x0) ∧ w'.cell? ⟨D1, 1, none⟩ = some (.int .i64 x1) ∧ w'.cell? ⟨D1 + 1, 0, none⟩ = some (.int .i64 y0) ∧ w'.cell? ⟨D1 + 1, 1, none⟩ = some (.int .i64 y1) ∧ w'.cell? ⟨pb, po + j * 2, none⟩ = some (.int .i64 oc) ∧ w'.cell? ⟨pb, po + j * 2 + 1, none⟩ = some (.int .i64 og))) (by kernel_rfl) ⟨H3.out.cell 1 rfl 0 rfl, H3.out.cell 1 rfl 1 rfl, H3.out.cell 0 rfl 0 rfl, H3.out.cell 0 rfl 1 rfl, (by have := ((H3.out.oldPrs HS.out).get (i := j) hjn).1; rw [HOO.out] at this; exact this), (by have := ((H3.out.oldPrs HS.out).get (i := j) hjn).2; rw [HOO.out] at this; exact this)⟩ (fun hHeld => ?_); generalize w1.drew = k2 at *; refine tk 0 ?_; refine tk 1 ?_; refine tk 2 ?_; refine tk 3 ?_; refine tk 4 ?_; refine tk 5 ?_; refine tk 6 ?_; refine tk 7 ?_; refine wpAnyH_ready (rs := [8, 12]) (by kernel_rfl) (by simp) (AllReadyH.cons (o := _) rfl (fun K hK => ?_) (AllReadyH.cons (o := _) rfl (fun K hK => ?_) AllReadyH.nil))
      ·
       go_simp
       go_at_call 84
       refine (rnext_any _ _ _ _ _ _ _ _ _ ⟨oc0, oc1⟩ HXA.out.1 HXA.out.2 HYA.out.1 HYA.out.2).mono ?_; rintro e w1 ⟨⟨l9, h9, rfl, hlh⟩, hb⟩; have H2 := hid (H3.out.call hb); clear hb; obtain ⟨b1, hb1⟩ : ∃ xx', pwIok oc og (x0, x1) (y0, y1) u v = xx' := ⟨_, rfl⟩; rw [hb1] at hlh ⊢; have HNb3 := hid hb1; clear hb1; have HLH := hid hlh; clear hlh; have HPP := hid (show pwInt oc og (st.getD (pwK oc - 1) (0, 0)) (st.getD 0 (0, 0)) u v = pwInt oc og (x0, x1) (y0, y1) u v ∧ pwIok oc og (st.getD (pwK oc - 1) (0, 0)) (st.getD 0 (0, 0)) u v = pwIok oc og (x0, x1) (y0, y1) u v from by rw [HXS.out, HYS.out]; exact ⟨rfl, rfl⟩); refine hK.out _ _ (by (try dsimp only); exact ⟨H2.out.cell 1 rfl 0 rfl, H2.out.cell 1 rfl 1 rfl, H2.out.cell 0 rfl 0 rfl, H2.out.cell 0 rfl 1 rfl, (by have := ((H2.out.oldPrs HS.out).get (i := j) hjn).1; rw [HOO.out] at this; exact this), (by have := ((H2.out.oldPrs HS.out).get (i := j) hjn).2; rw [HOO.out] at this; exact this)⟩) ?_; clear hK K hHeld; intro hHeld; try simp only [pz]
       refine tk 9 ?_; refine tk 10 ?_; refine tk 11 ?_; refine rdy 12 fun K hK => ?_
       obtain ⟨D1, hD1⟩ : ∃ D, w1.heap.size = D := ⟨_, rfl⟩; have H4 := hid (H2.out.alloc #[.int .i64 0, .int .i64 0] 99 hD1); go_simp
       refine hK.out _ _ (by (try dsimp only); exact ⟨H4.out.cell 2 rfl 0 rfl, H4.out.cell 2 rfl 1 rfl, H4.out.cell 1 rfl 0 rfl, H4.out.cell 1 rfl 1 rfl, (by have := ((H4.out.oldPrs HS.out).get (i := j) hjn).1; rw [HOO.out] at this; exact this), (by have := ((H4.out.oldPrs HS.out).get (i := j) hjn).2; rw [HOO.out] at this; exact this)⟩) ?_; clear hK K hHeld; intro hHeld; try simp only [pz]
       clear hD1; generalize (w1.alloc (.cells #[.int .i64 0, .int .i64 0] 99)) = k3 at *; refine rdy 13 fun K hK => ?_
       obtain ⟨z2, z3, z4, z5⟩ := H4.out.f2 0 rfl; have H2 := hid (show St _ _ (.cells D1 #[.int .i64 l9, .int .i64 h9] 99 :: _) _ _ from ((H4.out.set 0 rfl 0 (.int .i64 l9)).set 0 rfl 1 (.int .i64 h9))); go_simp
       refine hK.out _ _ (by (try dsimp only); exact ⟨H2.out.cell 2 rfl 0 rfl, H2.out.cell 2 rfl 1 rfl, H2.out.cell 1 rfl 0 rfl, H2.out.cell 1 rfl 1 rfl, (by have := ((H2.out.oldPrs HS.out).get (i := j) hjn).1; rw [HOO.out] at this; exact this), (by have := ((H2.out.oldPrs HS.out).get (i := j) hjn).2; rw [HOO.out] at this; exact this)⟩) ?_; clear hK K hHeld; intro hHeld; try simp only [pz]
       clear z2 z3 z4 z5; generalize ((k3.setCell ⟨D1, 0, none⟩ (.int .i64 l9)).setCell ⟨D1, 1, none⟩ (.int .i64 h9)) = k3 at *; refine tk 14 ?_; refine wpAnyH_done (by kernel_rfl) ?_ _; try clear hHeld
       cases b1; rotate_left
       ·
        go_upto_region 19 with fail
        have hlh := (show l9 = (pwInt oc og (x0, x1) (y0, y1) u v).1 ∧ h9 = (pwInt oc og (x0, x1) (y0, y1) u v).2 from by first | exact HLH.out rfl | exact HLH.out trivial | exact HLH.out); have HPK := hid (show pwIok oc og (st.getD (pwK oc - 1) (0, 0)) (st.getD 0 (0, 0)) u v = true from by rw [HPP.out.2]; exact HNb3.out); have HPV := hid (show pwInt oc og (st.getD (pwK oc - 1) (0, 0)) (st.getD 0 (0, 0)) u v = (l9, h9) from by rw [HPP.out.1, hlh.1, hlh.2]); have HPA := hid (show accOk l9 = true ∧ accOk h9 = true from by have := pwIok_lo HPK.out; rw [HPV.out] at this; exact this); clear hlh; obtain ⟨t1, t2⟩ : (T : Int) ≤ ln ∧ (ln : Int) ≤ sc := by have := HTK.out; have := arr_cap (H2.out.arrE 3 rfl); omega
        have t3 : (T : Int) ≤ sc := by omega
        have t4 : 0 ≤ (T : Int) := by omega
        have t5 : IntKind.i64.wrap (T : Int) = T := IntWalk.i64_in _ (by omega); have H4 := hid (H2.out.take 3 rfl (k := T) (by omega)); rw [prV_take] at H4; go_upto_region 19 with fail
        have H5 := hid H4.out.drew; refine wp_region_held_drew (S := (fun w' => w'.cell? ⟨D1, 0, none⟩ = some (.int .i64 l9) ∧ w'.cell? ⟨D1, 1, none⟩ = some (.int .i64 h9))) (by kernel_rfl) ⟨H5.out.cell 0 rfl 0 rfl, H5.out.cell 0 rfl 1 rfl⟩ (fun hHeld => ?_); generalize k3.drew = k3 at *; refine tk 0 ?_; refine tk 1 ?_; refine tk 2 ?_; refine tk 3 ?_; refine tk 4 ?_; refine tk 5 ?_; refine tk 6 ?_; refine rdy 7 fun K hK => ?_
        obtain ⟨D1, hD1⟩ : ∃ D, k3.heap.size = D := ⟨_, rfl⟩; have H4 := hid (H5.out.alloc #[.int .i64 l9, .int .i64 h9] 99 hD1); go_simp
        refine hK.out _ _ (by (try dsimp only); exact ⟨H4.out.cell 1 rfl 0 rfl, H4.out.cell 1 rfl 1 rfl⟩) ?_; clear hK K hHeld; intro hHeld; try simp only [pz]
        clear hD1; generalize (k3.alloc (.cells #[.int .i64 l9, .int .i64 h9] 99)) = k3 at *; refine rdy 8 fun K hK => ?_
        rw [if_pos (by rfl)]; refine oper_append_vals _ _ 97 99 2 16 (.agg #[.int .i64 0, .int .i64 0]) Try.underlying97 info_span rfl (by decide) (by decide) rfl B _ _ _ D1 1 1 [.int .i64 l9, .int .i64 h9] rfl rfl rfl (H4.out.arrE 4 rfl) (lit_news H4.out 0 [.int .i64 l9, .int .i64 h9] rfl) (by intro u hu; simp at hu; rcases hu with rfl | rfl <;> rfl) (by omega) H4.out.size ?_; intro v9a k3 ho hg hv; have H5 := hid (H4.out.appendE 4 rfl ho hg hv); clear ho hg hv; obtain ⟨g1, c2, hva⟩ := arr_pos (H5.out.arrE 4 rfl) (by omega); subst hva; rw [show prV (L.take T) ++ [.int .i64 l9, .int .i64 h9] = prV ((L.take T) ++ [(l9, h9)]) from by rw [prV_app]; rfl] at H5; refine hK.out _ _ (by (try dsimp only); exact ⟨H5.out.cell 1 rfl 0 rfl, H5.out.cell 1 rfl 1 rfl⟩) ?_; clear hK K hHeld; intro hHeld; try simp only [pz]
        refine tk 9 ?_; refine wpAnyH_done (by kernel_rfl) ?_ _; try clear hHeld
        go_wp2_with fail
        go_roundw
        case rel => exact ⟨j + 1, (l9, h9) :: st.drop (pwK oc), ((L.take T) ++ [(l9, h9)]), (some ⟨g1, 0, none⟩), (T + 1), c2, by omega, by go_num, rfl, stk_take HLS.out HTK.out _, vGo_step HVR.out HKL.out (by simp only [List.length_cons, List.length_drop]; have := HKL.out; omega), iGo_step HG.out HD.out HPV.out HPK.out, by simp only [List.length_cons, List.length_drop]; have := HKL.out; omega, allAcc.step HA.out HPA.out _, H5.out.pick [4] rfl (by decide)⟩
        case measure => first | (simp [intOf]; omega) | (simp [intOf]; done)
       go_wp2_with fail
       go_ret3
       exact ⟨by rw [HEV.out, iGo_stop HG.out HD.out (HPP.out.2.trans HNb3.out)]; rfl, H2.out.bl⟩
      obtain ⟨D1, hD1⟩ : ∃ D, k2.heap.size = D := ⟨_, rfl⟩; have H2 := hid (H3.out.alloc #[.int .i64 0, .int .i64 0] 99 hD1); go_simp
      refine hK.out _ _ (by (try dsimp only); exact ⟨H2.out.cell 2 rfl 0 rfl, H2.out.cell 2 rfl 1 rfl, H2.out.cell 1 rfl 0 rfl, H2.out.cell 1 rfl 1 rfl, (by have := ((H2.out.oldPrs HS.out).get (i := j) hjn).1; rw [HOO.out] at this; exact this), (by have := ((H2.out.oldPrs HS.out).get (i := j) hjn).2; rw [HOO.out] at this; exact this)⟩) ?_; clear hK K hHeld; intro hHeld; try simp only [pz]
      clear hD1; generalize (k2.alloc (.cells #[.int .i64 0, .int .i64 0] 99)) = k2 at *; refine rdy 8 fun K hK => ?_
      go_simp
      go_at_call 84
      refine (rnext_any _ _ _ _ _ _ _ _ _ ⟨oc0, oc1⟩ HXA.out.1 HXA.out.2 HYA.out.1 HYA.out.2).mono ?_; rintro e w1 ⟨⟨l9, h9, rfl, hlh⟩, hb⟩; have H3 := hid (H2.out.call hb); clear hb; obtain ⟨b1, hb1⟩ : ∃ xx', pwIok oc og (x0, x1) (y0, y1) u v = xx' := ⟨_, rfl⟩; rw [hb1] at hlh ⊢; have HNb3 := hid hb1; clear hb1; have HLH := hid hlh; clear hlh; have HPP := hid (show pwInt oc og (st.getD (pwK oc - 1) (0, 0)) (st.getD 0 (0, 0)) u v = pwInt oc og (x0, x1) (y0, y1) u v ∧ pwIok oc og (st.getD (pwK oc - 1) (0, 0)) (st.getD 0 (0, 0)) u v = pwIok oc og (x0, x1) (y0, y1) u v from by rw [HXS.out, HYS.out]; exact ⟨rfl, rfl⟩); refine hK.out _ _ (by (try dsimp only); exact ⟨H3.out.cell 2 rfl 0 rfl, H3.out.cell 2 rfl 1 rfl, H3.out.cell 1 rfl 0 rfl, H3.out.cell 1 rfl 1 rfl, (by have := ((H3.out.oldPrs HS.out).get (i := j) hjn).1; rw [HOO.out] at this; exact this), (by have := ((H3.out.oldPrs HS.out).get (i := j) hjn).2; rw [HOO.out] at this; exact this)⟩) ?_; clear hK K hHeld; intro hHeld; try simp only [pz]
      refine tk 9 ?_; refine tk 10 ?_; refine tk 11 ?_; refine rdy 13 fun K hK => ?_
      obtain ⟨z2, z3, z4, z5⟩ := H3.out.f2 0 rfl; have H2 := hid (show St _ _ (.cells D1 #[.int .i64 l9, .int .i64 h9] 99 :: _) _ _ from ((H3.out.set 0 rfl 0 (.int .i64 l9)).set 0 rfl 1 (.int .i64 h9))); go_simp
      refine hK.out _ _ (by (try dsimp only); exact ⟨H2.out.cell 2 rfl 0 rfl, H2.out.cell 2 rfl 1 rfl, H2.out.cell 1 rfl 0 rfl, H2.out.cell 1 rfl 1 rfl, (by have := ((H2.out.oldPrs HS.out).get (i := j) hjn).1; rw [HOO.out] at this; exact this), (by have := ((H2.out.oldPrs HS.out).get (i := j) hjn).2; rw [HOO.out] at this; exact this)⟩) ?_; clear hK K hHeld; intro hHeld; try simp only [pz]
      clear z2 z3 z4 z5; generalize ((w1.setCell ⟨D1, 0, none⟩ (.int .i64 l9)).setCell ⟨D1, 1, none⟩ (.int .i64 h9)) = k2 at *; refine tk 14 ?_; refine wpAnyH_done (by kernel_rfl) ?_ _; try clear hHeld
      cases b1; rotate_left
      ·
       go_upto_region 19 with fail
       have hlh := (show l9 = (pwInt oc og (x0, x1) (y0, y1) u v).1 ∧ h9 = (pwInt oc og (x0, x1) (y0, y1) u v).2 from by first | exact HLH.out rfl | exact HLH.out trivial | exact HLH.out); have HPK := hid (show pwIok oc og (st.getD (pwK oc - 1) (0, 0)) (st.getD 0 (0, 0)) u v = true from by rw [HPP.out.2]; exact HNb3.out); have HPV := hid (show pwInt oc og (st.getD (pwK oc - 1) (0, 0)) (st.getD 0 (0, 0)) u v = (l9, h9) from by rw [HPP.out.1, hlh.1, hlh.2]); have HPA := hid (show accOk l9 = true ∧ accOk h9 = true from by have := pwIok_lo HPK.out; rw [HPV.out] at this; exact this); clear hlh; obtain ⟨t1, t2⟩ : (T : Int) ≤ ln ∧ (ln : Int) ≤ sc := by have := HTK.out; have := arr_cap (H2.out.arrE 3 rfl); omega
       have t3 : (T : Int) ≤ sc := by omega
       have t4 : 0 ≤ (T : Int) := by omega
       have t5 : IntKind.i64.wrap (T : Int) = T := IntWalk.i64_in _ (by omega); have H3 := hid (H2.out.take 3 rfl (k := T) (by omega)); rw [prV_take] at H3; go_upto_region 19 with fail
       have H4 := hid H3.out.drew; refine wp_region_held_drew (S := (fun w' => w'.cell? ⟨D1, 0, none⟩ = some (.int .i64 l9) ∧ w'.cell? ⟨D1, 1, none⟩ = some (.int .i64 h9))) (by kernel_rfl) ⟨H4.out.cell 0 rfl 0 rfl, H4.out.cell 0 rfl 1 rfl⟩ (fun hHeld => ?_); generalize k2.drew = k2 at *; refine tk 0 ?_; refine tk 1 ?_; refine tk 2 ?_; refine tk 3 ?_; refine tk 4 ?_; refine tk 5 ?_; refine tk 6 ?_; refine rdy 7 fun K hK => ?_
       obtain ⟨D1, hD1⟩ : ∃ D, k2.heap.size = D := ⟨_, rfl⟩; have H3 := hid (H4.out.alloc #[.int .i64 l9, .int .i64 h9] 99 hD1); go_simp
       refine hK.out _ _ (by (try dsimp only); exact ⟨H3.out.cell 1 rfl 0 rfl, H3.out.cell 1 rfl 1 rfl⟩) ?_; clear hK K hHeld; intro hHeld; try simp only [pz]
       clear hD1; generalize (k2.alloc (.cells #[.int .i64 l9, .int .i64 h9] 99)) = k2 at *; refine rdy 8 fun K hK => ?_
       rw [if_pos (by rfl)]; refine oper_append_vals _ _ 97 99 2 16 (.agg #[.int .i64 0, .int .i64 0]) Try.underlying97 info_span rfl (by decide) (by decide) rfl B _ _ _ D1 1 1 [.int .i64 l9, .int .i64 h9] rfl rfl rfl (H3.out.arrE 4 rfl) (lit_news H3.out 0 [.int .i64 l9, .int .i64 h9] rfl) (by intro u hu; simp at hu; rcases hu with rfl | rfl <;> rfl) (by omega) H3.out.size ?_; intro v9a k2 ho hg hv; have H4 := hid (H3.out.appendE 4 rfl ho hg hv); clear ho hg hv; obtain ⟨g1, c2, hva⟩ := arr_pos (H4.out.arrE 4 rfl) (by omega); subst hva; rw [show prV (L.take T) ++ [.int .i64 l9, .int .i64 h9] = prV ((L.take T) ++ [(l9, h9)]) from by rw [prV_app]; rfl] at H4; refine hK.out _ _ (by (try dsimp only); exact ⟨H4.out.cell 1 rfl 0 rfl, H4.out.cell 1 rfl 1 rfl⟩) ?_; clear hK K hHeld; intro hHeld; try simp only [pz]
       refine tk 9 ?_; refine wpAnyH_done (by kernel_rfl) ?_ _; try clear hHeld
       go_wp2_with fail
       go_roundw
       case rel => exact ⟨j + 1, (l9, h9) :: st.drop (pwK oc), ((L.take T) ++ [(l9, h9)]), (some ⟨g1, 0, none⟩), (T + 1), c2, by omega, by go_num, rfl, stk_take HLS.out HTK.out _, vGo_step HVR.out HKL.out (by simp only [List.length_cons, List.length_drop]; have := HKL.out; omega), iGo_step HG.out HD.out HPV.out HPK.out, by simp only [List.length_cons, List.length_drop]; have := HKL.out; omega, allAcc.step HA.out HPA.out _, H4.out.pick [4] rfl (by decide)⟩
       case measure => first | (simp [intOf]; omega) | (simp [intOf]; done)
      go_wp2_with fail
      go_ret3
      exact ⟨by rw [HEV.out, iGo_stop HG.out HD.out (HPP.out.2.trans HNb3.out)]; rfl, H2.out.bl⟩
     have hjn' : ¬ ((j : Int) < n) := by omega
     have HE := hid (show zs.drop j = [] from List.drop_eq_nil_of_le (by have := HL.out; omega)); have hs1 : st.length = 1 := vGo_nil (by rw [← HE.out]; exact HVG.out); obtain ⟨q1, q2⟩ : 1 ≤ ln ∧ ln ≤ 1 := by omega
     have q3 : 0 < ln := by omega
     have q4 : (0 : Int) < ln := by omega
     obtain ⟨z0, z1, hz⟩ : ∃ z0 z1, L.getD 0 (0, 0) = (z0, z1) := ⟨_, _, rfl⟩; have HZ := hid (show ivR zs u v = (z0, z1, 0) from by rw [HEV.out, ← HG.out, HE.out]; unfold iGo; rw [show st.headD (0, 0) = (z0, z1) from by rw [← hz, stk_get (K := 1) (0, 0) HLS.out (by omega) (by omega), List.headD_eq_head?_getD, List.getD_eq_getElem?_getD, List.head?_eq_getElem?]]); obtain ⟨g, cc, hgg⟩ := arr_pos (H1.out.arrE 0 rfl) (by omega); injection hgg with hga hgb hgc
     subst hga; clear hgb hgc; go_upto_region 20 with fail
     have H2 := hid H1.out.drew; refine wp_region_held_drew (S := (fun w' => w'.cell? ⟨g, 0, none⟩ = some (.int .i64 z0) ∧ w'.cell? ⟨g, 1, none⟩ = some (.int .i64 z1))) (by kernel_rfl) ⟨(by have := (arr_pair (H2.out.arrE 0 rfl) (i := 0) (by omega)).1; rw [hz] at this; exact this), (by have := (arr_pair (H2.out.arrE 0 rfl) (i := 0) (by omega)).2; rw [hz] at this; exact this)⟩ (fun hHeld => ?_); generalize u1.drew = k2 at *; refine tk 0 ?_; refine tk 1 ?_; refine tk 2 ?_; refine tk 3 ?_; refine tk 4 ?_; refine tk 5 ?_; refine tk 6 ?_; refine tk 7 ?_; refine tk 8 ?_; refine tk 9 ?_; refine tk 10 ?_; refine wpAnyH_done (by kernel_rfl) ?_ _; try clear hHeld
     go_wp2_with fail
     go_ret3
     exact ⟨by rw [HZ.out]; rfl, H2.out.bl⟩
   go_wp2_with fail
   go_ret3
   exact ⟨by rw [ivR_range (by rw [HNk1.out]; have := c1h.out; omega) (by rw [HNb1.out, HNb2.out]; simp)]; rfl, H128.out.bl⟩
  go_wp2_with fail
  go_ret3
  exact ⟨by rw [ivR_range (by rw [HNk1.out]; have := c1h.out; omega) (by rw [HNb1.out]; simp)]; rfl, H128.out.bl⟩
 have c1a : ((k1 : Int) == (0)) = false := by simpa using c1
 have c1b : ((k1 : Int) != (0)) = true := by simpa using c1
 have c1h := hid c1; clear c1; go_wp2_with fail
 go_ret3
 exact ⟨by rw [ivR_bad HNk1.out (by have := c1h.out; omega)]; rfl, H128.out.bl⟩
end Go.Proofs.Yteejjnhlfgjlaaa
