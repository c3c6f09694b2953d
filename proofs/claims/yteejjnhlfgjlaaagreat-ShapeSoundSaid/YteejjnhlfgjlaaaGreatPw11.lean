/-
 Contracts: the interval of a program, in the reference.
-/
import Derived.Test.YteejjnhlfgjlaaaGreatPw6
import Derived.Test.YteejjnhlfgjlaaaGreatPw10
namespace Go.Proofs.YteejjnhlfgjlaaaGreat
open Go.RowKit
attribute [local go_sem ↓] Go.wp_at_zero Go.wp_at_succ
set_option linter.unusedVariables false
set_option linter.unusedSimpArgs false

set_option maxHeartbeats 800000 in
theorem rval14_any (v : Int) (w : World) : Calls Tryz.prog 91 #[.int .i64 v] w fun e w' => e = .returned (.bool (valOk v)) ∧ w' = w := by
 go_enter Tryz.func91, Tryz.ntmps91
 go_wp2
 all_goals (go_ret; refine ⟨ret_b (bool_of_iff ?_), rfl⟩; simp only [valOk, decide_eq_true_eq, Bool.false_eq_true, false_iff, true_iff, Bool.and_eq_true, iff_false, iff_true] <;> omega)
theorem arr_cases {B : Nat} {w : World} {e : TypeId} {sz ln sc : Nat} {sa : Option Addr} {vs : List Value} (h : w.ownsRow B e sz (.slice sa ln sc) ln vs) (j n : Nat) :
  (j < n ∧ sa = none ∧ ln = 0 ∧ sc = 0) ∨ (j < n ∧ ∃ g, sa = some ⟨g, 0, none⟩) ∨ ¬ j < n := by
 by_cases hj : j < n
 ·
  rcases ownsRow_form h with ⟨e, e0⟩ | ⟨g, c', e, _⟩
  ·
   cases e; exact .inl ⟨hj, rfl, rfl, rfl⟩
  cases e; exact .inr (.inl ⟨hj, g, rfl⟩)
 exact .inr (.inr hj)
theorem info_span : (Tryz.prog.info? 129).map (fun i => (i.zero, i.size, i.bytes)) = some (some (.agg #[.int .i64 0, .int .i64 0]), 2, 16) := by kernel_rfl

set_option maxRecDepth 100000 in
set_option maxHeartbeats 6400000 in
theorem rinterval_any (a : Option Addr) (n c : Nat) (zs : List (Int × Int)) (u v : Int) (W : World) (hs : Prs W a n c zs) : Calls Tryz.prog 97 #[.slice a n c, .int .i64 u, .int .i64 v] W fun e w' => e = .returned (.tuple #[.int .i64 (ivR zs u v).1, .int .i64 (ivR zs u v).2.1, .int .i64 (ivR zs u v).2.2]) ∧ Below W.heap.size W w' := by
 obtain ⟨B, hB⟩ : ∃ B, W.heap.size = B := ⟨_, rfl⟩; have HI0 := kq (St.init hB); have HS := kq hs; have HL := kq hs.len; have nmx : (n : Int) ≤ 9223372036854775807 := by have := hs.nc; have := hs.cap; omega
 clear hs
 go_enter Tryz.func97, Tryz.ntmps97
 go_wp2_with fail
 refine (rvalid_any14 _ _ _ _ true _ (HI0.o.oldPrs HS.o)).mono ?_; rintro e w1 ⟨rfl, hb⟩; have H128 := kq (HI0.o.call hb); clear hb; obtain ⟨k1, HNk1⟩ := nQ (vCode zs true); rw [HNk1.o]
 rcases eqZ k1 0 with ⟨c1a, c1b, c1c, c1d, c1h⟩ | ⟨c1a, c1b, c1h⟩
 ·
  go_wp2_with fail
  refine (rval14_any _ _).mono ?_; rintro e w2 ⟨rfl, hsw⟩; have hsw2 : w1 = w2 := by first | exact hsw | exact hsw.symm
  clear hsw; subst hsw2; obtain ⟨b1, HNb1⟩ := nQ (valOk u); rw [HNb1.o]; cases b1; rotate_left
  ·
   go_wp2_with fail
   refine (rval14_any _ _).mono ?_; rintro e w2 ⟨rfl, hsw⟩; have hsw2 : w1 = w2 := by first | exact hsw | exact hsw.symm
   clear hsw; subst hsw2; obtain ⟨b1, HNb2⟩ := nQ (valOk v); rw [HNb2.o]; cases b1; rotate_left
   ·
    go_wp2_with fail
    have HV := kq (show vCode zs true = 0 from by rw [HNk1.o]; have := c1h.o; omega); have HU := kq (show valOk u = true from HNb1.o); have HW := kq (show valOk v = true from HNb2.o); have HEV := kq (ivR_go (l := zs) (a := u) (b := v) HV.o HU.o HW.o); obtain ⟨n1, n2⟩ : 1 ≤ n ∧ n ≤ 32 := by have := vCode_zero.1 HV.o; have := HL.o; omega
    have H1 := kq (show St B W [.arr (129) 2 (.slice none 0 0) 0 (prV [])] [] w1 from H128.o.arrNilE 129 2)
    go_loopw [11, 10] (fun i s wr => ∃ (j : Nat) (st L : List (Int × Int)) (sa : Option Addr) (ln sc : Nat), j ≤ n ∧ i = .int .i64 j ∧ s = .slice sa ln sc ∧ L = st.reverse ∧ vGo (zs.drop j) true st.length = 0 ∧ iGo (zs.drop j) st u v = iGo zs [] u v ∧ st.length ≤ j ∧ allAcc st ∧ St B W [.arr (129) 2 (.slice sa ln sc) ln (prV L)] [] wr) (fun i _ _ => n - (intOf i).toNat)
    case atStart => exact ⟨0, [], [], none, 0, 0, by omega, rfl, rfl, rfl, (vCode_zero.1 HV.o).2.2, rfl, by simp, allAcc.nil, H1.o⟩
    case round =>
     obtain ⟨j, st, L, sa, ln, sc, hj, rfl, rfl, hls, hvg, hg, hsl, ha, hst⟩ := hrel; obtain ⟨u1, rfl⟩ : ∃ u1 : World, u1 = wr := ⟨_, rfl⟩; have H1 := kq hst; clear hst; have HLS := kq hls; have HVG := kq hvg; have HG := kq hg; have HA := kq ha; clear hvg hg ha; have hll := arr_len (H1.o.arrE 0 rfl); obtain ⟨ll1, ll2, ll3, ll4⟩ : ln ≤ st.length ∧ st.length ≤ ln ∧ ln ≤ L.length ∧ L.length ≤ ln := by rw [hls, List.length_reverse] at hll; rw [hls, List.length_reverse]; omega
     clear hls hll
     rcases arr_cases (H1.o.arrE 0 rfl) j n with ⟨hjn, hsa, hln, hsc⟩ | ⟨hjn, g, hsa⟩ | hjn
     ·
      subst hsa; subst hln; subst hsc; have hjn' : (j : Int) < n := by omega
      obtain ⟨pb, po, hpa⟩ := (H1.o.oldPrs HS.o).at (by omega); subst hpa; obtain ⟨cz0, cz1⟩ := (H1.o.oldPrs HS.o).get (i := j) hjn; obtain ⟨oc, og, hoo⟩ : ∃ x y, zs.getD j (0, 0) = (x, y) := ⟨_, _, rfl⟩; have HD := kq (drop_one (by rw [← HL.o]; exact hjn) hoo); rw [hoo] at cz0 cz1
      dsimp only at cz0 cz1
      clear hoo; obtain ⟨oc0, oc1, hoA, hoK, hoG, hoV⟩ : 0 ≤ oc ∧ oc ≤ 11 ∧ (oc = 1 → true = true) ∧ pwK oc ≤ st.length ∧ pwArg oc og = true ∧ vGo (zs.drop (j + 1)) true (st.length + 1 - pwK oc) = 0 := vGo_cons (by rw [← HD.o]; exact HVG.o); have HARG := kq hoG; have HVR := kq hoV; have HKL := kq hoK; clear hoA hoK hoG hoV; go_wp2_with fail
      refine (rtakes_any _ _).mono ?_; rintro e w1 ⟨rfl, hsw⟩; have hsw2 : u1 = w1 := by first | exact hsw | exact hsw.symm
      clear hsw; subst hsw2; obtain ⟨k1, HNk2⟩ := nQ ((pwK oc : Nat) : Int); rw [HNk2.o]; have hk0 : pwK oc = 0 := by have := HKL.o; omega
      obtain rfl : k1 = 0 := by have := HNk2.o; omega
      clear HNk2; have HK0 := kq hk0; obtain ⟨D1, hD1⟩ := nK u1.heap.size; go_upto_region 12 with fail
      have H2 := kq (show St _ _ (.cells (D1 + 1) _ _ :: .cells D1 _ _ :: _) _ _ from ((H1.o.alloc #[.int .i64 0, .int .i64 0] 129 hD1).alloc #[.int .i64 0, .int .i64 0] 129 (by first | exact hD1 | simp [hD1]))); first | refine gK H2 ?_ | refine gL H2 ?_ | refine gC H2 ?_
      clear H2; intro w1 H2; clear hD1; go_upto_region 16 with fail
      have HOO := kq (show zs.getD j (0, 0) = (oc, og) from by have := HD.o; rw [List.drop_eq_getElem_cons (by have := HL.o; omega)] at this; rw [List.getD_eq_getElem?_getD, List.getElem?_eq_getElem (by have := HL.o; omega), ← (List.cons.inj this).1]; rfl); have H3 := kq H2.o.drew; refine wp_region_held_drew (S := (fun w' => w'.cell? ⟨D1, 0, none⟩ = some (.int .i64 0) ∧ w'.cell? ⟨D1, 1, none⟩ = some (.int .i64 0) ∧ w'.cell? ⟨D1 + 1, 0, none⟩ = some (.int .i64 0) ∧ w'.cell? ⟨D1 + 1, 1, none⟩ = some (.int .i64 0) ∧ w'.cell? ⟨pb, po + j * 2, none⟩ = some (.int .i64 oc) ∧ w'.cell? ⟨pb, po + j * 2 + 1, none⟩ = some (.int .i64 og))) (by kernel_rfl) ⟨H3.o.cell 1 rfl 0 rfl, H3.o.cell 1 rfl 1 rfl, H3.o.cell 0 rfl 0 rfl, H3.o.cell 0 rfl 1 rfl, (by have := ((H3.o.oldPrs HS.o).get (i := j) hjn).1; rw [HOO.o] at this; exact this), (by have := ((H3.o.oldPrs HS.o).get (i := j) hjn).2; rw [HOO.o] at this; exact this)⟩ (fun hHeld => ?_); generalize w1.drew = k1 at *; refine tk 0 ?_; refine tk 1 ?_; refine tk 2 ?_; refine tk 3 ?_; refine tk 4 ?_; refine tk 5 ?_; refine tk 6 ?_; refine tk 7 ?_; refine wpAnyH_ready (rs := [8, 12]) (by kernel_rfl) (by simp) (AllReadyH.cons (o := _) rfl (fun K hK => ?_) (AllReadyH.cons (o := _) rfl (fun K hK => ?_) AllReadyH.nil))
      ·
       go_simp
       go_at_call 111
       refine (rnext_any _ _ _ _ _ _ _ _ _ ⟨oc0, oc1⟩ (by decide) (by decide) (by decide) (by decide)).mono ?_; rintro e w1 ⟨⟨l9, h9, rfl, hlh⟩, hb⟩; have H2 := kq (H3.o.call hb); clear hb; obtain ⟨b1, hb1⟩ := nK (pwIok oc og (0, 0) (0, 0) u v); rw [hb1] at hlh ⊢; have HNb3 := kq hb1; clear hb1; have HLH := kq hlh; clear hlh; have HPP := kq (show pwInt oc og (st.getD (pwK oc - 1) (0, 0)) (st.getD 0 (0, 0)) u v = pwInt oc og (0, 0) (0, 0) u v ∧ pwIok oc og (st.getD (pwK oc - 1) (0, 0)) (st.getD 0 (0, 0)) u v = pwIok oc og (0, 0) (0, 0) u v from pwInt_k0 oc0 HK0.o _ _ _ _ _ _ _); refine hK.out _ _ (by (try dsimp only); exact ⟨H2.o.cell 1 rfl 0 rfl, H2.o.cell 1 rfl 1 rfl, H2.o.cell 0 rfl 0 rfl, H2.o.cell 0 rfl 1 rfl, (by have := ((H2.o.oldPrs HS.o).get (i := j) hjn).1; rw [HOO.o] at this; exact this), (by have := ((H2.o.oldPrs HS.o).get (i := j) hjn).2; rw [HOO.o] at this; exact this)⟩) ?_; clear hK K hHeld; intro hHeld; try simp only [pz]
       refine tk 9 ?_; refine tk 10 ?_; refine tk 11 ?_; refine rdy 12 fun K hK => ?_
       obtain ⟨D1, hD1⟩ := nK w1.heap.size; have H4 := kq (H2.o.alloc #[.int .i64 0, .int .i64 0] 129 hD1); go_simp
       refine hK.out _ _ (by (try dsimp only); exact ⟨H4.o.cell 2 rfl 0 rfl, H4.o.cell 2 rfl 1 rfl, H4.o.cell 1 rfl 0 rfl, H4.o.cell 1 rfl 1 rfl, (by have := ((H4.o.oldPrs HS.o).get (i := j) hjn).1; rw [HOO.o] at this; exact this), (by have := ((H4.o.oldPrs HS.o).get (i := j) hjn).2; rw [HOO.o] at this; exact this)⟩) ?_; clear hK K hHeld; intro hHeld; try simp only [pz]
       clear hD1; generalize (w1.alloc (.cells #[.int .i64 0, .int .i64 0] 129)) = k2 at *; refine rdy 13 fun K hK => ?_
       have z2 := H4.o.f2 0 rfl; have H2 := kq (show St _ _ (.cells D1 #[.int .i64 l9, .int .i64 h9] 129 :: _) _ _ from ((H4.o.set 0 rfl 0 (.int .i64 l9)).set 0 rfl 1 (.int .i64 h9))); go_simp
       refine hK.out _ _ (by (try dsimp only); exact ⟨H2.o.cell 2 rfl 0 rfl, H2.o.cell 2 rfl 1 rfl, H2.o.cell 1 rfl 0 rfl, H2.o.cell 1 rfl 1 rfl, (by have := ((H2.o.oldPrs HS.o).get (i := j) hjn).1; rw [HOO.o] at this; exact this), (by have := ((H2.o.oldPrs HS.o).get (i := j) hjn).2; rw [HOO.o] at this; exact this)⟩) ?_; clear hK K hHeld; intro hHeld; try simp only [pz]
       clear z2; generalize ((k2.setCell ⟨D1, 0, none⟩ (.int .i64 l9)).setCell ⟨D1, 1, none⟩ (.int .i64 h9)) = k2 at *; refine tk 14 ?_; refine wpAnyH_done (by kernel_rfl) ?_ _; try clear hHeld
       cases b1; rotate_left
       ·
        go_upto_region 19 with fail
        have hlh := (show l9 = (pwInt oc og (0, 0) (0, 0) u v).1 ∧ h9 = (pwInt oc og (0, 0) (0, 0) u v).2 from by first | exact HLH.o rfl | exact HLH.o trivial | exact HLH.o); have HPK := kq (show pwIok oc og (st.getD (pwK oc - 1) (0, 0)) (st.getD 0 (0, 0)) u v = true from by rw [HPP.o.2]; exact HNb3.o); have HPV := kq (show pwInt oc og (st.getD (pwK oc - 1) (0, 0)) (st.getD 0 (0, 0)) u v = (l9, h9) from by rw [HPP.o.1, hlh.1, hlh.2]); have HPA := kq (show accOk l9 = true ∧ accOk h9 = true from by have := pwIok_lo HPK.o; rw [HPV.o] at this; exact this); clear hlh; have t5 : IntKind.i64.wrap (0 : Int) = 0 := rfl; have t6 : IntKind.i64.wrap (((0 : Nat) : Int) - 0) = 0 := rfl; go_upto_region 19 with fail
        have H4 := kq H2.o.drew; refine wp_region_held_drew (S := (fun w' => w'.cell? ⟨D1, 0, none⟩ = some (.int .i64 l9) ∧ w'.cell? ⟨D1, 1, none⟩ = some (.int .i64 h9))) (by kernel_rfl) ⟨H4.o.cell 0 rfl 0 rfl, H4.o.cell 0 rfl 1 rfl⟩ (fun hHeld => ?_); generalize k2.drew = k2 at *; refine tk 0 ?_; refine tk 1 ?_; refine tk 2 ?_; refine tk 3 ?_; refine tk 4 ?_; refine tk 5 ?_; refine tk 6 ?_; refine rdy 7 fun K hK => ?_
        obtain ⟨D1, hD1⟩ := nK k2.heap.size; have H5 := kq (H4.o.alloc #[.int .i64 l9, .int .i64 h9] 129 hD1); go_simp
        refine hK.out _ _ (by (try dsimp only); exact ⟨H5.o.cell 1 rfl 0 rfl, H5.o.cell 1 rfl 1 rfl⟩) ?_; clear hK K hHeld; intro hHeld; try simp only [pz]
        clear hD1; generalize (k2.alloc (.cells #[.int .i64 l9, .int .i64 h9] 129)) = k2 at *; refine rdy 8 fun K hK => ?_
        rw [if_pos (by rfl)]; refine oper_append_vals _ _ 127 129 2 16 (.agg #[.int .i64 0, .int .i64 0]) Tryz.underlying127 info_span rfl (by decide) (by decide) rfl B _ _ _ D1 1 1 [.int .i64 l9, .int .i64 h9] rfl rfl rfl (H5.o.arrE 4 rfl) (lit_news H5.o 0 [.int .i64 l9, .int .i64 h9] rfl) (by intro u hu; simp at hu; rcases hu with rfl | rfl <;> rfl) (by omega) H5.o.size ?_; intro v9a k2 ho hg hv; have H4 := kq (H5.o.appendE 4 rfl ho hg hv); clear ho hg hv; obtain ⟨g1, c2, hva⟩ := arr_pos (H4.o.arrE 4 rfl) (by omega); subst hva; rw [show prV L ++ [.int .i64 l9, .int .i64 h9] = prV (L ++ [(l9, h9)]) from by rw [prV_app]; rfl] at H4; refine hK.out _ _ (by (try dsimp only); exact ⟨H4.o.cell 1 rfl 0 rfl, H4.o.cell 1 rfl 1 rfl⟩) ?_; clear hK K hHeld; intro hHeld; try simp only [pz]
        refine tk 9 ?_; refine wpAnyH_done (by kernel_rfl) ?_ _; try clear hHeld
        go_wp2_with fail
        go_roundw
        case rel => exact ⟨j + 1, (l9, h9) :: st.drop (pwK oc), (L ++ [(l9, h9)]), (some ⟨g1, 0, none⟩), (0 + 1), c2, by omega, by go_num, rfl, by rw [HLS.o, HK0.o]; simp, vGo_step HVR.o HKL.o (by simp only [List.length_cons, List.length_drop]; have := HKL.o; omega), iGo_step HG.o HD.o HPV.o HPK.o, by simp only [List.length_cons, List.length_drop]; have := HKL.o; omega, allAcc.step HA.o HPA.o _, H4.o.pick [4] rfl (by decide)⟩
        case measure => first | (simp [intOf]; omega) | (simp [intOf]; done)
       go_wp2_with fail
       go_ret3
       exact ⟨by rw [HEV.o, iGo_stop HG.o HD.o (HPP.o.2.trans HNb3.o)]; rfl, H2.o.bl⟩
      obtain ⟨D1, hD1⟩ := nK k1.heap.size; have H2 := kq (H3.o.alloc #[.int .i64 0, .int .i64 0] 129 hD1); go_simp
      refine hK.out _ _ (by (try dsimp only); exact ⟨H2.o.cell 2 rfl 0 rfl, H2.o.cell 2 rfl 1 rfl, H2.o.cell 1 rfl 0 rfl, H2.o.cell 1 rfl 1 rfl, (by have := ((H2.o.oldPrs HS.o).get (i := j) hjn).1; rw [HOO.o] at this; exact this), (by have := ((H2.o.oldPrs HS.o).get (i := j) hjn).2; rw [HOO.o] at this; exact this)⟩) ?_; clear hK K hHeld; intro hHeld; try simp only [pz]
      clear hD1; generalize (k1.alloc (.cells #[.int .i64 0, .int .i64 0] 129)) = k1 at *; refine rdy 8 fun K hK => ?_
      go_simp
      go_at_call 111
      refine (rnext_any _ _ _ _ _ _ _ _ _ ⟨oc0, oc1⟩ (by decide) (by decide) (by decide) (by decide)).mono ?_; rintro e w1 ⟨⟨l9, h9, rfl, hlh⟩, hb⟩; have H3 := kq (H2.o.call hb); clear hb; obtain ⟨b1, hb1⟩ := nK (pwIok oc og (0, 0) (0, 0) u v); rw [hb1] at hlh ⊢; have HNb3 := kq hb1; clear hb1; have HLH := kq hlh; clear hlh; have HPP := kq (show pwInt oc og (st.getD (pwK oc - 1) (0, 0)) (st.getD 0 (0, 0)) u v = pwInt oc og (0, 0) (0, 0) u v ∧ pwIok oc og (st.getD (pwK oc - 1) (0, 0)) (st.getD 0 (0, 0)) u v = pwIok oc og (0, 0) (0, 0) u v from pwInt_k0 oc0 HK0.o _ _ _ _ _ _ _); refine hK.out _ _ (by (try dsimp only); exact ⟨H3.o.cell 2 rfl 0 rfl, H3.o.cell 2 rfl 1 rfl, H3.o.cell 1 rfl 0 rfl, H3.o.cell 1 rfl 1 rfl, (by have := ((H3.o.oldPrs HS.o).get (i := j) hjn).1; rw [HOO.o] at this; exact this), (by have := ((H3.o.oldPrs HS.o).get (i := j) hjn).2; rw [HOO.o] at this; exact this)⟩) ?_; clear hK K hHeld; intro hHeld; try simp only [pz]
      refine tk 9 ?_; refine tk 10 ?_; refine tk 11 ?_; refine rdy 13 fun K hK => ?_
      have z2 := H3.o.f2 0 rfl; have H2 := kq (show St _ _ (.cells D1 #[.int .i64 l9, .int .i64 h9] 129 :: _) _ _ from ((H3.o.set 0 rfl 0 (.int .i64 l9)).set 0 rfl 1 (.int .i64 h9))); go_simp
      refine hK.out _ _ (by (try dsimp only); exact ⟨H2.o.cell 2 rfl 0 rfl, H2.o.cell 2 rfl 1 rfl, H2.o.cell 1 rfl 0 rfl, H2.o.cell 1 rfl 1 rfl, (by have := ((H2.o.oldPrs HS.o).get (i := j) hjn).1; rw [HOO.o] at this; exact this), (by have := ((H2.o.oldPrs HS.o).get (i := j) hjn).2; rw [HOO.o] at this; exact this)⟩) ?_; clear hK K hHeld; intro hHeld; try simp only [pz]
      clear z2; generalize ((w1.setCell ⟨D1, 0, none⟩ (.int .i64 l9)).setCell ⟨D1, 1, none⟩ (.int .i64 h9)) = k1 at *; refine tk 14 ?_; refine wpAnyH_done (by kernel_rfl) ?_ _; try clear hHeld
      cases b1; rotate_left
      ·
       go_upto_region 19 with fail
       have hlh := (show l9 = (pwInt oc og (0, 0) (0, 0) u v).1 ∧ h9 = (pwInt oc og (0, 0) (0, 0) u v).2 from by first | exact HLH.o rfl | exact HLH.o trivial | exact HLH.o); have HPK := kq (show pwIok oc og (st.getD (pwK oc - 1) (0, 0)) (st.getD 0 (0, 0)) u v = true from by rw [HPP.o.2]; exact HNb3.o); have HPV := kq (show pwInt oc og (st.getD (pwK oc - 1) (0, 0)) (st.getD 0 (0, 0)) u v = (l9, h9) from by rw [HPP.o.1, hlh.1, hlh.2]); have HPA := kq (show accOk l9 = true ∧ accOk h9 = true from by have := pwIok_lo HPK.o; rw [HPV.o] at this; exact this); clear hlh; have t5 : IntKind.i64.wrap (0 : Int) = 0 := rfl; have t6 : IntKind.i64.wrap (((0 : Nat) : Int) - 0) = 0 := rfl; go_upto_region 19 with fail
       have H3 := kq H2.o.drew; refine wp_region_held_drew (S := (fun w' => w'.cell? ⟨D1, 0, none⟩ = some (.int .i64 l9) ∧ w'.cell? ⟨D1, 1, none⟩ = some (.int .i64 h9))) (by kernel_rfl) ⟨H3.o.cell 0 rfl 0 rfl, H3.o.cell 0 rfl 1 rfl⟩ (fun hHeld => ?_); generalize k1.drew = k1 at *; refine tk 0 ?_; refine tk 1 ?_; refine tk 2 ?_; refine tk 3 ?_; refine tk 4 ?_; refine tk 5 ?_; refine tk 6 ?_; refine rdy 7 fun K hK => ?_
       obtain ⟨D1, hD1⟩ := nK k1.heap.size; have H4 := kq (H3.o.alloc #[.int .i64 l9, .int .i64 h9] 129 hD1); go_simp
       refine hK.out _ _ (by (try dsimp only); exact ⟨H4.o.cell 1 rfl 0 rfl, H4.o.cell 1 rfl 1 rfl⟩) ?_; clear hK K hHeld; intro hHeld; try simp only [pz]
       clear hD1; generalize (k1.alloc (.cells #[.int .i64 l9, .int .i64 h9] 129)) = k1 at *; refine rdy 8 fun K hK => ?_
       rw [if_pos (by rfl)]; refine oper_append_vals _ _ 127 129 2 16 (.agg #[.int .i64 0, .int .i64 0]) Tryz.underlying127 info_span rfl (by decide) (by decide) rfl B _ _ _ D1 1 1 [.int .i64 l9, .int .i64 h9] rfl rfl rfl (H4.o.arrE 4 rfl) (lit_news H4.o 0 [.int .i64 l9, .int .i64 h9] rfl) (by intro u hu; simp at hu; rcases hu with rfl | rfl <;> rfl) (by omega) H4.o.size ?_; intro v9a k1 ho hg hv; have H3 := kq (H4.o.appendE 4 rfl ho hg hv); clear ho hg hv; obtain ⟨g1, c2, hva⟩ := arr_pos (H3.o.arrE 4 rfl) (by omega); subst hva; rw [show prV L ++ [.int .i64 l9, .int .i64 h9] = prV (L ++ [(l9, h9)]) from by rw [prV_app]; rfl] at H3; refine hK.out _ _ (by (try dsimp only); exact ⟨H3.o.cell 1 rfl 0 rfl, H3.o.cell 1 rfl 1 rfl⟩) ?_; clear hK K hHeld; intro hHeld; try simp only [pz]
       refine tk 9 ?_; refine wpAnyH_done (by kernel_rfl) ?_ _; try clear hHeld
       go_wp2_with fail
       go_roundw
       case rel => exact ⟨j + 1, (l9, h9) :: st.drop (pwK oc), (L ++ [(l9, h9)]), (some ⟨g1, 0, none⟩), (0 + 1), c2, by omega, by go_num, rfl, by rw [HLS.o, HK0.o]; simp, vGo_step HVR.o HKL.o (by simp only [List.length_cons, List.length_drop]; have := HKL.o; omega), iGo_step HG.o HD.o HPV.o HPK.o, by simp only [List.length_cons, List.length_drop]; have := HKL.o; omega, allAcc.step HA.o HPA.o _, H3.o.pick [4] rfl (by decide)⟩
       case measure => first | (simp [intOf]; omega) | (simp [intOf]; done)
      go_wp2_with fail
      go_ret3
      exact ⟨by rw [HEV.o, iGo_stop HG.o HD.o (HPP.o.2.trans HNb3.o)]; rfl, H2.o.bl⟩
     ·
      subst hsa; have hjn' : (j : Int) < n := by omega
      obtain ⟨pb, po, hpa⟩ := (H1.o.oldPrs HS.o).at (by omega); subst hpa; obtain ⟨cz0, cz1⟩ := (H1.o.oldPrs HS.o).get (i := j) hjn; obtain ⟨oc, og, hoo⟩ : ∃ x y, zs.getD j (0, 0) = (x, y) := ⟨_, _, rfl⟩; have HD := kq (drop_one (by rw [← HL.o]; exact hjn) hoo); rw [hoo] at cz0 cz1
      dsimp only at cz0 cz1
      clear hoo; obtain ⟨oc0, oc1, hoA, hoK, hoG, hoV⟩ : 0 ≤ oc ∧ oc ≤ 11 ∧ (oc = 1 → true = true) ∧ pwK oc ≤ st.length ∧ pwArg oc og = true ∧ vGo (zs.drop (j + 1)) true (st.length + 1 - pwK oc) = 0 := vGo_cons (by rw [← HD.o]; exact HVG.o); have HARG := kq hoG; have HVR := kq hoV; have HKL := kq hoK; clear hoA hoK hoG hoV; go_wp2_with fail
      refine (rtakes_any _ _).mono ?_; rintro e w1 ⟨rfl, hsw⟩; have hsw2 : u1 = w1 := by first | exact hsw | exact hsw.symm
      clear hsw; subst hsw2; obtain ⟨k1, HNk2⟩ := nQ ((pwK oc : Nat) : Int); rw [HNk2.o]
      rcases (show pwK oc = 0 ∨ pwK oc = 1 ∨ pwK oc = 2 by unfold pwK; split <;> (try split) <;> omega) with hk0 | hk0 | hk0
      ·
       obtain rfl : k1 = 0 := by have := HNk2.o; omega
       clear HNk2; have HK0 := kq hk0; obtain ⟨T, hT⟩ : ∃ T : Nat, (ln : Int) - 0 = T := ⟨ln - 0, by have := HKL.o; omega⟩; have HTK := kq (show T + pwK oc = st.length from by have := HKL.o; omega); obtain ⟨D1, hD1⟩ := nK u1.heap.size; go_upto_region 12 with fail
       have H2 := kq (show St _ _ (.cells (D1 + 1) _ _ :: .cells D1 _ _ :: _) _ _ from ((H1.o.alloc #[.int .i64 0, .int .i64 0] 129 hD1).alloc #[.int .i64 0, .int .i64 0] 129 (by first | exact hD1 | simp [hD1]))); first | refine gK H2 ?_ | refine gL H2 ?_ | refine gC H2 ?_
       clear H2; intro w1 H2; clear hD1; go_upto_region 16 with fail
       have HOO := kq (show zs.getD j (0, 0) = (oc, og) from by have := HD.o; rw [List.drop_eq_getElem_cons (by have := HL.o; omega)] at this; rw [List.getD_eq_getElem?_getD, List.getElem?_eq_getElem (by have := HL.o; omega), ← (List.cons.inj this).1]; rfl); have H3 := kq H2.o.drew; refine wp_region_held_drew (S := (fun w' => w'.cell? ⟨D1, 0, none⟩ = some (.int .i64 0) ∧ w'.cell? ⟨D1, 1, none⟩ = some (.int .i64 0) ∧ w'.cell? ⟨D1 + 1, 0, none⟩ = some (.int .i64 0) ∧ w'.cell? ⟨D1 + 1, 1, none⟩ = some (.int .i64 0) ∧ w'.cell? ⟨pb, po + j * 2, none⟩ = some (.int .i64 oc) ∧ w'.cell? ⟨pb, po + j * 2 + 1, none⟩ = some (.int .i64 og))) (by kernel_rfl) ⟨H3.o.cell 1 rfl 0 rfl, H3.o.cell 1 rfl 1 rfl, H3.o.cell 0 rfl 0 rfl, H3.o.cell 0 rfl 1 rfl, (by have := ((H3.o.oldPrs HS.o).get (i := j) hjn).1; rw [HOO.o] at this; exact this), (by have := ((H3.o.oldPrs HS.o).get (i := j) hjn).2; rw [HOO.o] at this; exact this)⟩ (fun hHeld => ?_); generalize w1.drew = k2 at *; refine tk 0 ?_; refine tk 1 ?_; refine tk 2 ?_; refine tk 3 ?_; refine tk 4 ?_; refine tk 5 ?_; refine tk 6 ?_; refine tk 7 ?_; refine wpAnyH_ready (rs := [8, 12]) (by kernel_rfl) (by simp) (AllReadyH.cons (o := _) rfl (fun K hK => ?_) (AllReadyH.cons (o := _) rfl (fun K hK => ?_) AllReadyH.nil))
       ·
        go_simp
        go_at_call 111
        refine (rnext_any _ _ _ _ _ _ _ _ _ ⟨oc0, oc1⟩ (by decide) (by decide) (by decide) (by decide)).mono ?_; rintro e w1 ⟨⟨l9, h9, rfl, hlh⟩, hb⟩; have H2 := kq (H3.o.call hb); clear hb; obtain ⟨b1, hb1⟩ := nK (pwIok oc og (0, 0) (0, 0) u v); rw [hb1] at hlh ⊢; have HNb3 := kq hb1; clear hb1; have HLH := kq hlh; clear hlh; have HPP := kq (show pwInt oc og (st.getD (pwK oc - 1) (0, 0)) (st.getD 0 (0, 0)) u v = pwInt oc og (0, 0) (0, 0) u v ∧ pwIok oc og (st.getD (pwK oc - 1) (0, 0)) (st.getD 0 (0, 0)) u v = pwIok oc og (0, 0) (0, 0) u v from pwInt_k0 oc0 HK0.o _ _ _ _ _ _ _); refine hK.out _ _ (by (try dsimp only); exact ⟨H2.o.cell 1 rfl 0 rfl, H2.o.cell 1 rfl 1 rfl, H2.o.cell 0 rfl 0 rfl, H2.o.cell 0 rfl 1 rfl, (by have := ((H2.o.oldPrs HS.o).get (i := j) hjn).1; rw [HOO.o] at this; exact this), (by have := ((H2.o.oldPrs HS.o).get (i := j) hjn).2; rw [HOO.o] at this; exact this)⟩) ?_; clear hK K hHeld; intro hHeld; try simp only [pz]
        refine tk 9 ?_; refine tk 10 ?_; refine tk 11 ?_; refine rdy 12 fun K hK => ?_
        obtain ⟨D1, hD1⟩ := nK w1.heap.size; have H4 := kq (H2.o.alloc #[.int .i64 0, .int .i64 0] 129 hD1); go_simp
        refine hK.out _ _ (by (try dsimp only); exact ⟨H4.o.cell 2 rfl 0 rfl, H4.o.cell 2 rfl 1 rfl, H4.o.cell 1 rfl 0 rfl, H4.o.cell 1 rfl 1 rfl, (by have := ((H4.o.oldPrs HS.o).get (i := j) hjn).1; rw [HOO.o] at this; exact this), (by have := ((H4.o.oldPrs HS.o).get (i := j) hjn).2; rw [HOO.o] at this; exact this)⟩) ?_; clear hK K hHeld; intro hHeld; try simp only [pz]
        clear hD1; generalize (w1.alloc (.cells #[.int .i64 0, .int .i64 0] 129)) = k3 at *; refine rdy 13 fun K hK => ?_
        have z2 := H4.o.f2 0 rfl; have H2 := kq (show St _ _ (.cells D1 #[.int .i64 l9, .int .i64 h9] 129 :: _) _ _ from ((H4.o.set 0 rfl 0 (.int .i64 l9)).set 0 rfl 1 (.int .i64 h9))); go_simp
        refine hK.out _ _ (by (try dsimp only); exact ⟨H2.o.cell 2 rfl 0 rfl, H2.o.cell 2 rfl 1 rfl, H2.o.cell 1 rfl 0 rfl, H2.o.cell 1 rfl 1 rfl, (by have := ((H2.o.oldPrs HS.o).get (i := j) hjn).1; rw [HOO.o] at this; exact this), (by have := ((H2.o.oldPrs HS.o).get (i := j) hjn).2; rw [HOO.o] at this; exact this)⟩) ?_; clear hK K hHeld; intro hHeld; try simp only [pz]
        clear z2; generalize ((k3.setCell ⟨D1, 0, none⟩ (.int .i64 l9)).setCell ⟨D1, 1, none⟩ (.int .i64 h9)) = k3 at *; refine tk 14 ?_; refine wpAnyH_done (by kernel_rfl) ?_ _; try clear hHeld
        cases b1; rotate_left
        ·
         go_upto_region 19 with fail
         have hlh := (show l9 = (pwInt oc og (0, 0) (0, 0) u v).1 ∧ h9 = (pwInt oc og (0, 0) (0, 0) u v).2 from by first | exact HLH.o rfl | exact HLH.o trivial | exact HLH.o); have HPK := kq (show pwIok oc og (st.getD (pwK oc - 1) (0, 0)) (st.getD 0 (0, 0)) u v = true from by rw [HPP.o.2]; exact HNb3.o); have HPV := kq (show pwInt oc og (st.getD (pwK oc - 1) (0, 0)) (st.getD 0 (0, 0)) u v = (l9, h9) from by rw [HPP.o.1, hlh.1, hlh.2]); have HPA := kq (show accOk l9 = true ∧ accOk h9 = true from by have := pwIok_lo HPK.o; rw [HPV.o] at this; exact this); clear hlh; obtain ⟨t1, t2⟩ : (T : Int) ≤ ln ∧ (ln : Int) ≤ sc := by have := HTK.o; have := arr_cap (H2.o.arrE 3 rfl); omega
         have t3 : (T : Int) ≤ sc := by omega
         have t4 : 0 ≤ (T : Int) := by omega
         have t5 : IntKind.i64.wrap (T : Int) = T := IntWalk.i64_in _ (by omega); have H4 := kq (H2.o.take 3 rfl (k := T) (by omega)); rw [prV_take] at H4; go_upto_region 19 with fail
         have H5 := kq H4.o.drew; refine wp_region_held_drew (S := (fun w' => w'.cell? ⟨D1, 0, none⟩ = some (.int .i64 l9) ∧ w'.cell? ⟨D1, 1, none⟩ = some (.int .i64 h9))) (by kernel_rfl) ⟨H5.o.cell 0 rfl 0 rfl, H5.o.cell 0 rfl 1 rfl⟩ (fun hHeld => ?_); generalize k3.drew = k3 at *; refine tk 0 ?_; refine tk 1 ?_; refine tk 2 ?_; refine tk 3 ?_; refine tk 4 ?_; refine tk 5 ?_; refine tk 6 ?_; refine rdy 7 fun K hK => ?_
         obtain ⟨D1, hD1⟩ := nK k3.heap.size; have H4 := kq (H5.o.alloc #[.int .i64 l9, .int .i64 h9] 129 hD1); go_simp
         refine hK.out _ _ (by (try dsimp only); exact ⟨H4.o.cell 1 rfl 0 rfl, H4.o.cell 1 rfl 1 rfl⟩) ?_; clear hK K hHeld; intro hHeld; try simp only [pz]
         clear hD1; generalize (k3.alloc (.cells #[.int .i64 l9, .int .i64 h9] 129)) = k3 at *; refine rdy 8 fun K hK => ?_
         rw [if_pos (by rfl)]; refine oper_append_vals _ _ 127 129 2 16 (.agg #[.int .i64 0, .int .i64 0]) Tryz.underlying127 info_span rfl (by decide) (by decide) rfl B _ _ _ D1 1 1 [.int .i64 l9, .int .i64 h9] rfl rfl rfl (H4.o.arrE 4 rfl) (lit_news H4.o 0 [.int .i64 l9, .int .i64 h9] rfl) (by intro u hu; simp at hu; rcases hu with rfl | rfl <;> rfl) (by omega) H4.o.size ?_; intro v9a k3 ho hg hv; have H5 := kq (H4.o.appendE 4 rfl ho hg hv); clear ho hg hv; obtain ⟨g1, c2, hva⟩ := arr_pos (H5.o.arrE 4 rfl) (by omega); subst hva; rw [show prV (L.take T) ++ [.int .i64 l9, .int .i64 h9] = prV ((L.take T) ++ [(l9, h9)]) from by rw [prV_app]; rfl] at H5; refine hK.out _ _ (by (try dsimp only); exact ⟨H5.o.cell 1 rfl 0 rfl, H5.o.cell 1 rfl 1 rfl⟩) ?_; clear hK K hHeld; intro hHeld; try simp only [pz]
         refine tk 9 ?_; refine wpAnyH_done (by kernel_rfl) ?_ _; try clear hHeld
         go_wp2_with fail
         go_roundw
         case rel => exact ⟨j + 1, (l9, h9) :: st.drop (pwK oc), ((L.take T) ++ [(l9, h9)]), (some ⟨g1, 0, none⟩), (T + 1), c2, by omega, by go_num, rfl, stk_take HLS.o HTK.o _, vGo_step HVR.o HKL.o (by simp only [List.length_cons, List.length_drop]; have := HKL.o; omega), iGo_step HG.o HD.o HPV.o HPK.o, by simp only [List.length_cons, List.length_drop]; have := HKL.o; omega, allAcc.step HA.o HPA.o _, H5.o.pick [4] rfl (by decide)⟩
         case measure => first | (simp [intOf]; omega) | (simp [intOf]; done)
        go_wp2_with fail
        go_ret3
        exact ⟨by rw [HEV.o, iGo_stop HG.o HD.o (HPP.o.2.trans HNb3.o)]; rfl, H2.o.bl⟩
       obtain ⟨D1, hD1⟩ := nK k2.heap.size; have H2 := kq (H3.o.alloc #[.int .i64 0, .int .i64 0] 129 hD1); go_simp
       refine hK.out _ _ (by (try dsimp only); exact ⟨H2.o.cell 2 rfl 0 rfl, H2.o.cell 2 rfl 1 rfl, H2.o.cell 1 rfl 0 rfl, H2.o.cell 1 rfl 1 rfl, (by have := ((H2.o.oldPrs HS.o).get (i := j) hjn).1; rw [HOO.o] at this; exact this), (by have := ((H2.o.oldPrs HS.o).get (i := j) hjn).2; rw [HOO.o] at this; exact this)⟩) ?_; clear hK K hHeld; intro hHeld; try simp only [pz]
       clear hD1; generalize (k2.alloc (.cells #[.int .i64 0, .int .i64 0] 129)) = k2 at *; refine rdy 8 fun K hK => ?_
       go_simp
       go_at_call 111
       refine (rnext_any _ _ _ _ _ _ _ _ _ ⟨oc0, oc1⟩ (by decide) (by decide) (by decide) (by decide)).mono ?_; rintro e w1 ⟨⟨l9, h9, rfl, hlh⟩, hb⟩; have H3 := kq (H2.o.call hb); clear hb; obtain ⟨b1, hb1⟩ := nK (pwIok oc og (0, 0) (0, 0) u v); rw [hb1] at hlh ⊢; have HNb3 := kq hb1; clear hb1; have HLH := kq hlh; clear hlh; have HPP := kq (show pwInt oc og (st.getD (pwK oc - 1) (0, 0)) (st.getD 0 (0, 0)) u v = pwInt oc og (0, 0) (0, 0) u v ∧ pwIok oc og (st.getD (pwK oc - 1) (0, 0)) (st.getD 0 (0, 0)) u v = pwIok oc og (0, 0) (0, 0) u v from pwInt_k0 oc0 HK0.o _ _ _ _ _ _ _); refine hK.out _ _ (by (try dsimp only); exact ⟨H3.o.cell 2 rfl 0 rfl, H3.o.cell 2 rfl 1 rfl, H3.o.cell 1 rfl 0 rfl, H3.o.cell 1 rfl 1 rfl, (by have := ((H3.o.oldPrs HS.o).get (i := j) hjn).1; rw [HOO.o] at this; exact this), (by have := ((H3.o.oldPrs HS.o).get (i := j) hjn).2; rw [HOO.o] at this; exact this)⟩) ?_; clear hK K hHeld; intro hHeld; try simp only [pz]
       refine tk 9 ?_; refine tk 10 ?_; refine tk 11 ?_; refine rdy 13 fun K hK => ?_
       have z2 := H3.o.f2 0 rfl; have H2 := kq (show St _ _ (.cells D1 #[.int .i64 l9, .int .i64 h9] 129 :: _) _ _ from ((H3.o.set 0 rfl 0 (.int .i64 l9)).set 0 rfl 1 (.int .i64 h9))); go_simp
       refine hK.out _ _ (by (try dsimp only); exact ⟨H2.o.cell 2 rfl 0 rfl, H2.o.cell 2 rfl 1 rfl, H2.o.cell 1 rfl 0 rfl, H2.o.cell 1 rfl 1 rfl, (by have := ((H2.o.oldPrs HS.o).get (i := j) hjn).1; rw [HOO.o] at this; exact this), (by have := ((H2.o.oldPrs HS.o).get (i := j) hjn).2; rw [HOO.o] at this; exact this)⟩) ?_; clear hK K hHeld; intro hHeld; try simp only [pz]
       clear z2; generalize ((w1.setCell ⟨D1, 0, none⟩ (.int .i64 l9)).setCell ⟨D1, 1, none⟩ (.int .i64 h9)) = k2 at *; refine tk 14 ?_; refine wpAnyH_done (by kernel_rfl) ?_ _; try clear hHeld
       cases b1; rotate_left
       ·
        go_upto_region 19 with fail
        have hlh := (show l9 = (pwInt oc og (0, 0) (0, 0) u v).1 ∧ h9 = (pwInt oc og (0, 0) (0, 0) u v).2 from by first | exact HLH.o rfl | exact HLH.o trivial | exact HLH.o); have HPK := kq (show pwIok oc og (st.getD (pwK oc - 1) (0, 0)) (st.getD 0 (0, 0)) u v = true from by rw [HPP.o.2]; exact HNb3.o); have HPV := kq (show pwInt oc og (st.getD (pwK oc - 1) (0, 0)) (st.getD 0 (0, 0)) u v = (l9, h9) from by rw [HPP.o.1, hlh.1, hlh.2]); have HPA := kq (show accOk l9 = true ∧ accOk h9 = true from by have := pwIok_lo HPK.o; rw [HPV.o] at this; exact this); clear hlh; obtain ⟨t1, t2⟩ : (T : Int) ≤ ln ∧ (ln : Int) ≤ sc := by have := HTK.o; have := arr_cap (H2.o.arrE 3 rfl); omega
        have t3 : (T : Int) ≤ sc := by omega
        have t4 : 0 ≤ (T : Int) := by omega
        have t5 : IntKind.i64.wrap (T : Int) = T := IntWalk.i64_in _ (by omega); have H3 := kq (H2.o.take 3 rfl (k := T) (by omega)); rw [prV_take] at H3; go_upto_region 19 with fail
        have H4 := kq H3.o.drew; refine wp_region_held_drew (S := (fun w' => w'.cell? ⟨D1, 0, none⟩ = some (.int .i64 l9) ∧ w'.cell? ⟨D1, 1, none⟩ = some (.int .i64 h9))) (by kernel_rfl) ⟨H4.o.cell 0 rfl 0 rfl, H4.o.cell 0 rfl 1 rfl⟩ (fun hHeld => ?_); generalize k2.drew = k2 at *; refine tk 0 ?_; refine tk 1 ?_; refine tk 2 ?_; refine tk 3 ?_; refine tk 4 ?_; refine tk 5 ?_; refine tk 6 ?_; refine rdy 7 fun K hK => ?_
        obtain ⟨D1, hD1⟩ := nK k2.heap.size; have H3 := kq (H4.o.alloc #[.int .i64 l9, .int .i64 h9] 129 hD1); go_simp
        refine hK.out _ _ (by (try dsimp only); exact ⟨H3.o.cell 1 rfl 0 rfl, H3.o.cell 1 rfl 1 rfl⟩) ?_; clear hK K hHeld; intro hHeld; try simp only [pz]
        clear hD1; generalize (k2.alloc (.cells #[.int .i64 l9, .int .i64 h9] 129)) = k2 at *; refine rdy 8 fun K hK => ?_
        rw [if_pos (by rfl)]; refine oper_append_vals _ _ 127 129 2 16 (.agg #[.int .i64 0, .int .i64 0]) Tryz.underlying127 info_span rfl (by decide) (by decide) rfl B _ _ _ D1 1 1 [.int .i64 l9, .int .i64 h9] rfl rfl rfl (H3.o.arrE 4 rfl) (lit_news H3.o 0 [.int .i64 l9, .int .i64 h9] rfl) (by intro u hu; simp at hu; rcases hu with rfl | rfl <;> rfl) (by omega) H3.o.size ?_; intro v9a k2 ho hg hv; have H4 := kq (H3.o.appendE 4 rfl ho hg hv); clear ho hg hv; obtain ⟨g1, c2, hva⟩ := arr_pos (H4.o.arrE 4 rfl) (by omega); subst hva; rw [show prV (L.take T) ++ [.int .i64 l9, .int .i64 h9] = prV ((L.take T) ++ [(l9, h9)]) from by rw [prV_app]; rfl] at H4; refine hK.out _ _ (by (try dsimp only); exact ⟨H4.o.cell 1 rfl 0 rfl, H4.o.cell 1 rfl 1 rfl⟩) ?_; clear hK K hHeld; intro hHeld; try simp only [pz]
        refine tk 9 ?_; refine wpAnyH_done (by kernel_rfl) ?_ _; try clear hHeld
        go_wp2_with fail
        go_roundw
        case rel => exact ⟨j + 1, (l9, h9) :: st.drop (pwK oc), ((L.take T) ++ [(l9, h9)]), (some ⟨g1, 0, none⟩), (T + 1), c2, by omega, by go_num, rfl, stk_take HLS.o HTK.o _, vGo_step HVR.o HKL.o (by simp only [List.length_cons, List.length_drop]; have := HKL.o; omega), iGo_step HG.o HD.o HPV.o HPK.o, by simp only [List.length_cons, List.length_drop]; have := HKL.o; omega, allAcc.step HA.o HPA.o _, H4.o.pick [4] rfl (by decide)⟩
        case measure => first | (simp [intOf]; omega) | (simp [intOf]; done)
       go_wp2_with fail
       go_ret3
       exact ⟨by rw [HEV.o, iGo_stop HG.o HD.o (HPP.o.2.trans HNb3.o)]; rfl, H2.o.bl⟩
      ·
       obtain rfl : k1 = 1 := by have := HNk2.o; omega
       clear HNk2; have HK0 := kq hk0; obtain ⟨T, hT⟩ : ∃ T : Nat, (ln : Int) - 1 = T := ⟨ln - 1, by have := HKL.o; omega⟩; have HTK := kq (show T + pwK oc = st.length from by have := HKL.o; omega); obtain ⟨x0, x1, hx⟩ : ∃ x0 x1, L.getD T (0, 0) = (x0, x1) := ⟨_, _, rfl⟩; have HXS := kq (show st.getD (pwK oc - 1) (0, 0) = (x0, x1) from by rw [← hx]; exact (stk_get (0, 0) HLS.o (by omega) HTK.o).symm); have HXA := kq (show accOk x0 = true ∧ accOk x1 = true from by have := HA.o (pwK oc - 1); rw [HXS.o] at this; exact this); have HX := kq hx; clear hx; obtain ⟨D1, hD1⟩ := nK u1.heap.size; go_upto_region 12 with fail
       have H2 := kq (show St _ _ (.cells (D1 + 1) _ _ :: .cells D1 _ _ :: _) _ _ from ((H1.o.alloc #[.int .i64 0, .int .i64 0] 129 hD1).alloc #[.int .i64 0, .int .i64 0] 129 (by first | exact hD1 | simp [hD1]))); first | refine gK H2 ?_ | refine gL H2 ?_ | refine gC H2 ?_
       clear H2; intro w1 H2; clear hD1; go_upto_region 15 with fail
       obtain ⟨zx0, zx1⟩ := arr_pair (H2.o.arrE 2 rfl) (i := T) (by have := HTK.o; omega); rw [HX.o] at zx0 zx1
       dsimp only at zx0 zx1
       have z2 := H2.o.f2 1 rfl; go_upto_region 16 with fail
       clear z2; have H3 := kq (show St _ _ (_ :: .cells D1 #[.int .i64 x0, .int .i64 x1] 129 :: _) _ _ from ((H2.o.set 1 rfl 0 (.int .i64 x0)).set 1 rfl 1 (.int .i64 x1))); first | refine gK H3 ?_ | refine gL H3 ?_ | refine gC H3 ?_
       clear H3; intro w1 H3; have HOO := kq (show zs.getD j (0, 0) = (oc, og) from by have := HD.o; rw [List.drop_eq_getElem_cons (by have := HL.o; omega)] at this; rw [List.getD_eq_getElem?_getD, List.getElem?_eq_getElem (by have := HL.o; omega), ← (List.cons.inj this).1]; rfl); have H2 := kq H3.o.drew; refine wp_region_held_drew (S := (fun w' => w'.cell? ⟨D1, 0, none⟩ = some (.int .i64 x0) ∧ w'.cell? ⟨D1, 1, none⟩ = some (.int .i64 x1) ∧ w'.cell? ⟨D1 + 1, 0, none⟩ = some (.int .i64 0) ∧ w'.cell? ⟨D1 + 1, 1, none⟩ = some (.int .i64 0) ∧ w'.cell? ⟨pb, po + j * 2, none⟩ = some (.int .i64 oc) ∧ w'.cell? ⟨pb, po + j * 2 + 1, none⟩ = some (.int .i64 og))) (by kernel_rfl) ⟨H2.o.cell 1 rfl 0 rfl, H2.o.cell 1 rfl 1 rfl, H2.o.cell 0 rfl 0 rfl, H2.o.cell 0 rfl 1 rfl, (by have := ((H2.o.oldPrs HS.o).get (i := j) hjn).1; rw [HOO.o] at this; exact this), (by have := ((H2.o.oldPrs HS.o).get (i := j) hjn).2; rw [HOO.o] at this; exact this)⟩ (fun hHeld => ?_); generalize w1.drew = k2 at *; refine tk 0 ?_; refine tk 1 ?_; refine tk 2 ?_; refine tk 3 ?_; refine tk 4 ?_; refine tk 5 ?_; refine tk 6 ?_; refine tk 7 ?_; refine wpAnyH_ready (rs := [8, 12]) (by kernel_rfl) (by simp) (AllReadyH.cons (o := _) rfl (fun K hK => ?_) (AllReadyH.cons (o := _) rfl (fun K hK => ?_) AllReadyH.nil))
       ·
        go_simp
        go_at_call 111
        refine (rnext_any _ _ _ _ _ _ _ _ _ ⟨oc0, oc1⟩ HXA.o.1 HXA.o.2 (by decide) (by decide)).mono ?_; rintro e w1 ⟨⟨l9, h9, rfl, hlh⟩, hb⟩; have H3 := kq (H2.o.call hb); clear hb; obtain ⟨b1, hb1⟩ := nK (pwIok oc og (x0, x1) (0, 0) u v); rw [hb1] at hlh ⊢; have HNb3 := kq hb1; clear hb1; have HLH := kq hlh; clear hlh; have HPP := kq (show pwInt oc og (st.getD (pwK oc - 1) (0, 0)) (st.getD 0 (0, 0)) u v = pwInt oc og (x0, x1) (0, 0) u v ∧ pwIok oc og (st.getD (pwK oc - 1) (0, 0)) (st.getD 0 (0, 0)) u v = pwIok oc og (x0, x1) (0, 0) u v from by rw [HXS.o]; exact pwInt_k1 oc1 HK0.o _ _ _ _ _ _); refine hK.out _ _ (by (try dsimp only); exact ⟨H3.o.cell 1 rfl 0 rfl, H3.o.cell 1 rfl 1 rfl, H3.o.cell 0 rfl 0 rfl, H3.o.cell 0 rfl 1 rfl, (by have := ((H3.o.oldPrs HS.o).get (i := j) hjn).1; rw [HOO.o] at this; exact this), (by have := ((H3.o.oldPrs HS.o).get (i := j) hjn).2; rw [HOO.o] at this; exact this)⟩) ?_; clear hK K hHeld; intro hHeld; try simp only [pz]
        refine tk 9 ?_; refine tk 10 ?_; refine tk 11 ?_; refine rdy 12 fun K hK => ?_
        obtain ⟨D256, hD256⟩ := nK w1.heap.size; have H4 := kq (H3.o.alloc #[.int .i64 0, .int .i64 0] 129 hD256); go_simp
        refine hK.out _ _ (by (try dsimp only); exact ⟨H4.o.cell 2 rfl 0 rfl, H4.o.cell 2 rfl 1 rfl, H4.o.cell 1 rfl 0 rfl, H4.o.cell 1 rfl 1 rfl, (by have := ((H4.o.oldPrs HS.o).get (i := j) hjn).1; rw [HOO.o] at this; exact this), (by have := ((H4.o.oldPrs HS.o).get (i := j) hjn).2; rw [HOO.o] at this; exact this)⟩) ?_; clear hK K hHeld; intro hHeld; try simp only [pz]
        clear hD256; generalize (w1.alloc (.cells #[.int .i64 0, .int .i64 0] 129)) = k3 at *; refine rdy 13 fun K hK => ?_
        have z2 := H4.o.f2 0 rfl; have H3 := kq (show St _ _ (.cells D256 #[.int .i64 l9, .int .i64 h9] 129 :: _) _ _ from ((H4.o.set 0 rfl 0 (.int .i64 l9)).set 0 rfl 1 (.int .i64 h9))); go_simp
        refine hK.out _ _ (by (try dsimp only); exact ⟨H3.o.cell 2 rfl 0 rfl, H3.o.cell 2 rfl 1 rfl, H3.o.cell 1 rfl 0 rfl, H3.o.cell 1 rfl 1 rfl, (by have := ((H3.o.oldPrs HS.o).get (i := j) hjn).1; rw [HOO.o] at this; exact this), (by have := ((H3.o.oldPrs HS.o).get (i := j) hjn).2; rw [HOO.o] at this; exact this)⟩) ?_; clear hK K hHeld; intro hHeld; try simp only [pz]
        clear z2; generalize ((k3.setCell ⟨D256, 0, none⟩ (.int .i64 l9)).setCell ⟨D256, 1, none⟩ (.int .i64 h9)) = k3 at *; refine tk 14 ?_; refine wpAnyH_done (by kernel_rfl) ?_ _; try clear hHeld
        cases b1; rotate_left
        ·
         go_upto_region 19 with fail
         have hlh := (show l9 = (pwInt oc og (x0, x1) (0, 0) u v).1 ∧ h9 = (pwInt oc og (x0, x1) (0, 0) u v).2 from by first | exact HLH.o rfl | exact HLH.o trivial | exact HLH.o); have HPK := kq (show pwIok oc og (st.getD (pwK oc - 1) (0, 0)) (st.getD 0 (0, 0)) u v = true from by rw [HPP.o.2]; exact HNb3.o); have HPV := kq (show pwInt oc og (st.getD (pwK oc - 1) (0, 0)) (st.getD 0 (0, 0)) u v = (l9, h9) from by rw [HPP.o.1, hlh.1, hlh.2]); have HPA := kq (show accOk l9 = true ∧ accOk h9 = true from by have := pwIok_lo HPK.o; rw [HPV.o] at this; exact this); clear hlh; obtain ⟨t1, t2⟩ : (T : Int) ≤ ln ∧ (ln : Int) ≤ sc := by have := HTK.o; have := arr_cap (H3.o.arrE 3 rfl); omega
         have t3 : (T : Int) ≤ sc := by omega
         have t4 : 0 ≤ (T : Int) := by omega
         have t5 : IntKind.i64.wrap (T : Int) = T := IntWalk.i64_in _ (by omega); have H4 := kq (H3.o.take 3 rfl (k := T) (by omega)); rw [prV_take] at H4; go_upto_region 19 with fail
         have H5 := kq H4.o.drew; refine wp_region_held_drew (S := (fun w' => w'.cell? ⟨D256, 0, none⟩ = some (.int .i64 l9) ∧ w'.cell? ⟨D256, 1, none⟩ = some (.int .i64 h9))) (by kernel_rfl) ⟨H5.o.cell 0 rfl 0 rfl, H5.o.cell 0 rfl 1 rfl⟩ (fun hHeld => ?_); generalize k3.drew = k3 at *; refine tk 0 ?_; refine tk 1 ?_; refine tk 2 ?_; refine tk 3 ?_; refine tk 4 ?_; refine tk 5 ?_; refine tk 6 ?_; refine rdy 7 fun K hK => ?_
         obtain ⟨D1, hD1⟩ := nK k3.heap.size; have H4 := kq (H5.o.alloc #[.int .i64 l9, .int .i64 h9] 129 hD1); go_simp
         refine hK.out _ _ (by (try dsimp only); exact ⟨H4.o.cell 1 rfl 0 rfl, H4.o.cell 1 rfl 1 rfl⟩) ?_; clear hK K hHeld; intro hHeld; try simp only [pz]
         clear hD1; generalize (k3.alloc (.cells #[.int .i64 l9, .int .i64 h9] 129)) = k3 at *; refine rdy 8 fun K hK => ?_
         rw [if_pos (by rfl)]; refine oper_append_vals _ _ 127 129 2 16 (.agg #[.int .i64 0, .int .i64 0]) Tryz.underlying127 info_span rfl (by decide) (by decide) rfl B _ _ _ D1 1 1 [.int .i64 l9, .int .i64 h9] rfl rfl rfl (H4.o.arrE 4 rfl) (lit_news H4.o 0 [.int .i64 l9, .int .i64 h9] rfl) (by intro u hu; simp at hu; rcases hu with rfl | rfl <;> rfl) (by omega) H4.o.size ?_; intro v9a k3 ho hg hv; have H5 := kq (H4.o.appendE 4 rfl ho hg hv); clear ho hg hv; obtain ⟨g1, c2, hva⟩ := arr_pos (H5.o.arrE 4 rfl) (by omega); subst hva; rw [show prV (L.take T) ++ [.int .i64 l9, .int .i64 h9] = prV ((L.take T) ++ [(l9, h9)]) from by rw [prV_app]; rfl] at H5; refine hK.out _ _ (by (try dsimp only); exact ⟨H5.o.cell 1 rfl 0 rfl, H5.o.cell 1 rfl 1 rfl⟩) ?_; clear hK K hHeld; intro hHeld; try simp only [pz]
         refine tk 9 ?_; refine wpAnyH_done (by kernel_rfl) ?_ _; try clear hHeld
         go_wp2_with fail
         go_roundw
         case rel => exact ⟨j + 1, (l9, h9) :: st.drop (pwK oc), ((L.take T) ++ [(l9, h9)]), (some ⟨g1, 0, none⟩), (T + 1), c2, by omega, by go_num, rfl, stk_take HLS.o HTK.o _, vGo_step HVR.o HKL.o (by simp only [List.length_cons, List.length_drop]; have := HKL.o; omega), iGo_step HG.o HD.o HPV.o HPK.o, by simp only [List.length_cons, List.length_drop]; have := HKL.o; omega, allAcc.step HA.o HPA.o _, H5.o.pick [4] rfl (by decide)⟩
         case measure => first | (simp [intOf]; omega) | (simp [intOf]; done)
        go_wp2_with fail
        go_ret3
        exact ⟨by rw [HEV.o, iGo_stop HG.o HD.o (HPP.o.2.trans HNb3.o)]; rfl, H3.o.bl⟩
       obtain ⟨D1, hD1⟩ := nK k2.heap.size; have H3 := kq (H2.o.alloc #[.int .i64 0, .int .i64 0] 129 hD1); go_simp
       refine hK.out _ _ (by (try dsimp only); exact ⟨H3.o.cell 2 rfl 0 rfl, H3.o.cell 2 rfl 1 rfl, H3.o.cell 1 rfl 0 rfl, H3.o.cell 1 rfl 1 rfl, (by have := ((H3.o.oldPrs HS.o).get (i := j) hjn).1; rw [HOO.o] at this; exact this), (by have := ((H3.o.oldPrs HS.o).get (i := j) hjn).2; rw [HOO.o] at this; exact this)⟩) ?_; clear hK K hHeld; intro hHeld; try simp only [pz]
       clear hD1; generalize (k2.alloc (.cells #[.int .i64 0, .int .i64 0] 129)) = k2 at *; refine rdy 8 fun K hK => ?_
       go_simp
       go_at_call 111
       refine (rnext_any _ _ _ _ _ _ _ _ _ ⟨oc0, oc1⟩ HXA.o.1 HXA.o.2 (by decide) (by decide)).mono ?_; rintro e w1 ⟨⟨l9, h9, rfl, hlh⟩, hb⟩; have H2 := kq (H3.o.call hb); clear hb; obtain ⟨b1, hb1⟩ := nK (pwIok oc og (x0, x1) (0, 0) u v); rw [hb1] at hlh ⊢; have HNb3 := kq hb1; clear hb1; have HLH := kq hlh; clear hlh; have HPP := kq (show pwInt oc og (st.getD (pwK oc - 1) (0, 0)) (st.getD 0 (0, 0)) u v = pwInt oc og (x0, x1) (0, 0) u v ∧ pwIok oc og (st.getD (pwK oc - 1) (0, 0)) (st.getD 0 (0, 0)) u v = pwIok oc og (x0, x1) (0, 0) u v from by rw [HXS.o]; exact pwInt_k1 oc1 HK0.o _ _ _ _ _ _); refine hK.out _ _ (by (try dsimp only); exact ⟨H2.o.cell 2 rfl 0 rfl, H2.o.cell 2 rfl 1 rfl, H2.o.cell 1 rfl 0 rfl, H2.o.cell 1 rfl 1 rfl, (by have := ((H2.o.oldPrs HS.o).get (i := j) hjn).1; rw [HOO.o] at this; exact this), (by have := ((H2.o.oldPrs HS.o).get (i := j) hjn).2; rw [HOO.o] at this; exact this)⟩) ?_; clear hK K hHeld; intro hHeld; try simp only [pz]
       refine tk 9 ?_; refine tk 10 ?_; refine tk 11 ?_; refine rdy 13 fun K hK => ?_
       have z2 := H2.o.f2 0 rfl; have H3 := kq (show St _ _ (.cells D1 #[.int .i64 l9, .int .i64 h9] 129 :: _) _ _ from ((H2.o.set 0 rfl 0 (.int .i64 l9)).set 0 rfl 1 (.int .i64 h9))); go_simp
       refine hK.out _ _ (by (try dsimp only); exact ⟨H3.o.cell 2 rfl 0 rfl, H3.o.cell 2 rfl 1 rfl, H3.o.cell 1 rfl 0 rfl, H3.o.cell 1 rfl 1 rfl, (by have := ((H3.o.oldPrs HS.o).get (i := j) hjn).1; rw [HOO.o] at this; exact this), (by have := ((H3.o.oldPrs HS.o).get (i := j) hjn).2; rw [HOO.o] at this; exact this)⟩) ?_; clear hK K hHeld; intro hHeld; try simp only [pz]
       clear z2; generalize ((w1.setCell ⟨D1, 0, none⟩ (.int .i64 l9)).setCell ⟨D1, 1, none⟩ (.int .i64 h9)) = k2 at *; refine tk 14 ?_; refine wpAnyH_done (by kernel_rfl) ?_ _; try clear hHeld
       cases b1; rotate_left
       ·
        go_upto_region 19 with fail
        have hlh := (show l9 = (pwInt oc og (x0, x1) (0, 0) u v).1 ∧ h9 = (pwInt oc og (x0, x1) (0, 0) u v).2 from by first | exact HLH.o rfl | exact HLH.o trivial | exact HLH.o); have HPK := kq (show pwIok oc og (st.getD (pwK oc - 1) (0, 0)) (st.getD 0 (0, 0)) u v = true from by rw [HPP.o.2]; exact HNb3.o); have HPV := kq (show pwInt oc og (st.getD (pwK oc - 1) (0, 0)) (st.getD 0 (0, 0)) u v = (l9, h9) from by rw [HPP.o.1, hlh.1, hlh.2]); have HPA := kq (show accOk l9 = true ∧ accOk h9 = true from by have := pwIok_lo HPK.o; rw [HPV.o] at this; exact this); clear hlh; obtain ⟨t1, t2⟩ : (T : Int) ≤ ln ∧ (ln : Int) ≤ sc := by have := HTK.o; have := arr_cap (H3.o.arrE 3 rfl); omega
        have t3 : (T : Int) ≤ sc := by omega
        have t4 : 0 ≤ (T : Int) := by omega
        have t5 : IntKind.i64.wrap (T : Int) = T := IntWalk.i64_in _ (by omega); have H2 := kq (H3.o.take 3 rfl (k := T) (by omega)); rw [prV_take] at H2; go_upto_region 19 with fail
        have H4 := kq H2.o.drew; refine wp_region_held_drew (S := (fun w' => w'.cell? ⟨D1, 0, none⟩ = some (.int .i64 l9) ∧ w'.cell? ⟨D1, 1, none⟩ = some (.int .i64 h9))) (by kernel_rfl) ⟨H4.o.cell 0 rfl 0 rfl, H4.o.cell 0 rfl 1 rfl⟩ (fun hHeld => ?_); generalize k2.drew = k2 at *; refine tk 0 ?_; refine tk 1 ?_; refine tk 2 ?_; refine tk 3 ?_; refine tk 4 ?_; refine tk 5 ?_; refine tk 6 ?_; refine rdy 7 fun K hK => ?_
        obtain ⟨D1, hD1⟩ := nK k2.heap.size; have H2 := kq (H4.o.alloc #[.int .i64 l9, .int .i64 h9] 129 hD1); go_simp
        refine hK.out _ _ (by (try dsimp only); exact ⟨H2.o.cell 1 rfl 0 rfl, H2.o.cell 1 rfl 1 rfl⟩) ?_; clear hK K hHeld; intro hHeld; try simp only [pz]
        clear hD1; generalize (k2.alloc (.cells #[.int .i64 l9, .int .i64 h9] 129)) = k2 at *; refine rdy 8 fun K hK => ?_
        rw [if_pos (by rfl)]; refine oper_append_vals _ _ 127 129 2 16 (.agg #[.int .i64 0, .int .i64 0]) Tryz.underlying127 info_span rfl (by decide) (by decide) rfl B _ _ _ D1 1 1 [.int .i64 l9, .int .i64 h9] rfl rfl rfl (H2.o.arrE 4 rfl) (lit_news H2.o 0 [.int .i64 l9, .int .i64 h9] rfl) (by intro u hu; simp at hu; rcases hu with rfl | rfl <;> rfl) (by omega) H2.o.size ?_; intro v9a k2 ho hg hv; have H4 := kq (H2.o.appendE 4 rfl ho hg hv); clear ho hg hv; obtain ⟨g1, c2, hva⟩ := arr_pos (H4.o.arrE 4 rfl) (by omega); subst hva; rw [show prV (L.take T) ++ [.int .i64 l9, .int .i64 h9] = prV ((L.take T) ++ [(l9, h9)]) from by rw [prV_app]; rfl] at H4; refine hK.out _ _ (by (try dsimp only); exact ⟨H4.o.cell 1 rfl 0 rfl, H4.o.cell 1 rfl 1 rfl⟩) ?_; clear hK K hHeld; intro hHeld; try simp only [pz]
        refine tk 9 ?_; refine wpAnyH_done (by kernel_rfl) ?_ _; try clear hHeld
        go_wp2_with fail
        go_roundw
        case rel => exact ⟨j + 1, (l9, h9) :: st.drop (pwK oc), ((L.take T) ++ [(l9, h9)]), (some ⟨g1, 0, none⟩), (T + 1), c2, by omega, by go_num, rfl, stk_take HLS.o HTK.o _, vGo_step HVR.o HKL.o (by simp only [List.length_cons, List.length_drop]; have := HKL.o; omega), iGo_step HG.o HD.o HPV.o HPK.o, by simp only [List.length_cons, List.length_drop]; have := HKL.o; omega, allAcc.step HA.o HPA.o _, H4.o.pick [4] rfl (by decide)⟩
        case measure => first | (simp [intOf]; omega) | (simp [intOf]; done)
       go_wp2_with fail
       go_ret3
       exact ⟨by rw [HEV.o, iGo_stop HG.o HD.o (HPP.o.2.trans HNb3.o)]; rfl, H3.o.bl⟩
      obtain rfl : k1 = 2 := by have := HNk2.o; omega
      clear HNk2; have HK0 := kq hk0; obtain ⟨T, hT⟩ : ∃ T : Nat, (ln : Int) - 2 = T := ⟨ln - 2, by have := HKL.o; omega⟩; have HTK := kq (show T + pwK oc = st.length from by have := HKL.o; omega); obtain ⟨x0, x1, hx⟩ : ∃ x0 x1, L.getD T (0, 0) = (x0, x1) := ⟨_, _, rfl⟩; have HXS := kq (show st.getD (pwK oc - 1) (0, 0) = (x0, x1) from by rw [← hx]; exact (stk_get (0, 0) HLS.o (by omega) HTK.o).symm); have HXA := kq (show accOk x0 = true ∧ accOk x1 = true from by have := HA.o (pwK oc - 1); rw [HXS.o] at this; exact this); have HX := kq hx; clear hx; obtain ⟨T1, hT1⟩ : ∃ T1 : Nat, (ln : Int) - 1 = T1 := ⟨ln - 1, by have := HKL.o; omega⟩; obtain ⟨y0, y1, hy⟩ : ∃ y0 y1, L.getD T1 (0, 0) = (y0, y1) := ⟨_, _, rfl⟩; have HYS := kq (show st.getD 0 (0, 0) = (y0, y1) from by rw [← hy]; exact (stk_get (K := 1) (0, 0) HLS.o (by omega) (by omega)).symm); have HYA := kq (show accOk y0 = true ∧ accOk y1 = true from by have := HA.o 0; rw [HYS.o] at this; exact this); have HY := kq hy; clear hy; obtain ⟨D1, hD1⟩ := nK u1.heap.size; go_upto_region 12 with fail
      have H2 := kq (show St _ _ (.cells (D1 + 1) _ _ :: .cells D1 _ _ :: _) _ _ from ((H1.o.alloc #[.int .i64 0, .int .i64 0] 129 hD1).alloc #[.int .i64 0, .int .i64 0] 129 (by first | exact hD1 | simp [hD1]))); first | refine gK H2 ?_ | refine gL H2 ?_ | refine gC H2 ?_
      clear H2; intro w1 H2; clear hD1; go_upto_region 13 with fail
      obtain ⟨zy0, zy1⟩ := arr_pair (H2.o.arrE 2 rfl) (i := T1) (by have := HTK.o; omega); rw [HY.o] at zy0 zy1
      dsimp only at zy0 zy1
      have z2 := H2.o.f2 0 rfl; go_upto_region 14 with fail
      clear z2; have H3 := kq (show St _ _ (.cells (D1 + 1) #[.int .i64 y0, .int .i64 y1] 129 :: _) _ _ from ((H2.o.set 0 rfl 0 (.int .i64 y0)).set 0 rfl 1 (.int .i64 y1))); first | refine gK H3 ?_ | refine gL H3 ?_ | refine gC H3 ?_
      clear H3; intro w1 H3; go_upto_region 15 with fail
      obtain ⟨zx0, zx1⟩ := arr_pair (H3.o.arrE 2 rfl) (i := T) (by have := HTK.o; omega); rw [HX.o] at zx0 zx1
      dsimp only at zx0 zx1
      have z2 := H3.o.f2 1 rfl; go_upto_region 16 with fail
      clear z2; have H2 := kq (show St _ _ (_ :: .cells D1 #[.int .i64 x0, .int .i64 x1] 129 :: _) _ _ from ((H3.o.set 1 rfl 0 (.int .i64 x0)).set 1 rfl 1 (.int .i64 x1))); first | refine gK H2 ?_ | refine gL H2 ?_ | refine gC H2 ?_
      clear H2; intro w1 H2; have HOO := kq (show zs.getD j (0, 0) = (oc, og) from by have := HD.o; rw [List.drop_eq_getElem_cons (by have := HL.o; omega)] at this; rw [List.getD_eq_getElem?_getD, List.getElem?_eq_getElem (by have := HL.o; omega), ← (List.cons.inj this).1]; rfl); have H3 := kq H2.o.drew; refine wp_region_held_drew (S := (fun w' => w'.cell? ⟨D1, 0, none⟩ = some (.int .i64 x0) ∧ w'.cell? ⟨D1, 1, none⟩ = some (.int .i64 x1) ∧ w'.cell? ⟨D1 + 1, 0, none⟩ = some (.int .i64 y0) ∧ w'.cell? ⟨D1 + 1, 1, none⟩ = some (.int .i64 y1) ∧ w'.cell? ⟨pb, po + j * 2, none⟩ = some (.int .i64 oc) ∧ w'.cell? ⟨pb, po + j * 2 + 1, none⟩ = some (.int .i64 og))) (by kernel_rfl) ⟨H3.o.cell 1 rfl 0 rfl, H3.o.cell 1 rfl 1 rfl, H3.o.cell 0 rfl 0 rfl, H3.o.cell 0 rfl 1 rfl, (by have := ((H3.o.oldPrs HS.o).get (i := j) hjn).1; rw [HOO.o] at this; exact this), (by have := ((H3.o.oldPrs HS.o).get (i := j) hjn).2; rw [HOO.o] at this; exact this)⟩ (fun hHeld => ?_); generalize w1.drew = k1 at *; refine tk 0 ?_; refine tk 1 ?_; refine tk 2 ?_; refine tk 3 ?_; refine tk 4 ?_; refine tk 5 ?_; refine tk 6 ?_; refine tk 7 ?_; refine wpAnyH_ready (rs := [8, 12]) (by kernel_rfl) (by simp) (AllReadyH.cons (o := _) rfl (fun K hK => ?_) (AllReadyH.cons (o := _) rfl (fun K hK => ?_) AllReadyH.nil))
      ·
       go_simp
       go_at_call 111
       refine (rnext_any _ _ _ _ _ _ _ _ _ ⟨oc0, oc1⟩ HXA.o.1 HXA.o.2 HYA.o.1 HYA.o.2).mono ?_; rintro e w1 ⟨⟨l9, h9, rfl, hlh⟩, hb⟩; have H2 := kq (H3.o.call hb); clear hb; obtain ⟨b1, hb1⟩ := nK (pwIok oc og (x0, x1) (y0, y1) u v); rw [hb1] at hlh ⊢; have HNb3 := kq hb1; clear hb1; have HLH := kq hlh; clear hlh; have HPP := kq (show pwInt oc og (st.getD (pwK oc - 1) (0, 0)) (st.getD 0 (0, 0)) u v = pwInt oc og (x0, x1) (y0, y1) u v ∧ pwIok oc og (st.getD (pwK oc - 1) (0, 0)) (st.getD 0 (0, 0)) u v = pwIok oc og (x0, x1) (y0, y1) u v from by rw [HXS.o, HYS.o]; exact ⟨rfl, rfl⟩); refine hK.out _ _ (by (try dsimp only); exact ⟨H2.o.cell 1 rfl 0 rfl, H2.o.cell 1 rfl 1 rfl, H2.o.cell 0 rfl 0 rfl, H2.o.cell 0 rfl 1 rfl, (by have := ((H2.o.oldPrs HS.o).get (i := j) hjn).1; rw [HOO.o] at this; exact this), (by have := ((H2.o.oldPrs HS.o).get (i := j) hjn).2; rw [HOO.o] at this; exact this)⟩) ?_; clear hK K hHeld; intro hHeld; try simp only [pz]
       refine tk 9 ?_; refine tk 10 ?_; refine tk 11 ?_; refine rdy 12 fun K hK => ?_
       obtain ⟨D1, hD1⟩ := nK w1.heap.size; have H4 := kq (H2.o.alloc #[.int .i64 0, .int .i64 0] 129 hD1); go_simp
       refine hK.out _ _ (by (try dsimp only); exact ⟨H4.o.cell 2 rfl 0 rfl, H4.o.cell 2 rfl 1 rfl, H4.o.cell 1 rfl 0 rfl, H4.o.cell 1 rfl 1 rfl, (by have := ((H4.o.oldPrs HS.o).get (i := j) hjn).1; rw [HOO.o] at this; exact this), (by have := ((H4.o.oldPrs HS.o).get (i := j) hjn).2; rw [HOO.o] at this; exact this)⟩) ?_; clear hK K hHeld; intro hHeld; try simp only [pz]
       clear hD1; generalize (w1.alloc (.cells #[.int .i64 0, .int .i64 0] 129)) = k2 at *; refine rdy 13 fun K hK => ?_
       have z2 := H4.o.f2 0 rfl; have H2 := kq (show St _ _ (.cells D1 #[.int .i64 l9, .int .i64 h9] 129 :: _) _ _ from ((H4.o.set 0 rfl 0 (.int .i64 l9)).set 0 rfl 1 (.int .i64 h9))); go_simp
       refine hK.out _ _ (by (try dsimp only); exact ⟨H2.o.cell 2 rfl 0 rfl, H2.o.cell 2 rfl 1 rfl, H2.o.cell 1 rfl 0 rfl, H2.o.cell 1 rfl 1 rfl, (by have := ((H2.o.oldPrs HS.o).get (i := j) hjn).1; rw [HOO.o] at this; exact this), (by have := ((H2.o.oldPrs HS.o).get (i := j) hjn).2; rw [HOO.o] at this; exact this)⟩) ?_; clear hK K hHeld; intro hHeld; try simp only [pz]
       clear z2; generalize ((k2.setCell ⟨D1, 0, none⟩ (.int .i64 l9)).setCell ⟨D1, 1, none⟩ (.int .i64 h9)) = k2 at *; refine tk 14 ?_; refine wpAnyH_done (by kernel_rfl) ?_ _; try clear hHeld
       cases b1; rotate_left
       ·
        go_upto_region 19 with fail
        have hlh := (show l9 = (pwInt oc og (x0, x1) (y0, y1) u v).1 ∧ h9 = (pwInt oc og (x0, x1) (y0, y1) u v).2 from by first | exact HLH.o rfl | exact HLH.o trivial | exact HLH.o); have HPK := kq (show pwIok oc og (st.getD (pwK oc - 1) (0, 0)) (st.getD 0 (0, 0)) u v = true from by rw [HPP.o.2]; exact HNb3.o); have HPV := kq (show pwInt oc og (st.getD (pwK oc - 1) (0, 0)) (st.getD 0 (0, 0)) u v = (l9, h9) from by rw [HPP.o.1, hlh.1, hlh.2]); have HPA := kq (show accOk l9 = true ∧ accOk h9 = true from by have := pwIok_lo HPK.o; rw [HPV.o] at this; exact this); clear hlh; obtain ⟨t1, t2⟩ : (T : Int) ≤ ln ∧ (ln : Int) ≤ sc := by have := HTK.o; have := arr_cap (H2.o.arrE 3 rfl); omega
        have t3 : (T : Int) ≤ sc := by omega
        have t4 : 0 ≤ (T : Int) := by omega
        have t5 : IntKind.i64.wrap (T : Int) = T := IntWalk.i64_in _ (by omega); have H4 := kq (H2.o.take 3 rfl (k := T) (by omega)); rw [prV_take] at H4; go_upto_region 19 with fail
        have H5 := kq H4.o.drew; refine wp_region_held_drew (S := (fun w' => w'.cell? ⟨D1, 0, none⟩ = some (.int .i64 l9) ∧ w'.cell? ⟨D1, 1, none⟩ = some (.int .i64 h9))) (by kernel_rfl) ⟨H5.o.cell 0 rfl 0 rfl, H5.o.cell 0 rfl 1 rfl⟩ (fun hHeld => ?_); generalize k2.drew = k2 at *; refine tk 0 ?_; refine tk 1 ?_; refine tk 2 ?_; refine tk 3 ?_; refine tk 4 ?_; refine tk 5 ?_; refine tk 6 ?_; refine rdy 7 fun K hK => ?_
        obtain ⟨D1, hD1⟩ := nK k2.heap.size; have H4 := kq (H5.o.alloc #[.int .i64 l9, .int .i64 h9] 129 hD1); go_simp
        refine hK.out _ _ (by (try dsimp only); exact ⟨H4.o.cell 1 rfl 0 rfl, H4.o.cell 1 rfl 1 rfl⟩) ?_; clear hK K hHeld; intro hHeld; try simp only [pz]
        clear hD1; generalize (k2.alloc (.cells #[.int .i64 l9, .int .i64 h9] 129)) = k2 at *; refine rdy 8 fun K hK => ?_
        rw [if_pos (by rfl)]; refine oper_append_vals _ _ 127 129 2 16 (.agg #[.int .i64 0, .int .i64 0]) Tryz.underlying127 info_span rfl (by decide) (by decide) rfl B _ _ _ D1 1 1 [.int .i64 l9, .int .i64 h9] rfl rfl rfl (H4.o.arrE 4 rfl) (lit_news H4.o 0 [.int .i64 l9, .int .i64 h9] rfl) (by intro u hu; simp at hu; rcases hu with rfl | rfl <;> rfl) (by omega) H4.o.size ?_; intro v9a k2 ho hg hv; have H5 := kq (H4.o.appendE 4 rfl ho hg hv); clear ho hg hv; obtain ⟨g1, c2, hva⟩ := arr_pos (H5.o.arrE 4 rfl) (by omega); subst hva; rw [show prV (L.take T) ++ [.int .i64 l9, .int .i64 h9] = prV ((L.take T) ++ [(l9, h9)]) from by rw [prV_app]; rfl] at H5; refine hK.out _ _ (by (try dsimp only); exact ⟨H5.o.cell 1 rfl 0 rfl, H5.o.cell 1 rfl 1 rfl⟩) ?_; clear hK K hHeld; intro hHeld; try simp only [pz]
        refine tk 9 ?_; refine wpAnyH_done (by kernel_rfl) ?_ _; try clear hHeld
        go_wp2_with fail
        go_roundw
        case rel => exact ⟨j + 1, (l9, h9) :: st.drop (pwK oc), ((L.take T) ++ [(l9, h9)]), (some ⟨g1, 0, none⟩), (T + 1), c2, by omega, by go_num, rfl, stk_take HLS.o HTK.o _, vGo_step HVR.o HKL.o (by simp only [List.length_cons, List.length_drop]; have := HKL.o; omega), iGo_step HG.o HD.o HPV.o HPK.o, by simp only [List.length_cons, List.length_drop]; have := HKL.o; omega, allAcc.step HA.o HPA.o _, H5.o.pick [4] rfl (by decide)⟩
        case measure => first | (simp [intOf]; omega) | (simp [intOf]; done)
       go_wp2_with fail
       go_ret3
       exact ⟨by rw [HEV.o, iGo_stop HG.o HD.o (HPP.o.2.trans HNb3.o)]; rfl, H2.o.bl⟩
      obtain ⟨D1, hD1⟩ := nK k1.heap.size; have H2 := kq (H3.o.alloc #[.int .i64 0, .int .i64 0] 129 hD1); go_simp
      refine hK.out _ _ (by (try dsimp only); exact ⟨H2.o.cell 2 rfl 0 rfl, H2.o.cell 2 rfl 1 rfl, H2.o.cell 1 rfl 0 rfl, H2.o.cell 1 rfl 1 rfl, (by have := ((H2.o.oldPrs HS.o).get (i := j) hjn).1; rw [HOO.o] at this; exact this), (by have := ((H2.o.oldPrs HS.o).get (i := j) hjn).2; rw [HOO.o] at this; exact this)⟩) ?_; clear hK K hHeld; intro hHeld; try simp only [pz]
      clear hD1; generalize (k1.alloc (.cells #[.int .i64 0, .int .i64 0] 129)) = k1 at *; refine rdy 8 fun K hK => ?_
      go_simp
      go_at_call 111
      refine (rnext_any _ _ _ _ _ _ _ _ _ ⟨oc0, oc1⟩ HXA.o.1 HXA.o.2 HYA.o.1 HYA.o.2).mono ?_; rintro e w1 ⟨⟨l9, h9, rfl, hlh⟩, hb⟩; have H3 := kq (H2.o.call hb); clear hb; obtain ⟨b1, hb1⟩ := nK (pwIok oc og (x0, x1) (y0, y1) u v); rw [hb1] at hlh ⊢; have HNb3 := kq hb1; clear hb1; have HLH := kq hlh; clear hlh; have HPP := kq (show pwInt oc og (st.getD (pwK oc - 1) (0, 0)) (st.getD 0 (0, 0)) u v = pwInt oc og (x0, x1) (y0, y1) u v ∧ pwIok oc og (st.getD (pwK oc - 1) (0, 0)) (st.getD 0 (0, 0)) u v = pwIok oc og (x0, x1) (y0, y1) u v from by rw [HXS.o, HYS.o]; exact ⟨rfl, rfl⟩); refine hK.out _ _ (by (try dsimp only); exact ⟨H3.o.cell 2 rfl 0 rfl, H3.o.cell 2 rfl 1 rfl, H3.o.cell 1 rfl 0 rfl, H3.o.cell 1 rfl 1 rfl, (by have := ((H3.o.oldPrs HS.o).get (i := j) hjn).1; rw [HOO.o] at this; exact this), (by have := ((H3.o.oldPrs HS.o).get (i := j) hjn).2; rw [HOO.o] at this; exact this)⟩) ?_; clear hK K hHeld; intro hHeld; try simp only [pz]
      refine tk 9 ?_; refine tk 10 ?_; refine tk 11 ?_; refine rdy 13 fun K hK => ?_
      have z2 := H3.o.f2 0 rfl; have H2 := kq (show St _ _ (.cells D1 #[.int .i64 l9, .int .i64 h9] 129 :: _) _ _ from ((H3.o.set 0 rfl 0 (.int .i64 l9)).set 0 rfl 1 (.int .i64 h9))); go_simp
      refine hK.out _ _ (by (try dsimp only); exact ⟨H2.o.cell 2 rfl 0 rfl, H2.o.cell 2 rfl 1 rfl, H2.o.cell 1 rfl 0 rfl, H2.o.cell 1 rfl 1 rfl, (by have := ((H2.o.oldPrs HS.o).get (i := j) hjn).1; rw [HOO.o] at this; exact this), (by have := ((H2.o.oldPrs HS.o).get (i := j) hjn).2; rw [HOO.o] at this; exact this)⟩) ?_; clear hK K hHeld; intro hHeld; try simp only [pz]
      clear z2; generalize ((w1.setCell ⟨D1, 0, none⟩ (.int .i64 l9)).setCell ⟨D1, 1, none⟩ (.int .i64 h9)) = k1 at *; refine tk 14 ?_; refine wpAnyH_done (by kernel_rfl) ?_ _; try clear hHeld
      cases b1; rotate_left
      ·
       go_upto_region 19 with fail
       have hlh := (show l9 = (pwInt oc og (x0, x1) (y0, y1) u v).1 ∧ h9 = (pwInt oc og (x0, x1) (y0, y1) u v).2 from by first | exact HLH.o rfl | exact HLH.o trivial | exact HLH.o); have HPK := kq (show pwIok oc og (st.getD (pwK oc - 1) (0, 0)) (st.getD 0 (0, 0)) u v = true from by rw [HPP.o.2]; exact HNb3.o); have HPV := kq (show pwInt oc og (st.getD (pwK oc - 1) (0, 0)) (st.getD 0 (0, 0)) u v = (l9, h9) from by rw [HPP.o.1, hlh.1, hlh.2]); have HPA := kq (show accOk l9 = true ∧ accOk h9 = true from by have := pwIok_lo HPK.o; rw [HPV.o] at this; exact this); clear hlh; obtain ⟨t1, t2⟩ : (T : Int) ≤ ln ∧ (ln : Int) ≤ sc := by have := HTK.o; have := arr_cap (H2.o.arrE 3 rfl); omega
       have t3 : (T : Int) ≤ sc := by omega
       have t4 : 0 ≤ (T : Int) := by omega
       have t5 : IntKind.i64.wrap (T : Int) = T := IntWalk.i64_in _ (by omega); have H3 := kq (H2.o.take 3 rfl (k := T) (by omega)); rw [prV_take] at H3; go_upto_region 19 with fail
       have H4 := kq H3.o.drew; refine wp_region_held_drew (S := (fun w' => w'.cell? ⟨D1, 0, none⟩ = some (.int .i64 l9) ∧ w'.cell? ⟨D1, 1, none⟩ = some (.int .i64 h9))) (by kernel_rfl) ⟨H4.o.cell 0 rfl 0 rfl, H4.o.cell 0 rfl 1 rfl⟩ (fun hHeld => ?_); generalize k1.drew = k1 at *; refine tk 0 ?_; refine tk 1 ?_; refine tk 2 ?_; refine tk 3 ?_; refine tk 4 ?_; refine tk 5 ?_; refine tk 6 ?_; refine rdy 7 fun K hK => ?_
       obtain ⟨D1, hD1⟩ := nK k1.heap.size; have H3 := kq (H4.o.alloc #[.int .i64 l9, .int .i64 h9] 129 hD1); go_simp
       refine hK.out _ _ (by (try dsimp only); exact ⟨H3.o.cell 1 rfl 0 rfl, H3.o.cell 1 rfl 1 rfl⟩) ?_; clear hK K hHeld; intro hHeld; try simp only [pz]
       clear hD1; generalize (k1.alloc (.cells #[.int .i64 l9, .int .i64 h9] 129)) = k1 at *; refine rdy 8 fun K hK => ?_
       rw [if_pos (by rfl)]; refine oper_append_vals _ _ 127 129 2 16 (.agg #[.int .i64 0, .int .i64 0]) Tryz.underlying127 info_span rfl (by decide) (by decide) rfl B _ _ _ D1 1 1 [.int .i64 l9, .int .i64 h9] rfl rfl rfl (H3.o.arrE 4 rfl) (lit_news H3.o 0 [.int .i64 l9, .int .i64 h9] rfl) (by intro u hu; simp at hu; rcases hu with rfl | rfl <;> rfl) (by omega) H3.o.size ?_; intro v9a k1 ho hg hv; have H4 := kq (H3.o.appendE 4 rfl ho hg hv); clear ho hg hv; obtain ⟨g1, c2, hva⟩ := arr_pos (H4.o.arrE 4 rfl) (by omega); subst hva; rw [show prV (L.take T) ++ [.int .i64 l9, .int .i64 h9] = prV ((L.take T) ++ [(l9, h9)]) from by rw [prV_app]; rfl] at H4; refine hK.out _ _ (by (try dsimp only); exact ⟨H4.o.cell 1 rfl 0 rfl, H4.o.cell 1 rfl 1 rfl⟩) ?_; clear hK K hHeld; intro hHeld; try simp only [pz]
       refine tk 9 ?_; refine wpAnyH_done (by kernel_rfl) ?_ _; try clear hHeld
       go_wp2_with fail
       go_roundw
       case rel => exact ⟨j + 1, (l9, h9) :: st.drop (pwK oc), ((L.take T) ++ [(l9, h9)]), (some ⟨g1, 0, none⟩), (T + 1), c2, by omega, by go_num, rfl, stk_take HLS.o HTK.o _, vGo_step HVR.o HKL.o (by simp only [List.length_cons, List.length_drop]; have := HKL.o; omega), iGo_step HG.o HD.o HPV.o HPK.o, by simp only [List.length_cons, List.length_drop]; have := HKL.o; omega, allAcc.step HA.o HPA.o _, H4.o.pick [4] rfl (by decide)⟩
       case measure => first | (simp [intOf]; omega) | (simp [intOf]; done)
      go_wp2_with fail
      go_ret3
      exact ⟨by rw [HEV.o, iGo_stop HG.o HD.o (HPP.o.2.trans HNb3.o)]; rfl, H2.o.bl⟩
     have hjn' : ¬ ((j : Int) < n) := by omega
     have HE := kq (show zs.drop j = [] from List.drop_eq_nil_of_le (by have := HL.o; omega)); have hs1 : st.length = 1 := vGo_nil (by rw [← HE.o]; exact HVG.o); obtain ⟨q1, q2⟩ : 1 ≤ ln ∧ ln ≤ 1 := by omega
     have q3 : 0 < ln := by omega
     have q4 : (0 : Int) < ln := by omega
     obtain ⟨z0, z1, hz⟩ : ∃ z0 z1, L.getD 0 (0, 0) = (z0, z1) := ⟨_, _, rfl⟩; have HZ := kq (show ivR zs u v = (z0, z1, 0) from by rw [HEV.o, ← HG.o, HE.o]; unfold iGo; rw [show st.headD (0, 0) = (z0, z1) from by rw [← hz, stk_get (K := 1) (0, 0) HLS.o (by omega) (by omega), List.headD_eq_head?_getD, List.getD_eq_getElem?_getD, List.head?_eq_getElem?]]); obtain ⟨g, cc, hgg⟩ := arr_pos (H1.o.arrE 0 rfl) (by omega); injection hgg with hga hgb hgc
     subst hga; clear hgb hgc; go_upto_region 20 with fail
     have H2 := kq H1.o.drew; refine wp_region_held_drew (S := (fun w' => w'.cell? ⟨g, 0, none⟩ = some (.int .i64 z0) ∧ w'.cell? ⟨g, 1, none⟩ = some (.int .i64 z1))) (by kernel_rfl) ⟨(by have := (arr_pair (H2.o.arrE 0 rfl) (i := 0) (by omega)).1; rw [hz] at this; exact this), (by have := (arr_pair (H2.o.arrE 0 rfl) (i := 0) (by omega)).2; rw [hz] at this; exact this)⟩ (fun hHeld => ?_); generalize u1.drew = k1 at *; refine tk 0 ?_; refine tk 1 ?_; refine tk 2 ?_; refine tk 3 ?_; refine tk 4 ?_; refine tk 5 ?_; refine tk 6 ?_; refine tk 7 ?_; refine tk 8 ?_; refine tk 9 ?_; refine tk 10 ?_; refine wpAnyH_done (by kernel_rfl) ?_ _; try clear hHeld
     go_wp2_with fail
     go_ret3
     exact ⟨by rw [HZ.o]; rfl, H2.o.bl⟩
   go_wp2_with fail
   go_ret3
   exact ⟨by rw [ivR_range (by rw [HNk1.o]; have := c1h.o; omega) (by rw [HNb1.o, HNb2.o]; simp)]; rfl, H128.o.bl⟩
  go_wp2_with fail
  go_ret3
  exact ⟨by rw [ivR_range (by rw [HNk1.o]; have := c1h.o; omega) (by rw [HNb1.o]; simp)]; rfl, H128.o.bl⟩
 go_wp2_with fail
 go_ret3
 exact ⟨by rw [ivR_bad HNk1.o (by have := c1h.o; omega)]; rfl, H128.o.bl⟩
end Go.Proofs.YteejjnhlfgjlaaaGreat
