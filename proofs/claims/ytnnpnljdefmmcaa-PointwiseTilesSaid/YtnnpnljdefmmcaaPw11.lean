/-
  Contracts: the interval of a program, in the reference.
-/
import Derived.Test.YtnnpnljdefmmcaaPw6
import Derived.Test.YtnnpnljdefmmcaaPw10
namespace Go.Proofs.Ytnnpnljdefmmcaa
open Go.RowKit
attribute [local go_sem ↓] Go.wp_at_zero Go.wp_at_succ
set_option linter.unusedVariables false
set_option linter.unusedSimpArgs false

set_option maxHeartbeats 800000 in
theorem rval14_any (v : Int) (w : World) : Calls Try.prog 71 #[.int .i64 v] w fun e w' => e = .returned (.bool (valOk v)) ∧ w' = w := by
  go_enter Try.func71, Try.ntmps71
  go_wp2
  all_goals (go_ret; refine ⟨ret_b (bool_of_iff ?_), rfl⟩; simp only [valOk, decide_eq_true_eq, Bool.false_eq_true, false_iff, true_iff, Bool.and_eq_true, iff_false, iff_true] <;> omega)
theorem arr_cases {B : Nat} {w : World} {e : TypeId} {sz ln sc : Nat} {sa : Option Addr} {vs : List Value} (h : w.ownsRow B e sz (.slice sa ln sc) ln vs) (j n : Nat) :
    (j < n ∧ sa = none ∧ ln = 0 ∧ sc = 0) ∨ (j < n ∧ ∃ g, sa = some ⟨g, 0, none⟩) ∨ ¬ j < n := by
  by_cases hj : j < n
  · rcases ownsRow_form h with ⟨e, e0⟩ | ⟨g, c', e, _⟩
    · cases e; exact .inl ⟨hj, rfl, rfl, rfl⟩
    · cases e; exact .inr (.inl ⟨hj, g, rfl⟩)
  · exact .inr (.inr hj)
theorem info_span : (Try.prog.info? 99).map (fun i => (i.zero, i.size, i.bytes)) = some (some (.agg #[.int .i64 0, .int .i64 0]), 2, 16) := by kernel_rfl

set_option maxRecDepth 100000 in
set_option maxHeartbeats 6400000 in
theorem rinterval_any (a : Option Addr) (n c : Nat) (zs : List (Int × Int)) (u v : Int) (W : World) (hs : Prs W a n c zs) : Calls Try.prog 34 #[.slice a n c, .int .i64 u, .int .i64 v] W fun e w' => e = .returned (.tuple #[.int .i64 (ivR zs u v).1, .int .i64 (ivR zs u v).2.1, .int .i64 (ivR zs u v).2.2]) ∧ Below W.heap.size W w' := by
  obtain ⟨B, hB⟩ : ∃ B, W.heap.size = B := ⟨_, rfl⟩
  have HI0 := hid (St.init hB)
  have HS := hid hs
  have HL := hid hs.len
  have nmx : (n : Int) ≤ 9223372036854775807 := by have := hs.nc; have := hs.cap; omega
  clear hs
  go_enter Try.func34, Try.ntmps34
  go_wp2_with fail
  refine (rvalid_any14 _ _ _ _ true _ (HI0.out.oldPrs HS.out)).mono ?_
  rintro e w127 ⟨rfl, hb⟩
  have H128 := hid (HI0.out.call hb)
  clear hb
  obtain ⟨k129, hk129⟩ : ∃ xx', vCode zs true = xx' := ⟨_, rfl⟩
  rw [hk129]
  have HNk129 := hid hk129
  clear hk129
  by_cases c130 : (k129 : Int) = 0
  · obtain ⟨c130c, c130d⟩ : (k129 : Int) ≤ 0 ∧ (0 : Int) ≤ k129 := by omega
    have c130a : ((k129 : Int) == (0)) = true := by simpa using c130
    have c130b : ((k129 : Int) != (0)) = false := by simpa using c130
    have c130h := hid c130
    clear c130
    go_wp2_with fail
    refine (rval14_any _ _).mono ?_
    rintro e w131 ⟨rfl, hsw⟩
    have hsw2 : w127 = w131 := by first | exact hsw | exact hsw.symm
    clear hsw
    subst hsw2
    obtain ⟨b132, hb132⟩ : ∃ xx', valOk u = xx' := ⟨_, rfl⟩
    rw [hb132]
    have HNb132 := hid hb132
    clear hb132
    cases b132 with
    | true =>
      go_wp2_with fail
      refine (rval14_any _ _).mono ?_
      rintro e w133 ⟨rfl, hsw⟩
      have hsw2 : w127 = w133 := by first | exact hsw | exact hsw.symm
      clear hsw
      subst hsw2
      obtain ⟨b134, hb134⟩ : ∃ xx', valOk v = xx' := ⟨_, rfl⟩
      rw [hb134]
      have HNb134 := hid hb134
      clear hb134
      cases b134 with
      | true =>
        go_wp2_with fail
        have HV := hid (show vCode zs true = 0 from by rw [HNk129.out]; have := c130h.out; omega)
        have HU := hid (show valOk u = true from HNb132.out)
        have HW := hid (show valOk v = true from HNb134.out)
        have HEV := hid (ivR_go (l := zs) (a := u) (b := v) HV.out HU.out HW.out)
        obtain ⟨n1, n2⟩ : 1 ≤ n ∧ n ≤ 32 := by have := vCode_zero.1 HV.out; have := HL.out; omega
        have H135 := hid (show St B W [.arr (99) 2 (.slice none 0 0) 0 (prV [])] [] w127 from H128.out.arrNilE 99 2)
        go_loopw [11, 10] (fun i s wr => ∃ (j : Nat) (st L : List (Int × Int)) (sa : Option Addr) (ln sc : Nat), j ≤ n ∧ i = .int .i64 j ∧ s = .slice sa ln sc ∧ L = st.reverse ∧ vGo (zs.drop j) true st.length = 0 ∧ iGo (zs.drop j) st u v = iGo zs [] u v ∧ st.length ≤ j ∧ allAcc st ∧ St B W [.arr (99) 2 (.slice sa ln sc) ln (prV L)] [] wr) (fun i _ _ => n - (intOf i).toNat)
        case atStart => exact ⟨0, [], [], none, 0, 0, by omega, rfl, rfl, rfl, (vCode_zero.1 HV.out).2.2, rfl, by simp, allAcc.nil, H135.out⟩
        case round =>
          obtain ⟨j, st, L, sa, ln, sc, hj, rfl, rfl, hls, hvg, hg, hsl, ha, hst⟩ := hrel
          obtain ⟨u136, rfl⟩ : ∃ u136 : World, u136 = wr := ⟨_, rfl⟩
          have H137 := hid hst
          clear hst
          have HLS := hid hls
          have HVG := hid hvg
          have HG := hid hg
          have HA := hid ha
          clear hvg hg ha
          have hll := arr_len (H137.out.arrE 0 rfl)
          obtain ⟨ll1, ll2, ll3, ll4⟩ : ln ≤ st.length ∧ st.length ≤ ln ∧ ln ≤ L.length ∧ L.length ≤ ln := by rw [hls, List.length_reverse] at hll; rw [hls, List.length_reverse]; omega
          clear hls hll
          rcases arr_cases (H137.out.arrE 0 rfl) j n with ⟨hjn, hsa, hln, hsc⟩ | ⟨hjn, g, hsa⟩ | hjn
          · skip
            subst hsa
            subst hln
            subst hsc
            have hjn' : (j : Int) < n := by omega
            obtain ⟨pb, po, hpa⟩ := (H137.out.oldPrs HS.out).at (by omega)
            subst hpa
            obtain ⟨cz0, cz1⟩ := (H137.out.oldPrs HS.out).get (i := j) hjn
            obtain ⟨oc, og, hoo⟩ : ∃ x y, zs.getD j (0, 0) = (x, y) := ⟨_, _, rfl⟩
            have HD := hid (drop_one (by rw [← HL.out]; exact hjn) hoo)
            rw [hoo] at cz0 cz1
            dsimp only at cz0 cz1
            clear hoo
            obtain ⟨oc0, oc11, hoA, hoK, hoG, hoV⟩ : 0 ≤ oc ∧ oc ≤ 11 ∧ (oc = 1 → true = true) ∧ pwK oc ≤ st.length ∧ pwArg oc og = true ∧ vGo (zs.drop (j + 1)) true (st.length + 1 - pwK oc) = 0 := vGo_cons (by rw [← HD.out]; exact HVG.out)
            have HARG := hid hoG
            have HVR := hid hoV
            have HKL := hid hoK
            clear hoA hoK hoG hoV
            go_wp2_with fail
            refine (rtakes_any _ _).mono ?_
            rintro e w138 ⟨rfl, hsw⟩
            have hsw2 : u136 = w138 := by first | exact hsw | exact hsw.symm
            clear hsw
            subst hsw2
            obtain ⟨k139, hk139⟩ : ∃ xx', ((pwK oc : Nat) : Int) = xx' := ⟨_, rfl⟩
            rw [hk139]
            have HNk139 := hid hk139
            clear hk139
            have hk0 : pwK oc = 0 := by have := HKL.out; omega
            obtain rfl : k139 = 0 := by have := HNk139.out; omega
            clear HNk139
            have HK0 := hid hk0
            obtain ⟨D140, hD140⟩ : ∃ D, u136.heap.size = D := ⟨_, rfl⟩
            go_upto_region 12 with fail
            have H141 := hid (show St B W [.cells (D140 + 1) #[.int .i64 0, .int .i64 0] 99, .cells D140 #[.int .i64 0, .int .i64 0] 99, .arr (99) 2 (.slice none 0 0) 0 (prV L)] [] ((u136.alloc (.cells #[.int .i64 0, .int .i64 0] 99)).alloc (.cells #[.int .i64 0, .int .i64 0] 99)) from ((H137.out.alloc #[.int .i64 0, .int .i64 0] 99 hD140).alloc #[.int .i64 0, .int .i64 0] 99 (by first | exact hD140 | simp [hD140])))
            first | refine gen_code H141.out ?_ | refine gen_list H141.out ?_ | refine gen_calls H141.out ?_
            intro w142 hG
            clear H141
            have H141 := hid hG
            clear hG
            clear hD140
            go_upto_region 16 with fail
            have HOO := hid (show zs.getD j (0, 0) = (oc, og) from by have := HD.out; rw [List.drop_eq_getElem_cons (by have := HL.out; omega)] at this; rw [List.getD_eq_getElem?_getD, List.getElem?_eq_getElem (by have := HL.out; omega), ← (List.cons.inj this).1]; rfl)
            have H143 := hid H141.out.drew
            refine wp_region_held_drew (S := (fun w' => w'.cell? ⟨D140, 0, none⟩ = some (.int .i64 0) ∧ w'.cell? ⟨D140, 1, none⟩ = some (.int .i64 0) ∧ w'.cell? ⟨D140 + 1, 0, none⟩ = some (.int .i64 0) ∧ w'.cell? ⟨D140 + 1, 1, none⟩ = some (.int .i64 0) ∧ w'.cell? ⟨pb, po + j * 2, none⟩ = some (.int .i64 oc) ∧ w'.cell? ⟨pb, po + j * 2 + 1, none⟩ = some (.int .i64 og))) (by kernel_rfl) ⟨H143.out.cell 1 rfl 0 rfl, H143.out.cell 1 rfl 1 rfl, H143.out.cell 0 rfl 0 rfl, H143.out.cell 0 rfl 1 rfl, (by have := ((H143.out.oldPrs HS.out).get (i := j) hjn).1; rw [HOO.out] at this; exact this), (by have := ((H143.out.oldPrs HS.out).get (i := j) hjn).2; rw [HOO.out] at this; exact this)⟩ (fun hHeld => ?_)
            generalize w142.drew = k144 at *
            refine tkA 0 ?_
            try simp only [Act.put, p1, p2, p3, p4, p5, p6]
            refine tkA 1 ?_
            try simp only [Act.put, p1, p2, p3, p4, p5, p6]
            refine tkA 2 ?_
            try simp only [Act.put, p1, p2, p3, p4, p5, p6]
            refine tkA 3 ?_
            try simp only [Act.put, p1, p2, p3, p4, p5, p6]
            refine tkA 4 ?_
            try simp only [Act.put, p1, p2, p3, p4, p5, p6]
            refine tkA 5 ?_
            try simp only [Act.put, p1, p2, p3, p4, p5, p6]
            refine tkA 6 ?_
            try simp only [Act.put, p1, p2, p3, p4, p5, p6]
            refine tkA 7 ?_
            try simp only [Act.put, p1, p2, p3, p4, p5, p6]
            refine wpAnyH_ready (rs := [8, 12]) (by kernel_rfl) (by simp) (AllReadyH.cons (o := _) rfl (fun K hK => ?_) (AllReadyH.cons (o := _) rfl (fun K hK => ?_) AllReadyH.nil))
            · go_simp
              go_at_call 73
              refine (rnext_any _ _ _ _ _ _ _ _ _ ⟨oc0, oc11⟩ (by decide) (by decide) (by decide) (by decide)).mono ?_
              rintro e w145 ⟨⟨l9, h9, rfl, hlh⟩, hb⟩
              have H146 := hid (H143.out.call hb)
              clear hb
              obtain ⟨b147, hb147⟩ : ∃ xx', pwIok oc og (0, 0) (0, 0) u v = xx' := ⟨_, rfl⟩
              rw [hb147] at hlh ⊢
              have HNb147 := hid hb147
              clear hb147
              have HLH := hid hlh
              clear hlh
              have HPP := hid (show pwInt oc og (st.getD (pwK oc - 1) (0, 0)) (st.getD 0 (0, 0)) u v = pwInt oc og (0, 0) (0, 0) u v ∧ pwIok oc og (st.getD (pwK oc - 1) (0, 0)) (st.getD 0 (0, 0)) u v = pwIok oc og (0, 0) (0, 0) u v from pwInt_k0 oc0 HK0.out _ _ _ _ _ _ _)
              refine hK.out _ _ ?_ (fun hHeld2 => ?_)
              focus ((try dsimp only); (exact ⟨H146.out.cell 1 rfl 0 rfl, H146.out.cell 1 rfl 1 rfl, H146.out.cell 0 rfl 0 rfl, H146.out.cell 0 rfl 1 rfl, (by have := ((H146.out.oldPrs HS.out).get (i := j) hjn).1; rw [HOO.out] at this; exact this), (by have := ((H146.out.oldPrs HS.out).get (i := j) hjn).2; rw [HOO.out] at this; exact this)⟩))
              clear hK K
              try simp only [Act.put, p1, p2, p3, p4, p5, p6]
              clear hHeld
              have hHeld := hHeld2
              clear hHeld2
              refine tkA 9 ?_
              try simp only [Act.put, p1, p2, p3, p4, p5, p6]
              refine tkA 10 ?_
              try simp only [Act.put, p1, p2, p3, p4, p5, p6]
              refine tkA 11 ?_
              try simp only [Act.put, p1, p2, p3, p4, p5, p6]
              refine wpAnyH_ready (rs := [12]) (by kernel_rfl) (by simp) (AllReadyH.cons (o := _) rfl (fun K hK => ?_) AllReadyH.nil)
              obtain ⟨D148, hD148⟩ : ∃ D, w145.heap.size = D := ⟨_, rfl⟩
              have H149 := hid (H146.out.alloc #[.int .i64 0, .int .i64 0] 99 hD148)
              go_simp
              refine hK.out _ _ ?_ (fun hHeld2 => ?_)
              focus ((try dsimp only); (exact ⟨H149.out.cell 2 rfl 0 rfl, H149.out.cell 2 rfl 1 rfl, H149.out.cell 1 rfl 0 rfl, H149.out.cell 1 rfl 1 rfl, (by have := ((H149.out.oldPrs HS.out).get (i := j) hjn).1; rw [HOO.out] at this; exact this), (by have := ((H149.out.oldPrs HS.out).get (i := j) hjn).2; rw [HOO.out] at this; exact this)⟩))
              clear hK K hHeld
              try simp only [Act.put, p1, p2, p3, p4, p5, p6]
              clear hD148
              generalize (w145.alloc (.cells #[.int .i64 0, .int .i64 0] 99)) = k150 at *
              have hHeld := hHeld2
              clear hHeld2
              refine wpAnyH_ready (rs := [13]) (by kernel_rfl) (by simp) (AllReadyH.cons (o := _) rfl (fun K hK => ?_) AllReadyH.nil)
              have z151 := H149.out.cell 0 rfl 0 rfl
              have z152 := H149.out.free 0 rfl 0
              have z153 := H149.out.cell 0 rfl 1 rfl
              have z154 := H149.out.free 0 rfl 1
              have H155 := hid (show St B W [.cells D148 #[.int .i64 l9, .int .i64 h9] 99, .cells (D140 + 1) #[.int .i64 0, .int .i64 0] 99, .cells D140 #[.int .i64 0, .int .i64 0] 99, .arr (99) 2 (.slice none 0 0) 0 (prV L)] [] ((k150.setCell ⟨D148, 0, none⟩ (.int .i64 l9)).setCell ⟨D148, 1, none⟩ (.int .i64 h9)) from ((H149.out.set 0 rfl 0 (.int .i64 l9)).set 0 rfl 1 (.int .i64 h9)))
              go_simp
              refine hK.out _ _ ?_ (fun hHeld2 => ?_)
              focus ((try dsimp only); (exact ⟨H155.out.cell 2 rfl 0 rfl, H155.out.cell 2 rfl 1 rfl, H155.out.cell 1 rfl 0 rfl, H155.out.cell 1 rfl 1 rfl, (by have := ((H155.out.oldPrs HS.out).get (i := j) hjn).1; rw [HOO.out] at this; exact this), (by have := ((H155.out.oldPrs HS.out).get (i := j) hjn).2; rw [HOO.out] at this; exact this)⟩))
              clear hK K hHeld
              try simp only [Act.put, p1, p2, p3, p4, p5, p6]
              clear z151 z152 z153 z154
              generalize ((k150.setCell ⟨D148, 0, none⟩ (.int .i64 l9)).setCell ⟨D148, 1, none⟩ (.int .i64 h9)) = k156 at *
              have hHeld := hHeld2
              clear hHeld2
              refine tkA 14 ?_
              try simp only [Act.put, p1, p2, p3, p4, p5, p6]
              refine wpAnyH_done (by kernel_rfl) ?_ _
              try clear hHeld
              cases b147 with
              | true =>
                go_upto_region 19 with fail
                have hlh := (show l9 = (pwInt oc og (0, 0) (0, 0) u v).1 ∧ h9 = (pwInt oc og (0, 0) (0, 0) u v).2 from by first | exact HLH.out rfl | exact HLH.out trivial | exact HLH.out)
                have HPK := hid (show pwIok oc og (st.getD (pwK oc - 1) (0, 0)) (st.getD 0 (0, 0)) u v = true from by rw [HPP.out.2]; exact HNb147.out)
                have HPV := hid (show pwInt oc og (st.getD (pwK oc - 1) (0, 0)) (st.getD 0 (0, 0)) u v = (l9, h9) from by rw [HPP.out.1, hlh.1, hlh.2])
                have HPA := hid (show accOk l9 = true ∧ accOk h9 = true from by have := pwIok_lo HPK.out; rw [HPV.out] at this; exact this)
                clear hlh
                have t5 : IntKind.i64.wrap (0 : Int) = 0 := rfl
                have t6 : IntKind.i64.wrap (((0 : Nat) : Int) - 0) = 0 := rfl
                go_upto_region 19 with fail
                have H157 := hid H155.out.drew
                refine wp_region_held_drew (S := (fun w' => w'.cell? ⟨D148, 0, none⟩ = some (.int .i64 l9) ∧ w'.cell? ⟨D148, 1, none⟩ = some (.int .i64 h9))) (by kernel_rfl) ⟨H157.out.cell 0 rfl 0 rfl, H157.out.cell 0 rfl 1 rfl⟩ (fun hHeld => ?_)
                generalize k156.drew = k158 at *
                refine tkA 0 ?_
                try simp only [Act.put, p1, p2, p3, p4, p5, p6]
                refine tkA 1 ?_
                try simp only [Act.put, p1, p2, p3, p4, p5, p6]
                refine tkA 2 ?_
                try simp only [Act.put, p1, p2, p3, p4, p5, p6]
                refine tkA 3 ?_
                try simp only [Act.put, p1, p2, p3, p4, p5, p6]
                refine tkA 4 ?_
                try simp only [Act.put, p1, p2, p3, p4, p5, p6]
                refine tkA 5 ?_
                try simp only [Act.put, p1, p2, p3, p4, p5, p6]
                refine tkA 6 ?_
                try simp only [Act.put, p1, p2, p3, p4, p5, p6]
                refine wpAnyH_ready (rs := [7]) (by kernel_rfl) (by simp) (AllReadyH.cons (o := _) rfl (fun K hK => ?_) AllReadyH.nil)
                obtain ⟨D159, hD159⟩ : ∃ D, k158.heap.size = D := ⟨_, rfl⟩
                have H160 := hid (H157.out.alloc #[.int .i64 l9, .int .i64 h9] 99 hD159)
                go_simp
                refine hK.out _ _ ?_ (fun hHeld2 => ?_)
                focus ((try dsimp only); (exact ⟨H160.out.cell 1 rfl 0 rfl, H160.out.cell 1 rfl 1 rfl⟩))
                clear hK K hHeld
                try simp only [Act.put, p1, p2, p3, p4, p5, p6]
                clear hD159
                generalize (k158.alloc (.cells #[.int .i64 l9, .int .i64 h9] 99)) = k161 at *
                have hHeld := hHeld2
                clear hHeld2
                refine wpAnyH_ready (rs := [8]) (by kernel_rfl) (by simp) (AllReadyH.cons (o := _) rfl (fun K hK => ?_) AllReadyH.nil)
                rw [if_pos (by rfl)]
                refine oper_append_vals _ _ 97 99 2 16 (.agg #[.int .i64 0, .int .i64 0]) Try.underlying97 info_span rfl (by decide) (by decide) rfl B _ _ _ D159 1 1 [.int .i64 l9, .int .i64 h9] rfl rfl rfl (H160.out.arrE 4 rfl) (lit_news H160.out 0 [.int .i64 l9, .int .i64 h9] rfl) (by intro u hu; simp at hu; rcases hu with rfl | rfl <;> rfl) (by omega) H160.out.size ?_
                intro v9a k163 ho hg hv
                have H162 := hid (H160.out.appendE 4 rfl ho hg hv)
                clear ho hg hv
                obtain ⟨g165, c166, hva⟩ := arr_pos (H162.out.arrE 4 rfl) (by omega)
                subst hva
                rw [show prV L ++ [.int .i64 l9, .int .i64 h9] = prV (L ++ [(l9, h9)]) from by rw [prV_app]; rfl] at H162
                refine hK.out _ _ ?_ (fun hHeld2 => ?_)
                focus ((try dsimp only); (exact ⟨H162.out.cell 1 rfl 0 rfl, H162.out.cell 1 rfl 1 rfl⟩))
                clear hK K
                try simp only [Act.put, p1, p2, p3, p4, p5, p6]
                clear hHeld
                have hHeld := hHeld2
                clear hHeld2
                refine tkA 9 ?_
                try simp only [Act.put, p1, p2, p3, p4, p5, p6]
                refine wpAnyH_done (by kernel_rfl) ?_ _
                try clear hHeld
                go_wp2_with fail
                go_roundw
                case rel => exact ⟨j + 1, (l9, h9) :: st.drop (pwK oc), (L ++ [(l9, h9)]), (some ⟨g165, 0, none⟩), (0 + 1), c166, by omega, by go_num, rfl, by rw [HLS.out, HK0.out]; simp, vGo_step HVR.out HKL.out (by simp only [List.length_cons, List.length_drop]; have := HKL.out; omega), iGo_step HG.out HD.out HPV.out HPK.out, by simp only [List.length_cons, List.length_drop]; have := HKL.out; omega, allAcc.step HA.out HPA.out _, H162.out.pick [4] rfl (by decide)⟩
                case measure => first | (simp [intOf]; omega) | (simp [intOf]; done)
              | false =>
                go_wp2_with fail
                go_ret3
                exact ⟨by rw [HEV.out, iGo_stop HG.out HD.out (HPP.out.2.trans HNb147.out)]; rfl, by first | exact H155.out.below | exact H155.out.below'⟩
            · obtain ⟨D167, hD167⟩ : ∃ D, k144.heap.size = D := ⟨_, rfl⟩
              have H168 := hid (H143.out.alloc #[.int .i64 0, .int .i64 0] 99 hD167)
              go_simp
              refine hK.out _ _ ?_ (fun hHeld2 => ?_)
              focus ((try dsimp only); (exact ⟨H168.out.cell 2 rfl 0 rfl, H168.out.cell 2 rfl 1 rfl, H168.out.cell 1 rfl 0 rfl, H168.out.cell 1 rfl 1 rfl, (by have := ((H168.out.oldPrs HS.out).get (i := j) hjn).1; rw [HOO.out] at this; exact this), (by have := ((H168.out.oldPrs HS.out).get (i := j) hjn).2; rw [HOO.out] at this; exact this)⟩))
              clear hK K hHeld
              try simp only [Act.put, p1, p2, p3, p4, p5, p6]
              clear hD167
              generalize (k144.alloc (.cells #[.int .i64 0, .int .i64 0] 99)) = k169 at *
              have hHeld := hHeld2
              clear hHeld2
              refine wpAnyH_ready (rs := [8]) (by kernel_rfl) (by simp) (AllReadyH.cons (o := _) rfl (fun K hK => ?_) AllReadyH.nil)
              go_simp
              go_at_call 73
              refine (rnext_any _ _ _ _ _ _ _ _ _ ⟨oc0, oc11⟩ (by decide) (by decide) (by decide) (by decide)).mono ?_
              rintro e w170 ⟨⟨l9, h9, rfl, hlh⟩, hb⟩
              have H171 := hid (H168.out.call hb)
              clear hb
              obtain ⟨b172, hb172⟩ : ∃ xx', pwIok oc og (0, 0) (0, 0) u v = xx' := ⟨_, rfl⟩
              rw [hb172] at hlh ⊢
              have HNb172 := hid hb172
              clear hb172
              have HLH := hid hlh
              clear hlh
              have HPP := hid (show pwInt oc og (st.getD (pwK oc - 1) (0, 0)) (st.getD 0 (0, 0)) u v = pwInt oc og (0, 0) (0, 0) u v ∧ pwIok oc og (st.getD (pwK oc - 1) (0, 0)) (st.getD 0 (0, 0)) u v = pwIok oc og (0, 0) (0, 0) u v from pwInt_k0 oc0 HK0.out _ _ _ _ _ _ _)
              refine hK.out _ _ ?_ (fun hHeld2 => ?_)
              focus ((try dsimp only); (exact ⟨H171.out.cell 2 rfl 0 rfl, H171.out.cell 2 rfl 1 rfl, H171.out.cell 1 rfl 0 rfl, H171.out.cell 1 rfl 1 rfl, (by have := ((H171.out.oldPrs HS.out).get (i := j) hjn).1; rw [HOO.out] at this; exact this), (by have := ((H171.out.oldPrs HS.out).get (i := j) hjn).2; rw [HOO.out] at this; exact this)⟩))
              clear hK K
              try simp only [Act.put, p1, p2, p3, p4, p5, p6]
              clear hHeld
              have hHeld := hHeld2
              clear hHeld2
              refine tkA 9 ?_
              try simp only [Act.put, p1, p2, p3, p4, p5, p6]
              refine tkA 10 ?_
              try simp only [Act.put, p1, p2, p3, p4, p5, p6]
              refine tkA 11 ?_
              try simp only [Act.put, p1, p2, p3, p4, p5, p6]
              refine wpAnyH_ready (rs := [13]) (by kernel_rfl) (by simp) (AllReadyH.cons (o := _) rfl (fun K hK => ?_) AllReadyH.nil)
              have z173 := H171.out.cell 0 rfl 0 rfl
              have z174 := H171.out.free 0 rfl 0
              have z175 := H171.out.cell 0 rfl 1 rfl
              have z176 := H171.out.free 0 rfl 1
              have H177 := hid (show St B W [.cells D167 #[.int .i64 l9, .int .i64 h9] 99, .cells (D140 + 1) #[.int .i64 0, .int .i64 0] 99, .cells D140 #[.int .i64 0, .int .i64 0] 99, .arr (99) 2 (.slice none 0 0) 0 (prV L)] [] ((w170.setCell ⟨D167, 0, none⟩ (.int .i64 l9)).setCell ⟨D167, 1, none⟩ (.int .i64 h9)) from ((H171.out.set 0 rfl 0 (.int .i64 l9)).set 0 rfl 1 (.int .i64 h9)))
              go_simp
              refine hK.out _ _ ?_ (fun hHeld2 => ?_)
              focus ((try dsimp only); (exact ⟨H177.out.cell 2 rfl 0 rfl, H177.out.cell 2 rfl 1 rfl, H177.out.cell 1 rfl 0 rfl, H177.out.cell 1 rfl 1 rfl, (by have := ((H177.out.oldPrs HS.out).get (i := j) hjn).1; rw [HOO.out] at this; exact this), (by have := ((H177.out.oldPrs HS.out).get (i := j) hjn).2; rw [HOO.out] at this; exact this)⟩))
              clear hK K hHeld
              try simp only [Act.put, p1, p2, p3, p4, p5, p6]
              clear z173 z174 z175 z176
              generalize ((w170.setCell ⟨D167, 0, none⟩ (.int .i64 l9)).setCell ⟨D167, 1, none⟩ (.int .i64 h9)) = k178 at *
              have hHeld := hHeld2
              clear hHeld2
              refine tkA 14 ?_
              try simp only [Act.put, p1, p2, p3, p4, p5, p6]
              refine wpAnyH_done (by kernel_rfl) ?_ _
              try clear hHeld
              cases b172 with
              | true =>
                go_upto_region 19 with fail
                have hlh := (show l9 = (pwInt oc og (0, 0) (0, 0) u v).1 ∧ h9 = (pwInt oc og (0, 0) (0, 0) u v).2 from by first | exact HLH.out rfl | exact HLH.out trivial | exact HLH.out)
                have HPK := hid (show pwIok oc og (st.getD (pwK oc - 1) (0, 0)) (st.getD 0 (0, 0)) u v = true from by rw [HPP.out.2]; exact HNb172.out)
                have HPV := hid (show pwInt oc og (st.getD (pwK oc - 1) (0, 0)) (st.getD 0 (0, 0)) u v = (l9, h9) from by rw [HPP.out.1, hlh.1, hlh.2])
                have HPA := hid (show accOk l9 = true ∧ accOk h9 = true from by have := pwIok_lo HPK.out; rw [HPV.out] at this; exact this)
                clear hlh
                have t5 : IntKind.i64.wrap (0 : Int) = 0 := rfl
                have t6 : IntKind.i64.wrap (((0 : Nat) : Int) - 0) = 0 := rfl
                go_upto_region 19 with fail
                have H179 := hid H177.out.drew
                refine wp_region_held_drew (S := (fun w' => w'.cell? ⟨D167, 0, none⟩ = some (.int .i64 l9) ∧ w'.cell? ⟨D167, 1, none⟩ = some (.int .i64 h9))) (by kernel_rfl) ⟨H179.out.cell 0 rfl 0 rfl, H179.out.cell 0 rfl 1 rfl⟩ (fun hHeld => ?_)
                generalize k178.drew = k180 at *
                refine tkA 0 ?_
                try simp only [Act.put, p1, p2, p3, p4, p5, p6]
                refine tkA 1 ?_
                try simp only [Act.put, p1, p2, p3, p4, p5, p6]
                refine tkA 2 ?_
                try simp only [Act.put, p1, p2, p3, p4, p5, p6]
                refine tkA 3 ?_
                try simp only [Act.put, p1, p2, p3, p4, p5, p6]
                refine tkA 4 ?_
                try simp only [Act.put, p1, p2, p3, p4, p5, p6]
                refine tkA 5 ?_
                try simp only [Act.put, p1, p2, p3, p4, p5, p6]
                refine tkA 6 ?_
                try simp only [Act.put, p1, p2, p3, p4, p5, p6]
                refine wpAnyH_ready (rs := [7]) (by kernel_rfl) (by simp) (AllReadyH.cons (o := _) rfl (fun K hK => ?_) AllReadyH.nil)
                obtain ⟨D181, hD181⟩ : ∃ D, k180.heap.size = D := ⟨_, rfl⟩
                have H182 := hid (H179.out.alloc #[.int .i64 l9, .int .i64 h9] 99 hD181)
                go_simp
                refine hK.out _ _ ?_ (fun hHeld2 => ?_)
                focus ((try dsimp only); (exact ⟨H182.out.cell 1 rfl 0 rfl, H182.out.cell 1 rfl 1 rfl⟩))
                clear hK K hHeld
                try simp only [Act.put, p1, p2, p3, p4, p5, p6]
                clear hD181
                generalize (k180.alloc (.cells #[.int .i64 l9, .int .i64 h9] 99)) = k183 at *
                have hHeld := hHeld2
                clear hHeld2
                refine wpAnyH_ready (rs := [8]) (by kernel_rfl) (by simp) (AllReadyH.cons (o := _) rfl (fun K hK => ?_) AllReadyH.nil)
                rw [if_pos (by rfl)]
                refine oper_append_vals _ _ 97 99 2 16 (.agg #[.int .i64 0, .int .i64 0]) Try.underlying97 info_span rfl (by decide) (by decide) rfl B _ _ _ D181 1 1 [.int .i64 l9, .int .i64 h9] rfl rfl rfl (H182.out.arrE 4 rfl) (lit_news H182.out 0 [.int .i64 l9, .int .i64 h9] rfl) (by intro u hu; simp at hu; rcases hu with rfl | rfl <;> rfl) (by omega) H182.out.size ?_
                intro v9a k185 ho hg hv
                have H184 := hid (H182.out.appendE 4 rfl ho hg hv)
                clear ho hg hv
                obtain ⟨g187, c188, hva⟩ := arr_pos (H184.out.arrE 4 rfl) (by omega)
                subst hva
                rw [show prV L ++ [.int .i64 l9, .int .i64 h9] = prV (L ++ [(l9, h9)]) from by rw [prV_app]; rfl] at H184
                refine hK.out _ _ ?_ (fun hHeld2 => ?_)
                focus ((try dsimp only); (exact ⟨H184.out.cell 1 rfl 0 rfl, H184.out.cell 1 rfl 1 rfl⟩))
                clear hK K
                try simp only [Act.put, p1, p2, p3, p4, p5, p6]
                clear hHeld
                have hHeld := hHeld2
                clear hHeld2
                refine tkA 9 ?_
                try simp only [Act.put, p1, p2, p3, p4, p5, p6]
                refine wpAnyH_done (by kernel_rfl) ?_ _
                try clear hHeld
                go_wp2_with fail
                go_roundw
                case rel => exact ⟨j + 1, (l9, h9) :: st.drop (pwK oc), (L ++ [(l9, h9)]), (some ⟨g187, 0, none⟩), (0 + 1), c188, by omega, by go_num, rfl, by rw [HLS.out, HK0.out]; simp, vGo_step HVR.out HKL.out (by simp only [List.length_cons, List.length_drop]; have := HKL.out; omega), iGo_step HG.out HD.out HPV.out HPK.out, by simp only [List.length_cons, List.length_drop]; have := HKL.out; omega, allAcc.step HA.out HPA.out _, H184.out.pick [4] rfl (by decide)⟩
                case measure => first | (simp [intOf]; omega) | (simp [intOf]; done)
              | false =>
                go_wp2_with fail
                go_ret3
                exact ⟨by rw [HEV.out, iGo_stop HG.out HD.out (HPP.out.2.trans HNb172.out)]; rfl, by first | exact H177.out.below | exact H177.out.below'⟩
          · skip
            subst hsa
            have hjn' : (j : Int) < n := by omega
            obtain ⟨pb, po, hpa⟩ := (H137.out.oldPrs HS.out).at (by omega)
            subst hpa
            obtain ⟨cz0, cz1⟩ := (H137.out.oldPrs HS.out).get (i := j) hjn
            obtain ⟨oc, og, hoo⟩ : ∃ x y, zs.getD j (0, 0) = (x, y) := ⟨_, _, rfl⟩
            have HD := hid (drop_one (by rw [← HL.out]; exact hjn) hoo)
            rw [hoo] at cz0 cz1
            dsimp only at cz0 cz1
            clear hoo
            obtain ⟨oc0, oc11, hoA, hoK, hoG, hoV⟩ : 0 ≤ oc ∧ oc ≤ 11 ∧ (oc = 1 → true = true) ∧ pwK oc ≤ st.length ∧ pwArg oc og = true ∧ vGo (zs.drop (j + 1)) true (st.length + 1 - pwK oc) = 0 := vGo_cons (by rw [← HD.out]; exact HVG.out)
            have HARG := hid hoG
            have HVR := hid hoV
            have HKL := hid hoK
            clear hoA hoK hoG hoV
            go_wp2_with fail
            refine (rtakes_any _ _).mono ?_
            rintro e w189 ⟨rfl, hsw⟩
            have hsw2 : u136 = w189 := by first | exact hsw | exact hsw.symm
            clear hsw
            subst hsw2
            obtain ⟨k190, hk190⟩ : ∃ xx', ((pwK oc : Nat) : Int) = xx' := ⟨_, rfl⟩
            rw [hk190]
            have HNk190 := hid hk190
            clear hk190
            rcases (show pwK oc = 0 ∨ pwK oc = 1 ∨ pwK oc = 2 by unfold pwK; split <;> (try split) <;> omega) with hk0 | hk0 | hk0
            · skip
              obtain rfl : k190 = 0 := by have := HNk190.out; omega
              clear HNk190
              have HK0 := hid hk0
              obtain ⟨T, hT⟩ : ∃ T : Nat, (ln : Int) - 0 = T := ⟨ln - 0, by have := HKL.out; omega⟩
              have HTK := hid (show T + pwK oc = st.length from by have := HKL.out; omega)
              obtain ⟨D191, hD191⟩ : ∃ D, u136.heap.size = D := ⟨_, rfl⟩
              go_upto_region 12 with fail
              have H192 := hid (show St B W [.cells (D191 + 1) #[.int .i64 0, .int .i64 0] 99, .cells D191 #[.int .i64 0, .int .i64 0] 99, .arr (99) 2 (.slice (some ⟨g, 0, none⟩) ln sc) ln (prV L)] [] ((u136.alloc (.cells #[.int .i64 0, .int .i64 0] 99)).alloc (.cells #[.int .i64 0, .int .i64 0] 99)) from ((H137.out.alloc #[.int .i64 0, .int .i64 0] 99 hD191).alloc #[.int .i64 0, .int .i64 0] 99 (by first | exact hD191 | simp [hD191])))
              first | refine gen_code H192.out ?_ | refine gen_list H192.out ?_ | refine gen_calls H192.out ?_
              intro w193 hG
              clear H192
              have H192 := hid hG
              clear hG
              clear hD191
              go_upto_region 16 with fail
              have HOO := hid (show zs.getD j (0, 0) = (oc, og) from by have := HD.out; rw [List.drop_eq_getElem_cons (by have := HL.out; omega)] at this; rw [List.getD_eq_getElem?_getD, List.getElem?_eq_getElem (by have := HL.out; omega), ← (List.cons.inj this).1]; rfl)
              have H194 := hid H192.out.drew
              refine wp_region_held_drew (S := (fun w' => w'.cell? ⟨D191, 0, none⟩ = some (.int .i64 0) ∧ w'.cell? ⟨D191, 1, none⟩ = some (.int .i64 0) ∧ w'.cell? ⟨D191 + 1, 0, none⟩ = some (.int .i64 0) ∧ w'.cell? ⟨D191 + 1, 1, none⟩ = some (.int .i64 0) ∧ w'.cell? ⟨pb, po + j * 2, none⟩ = some (.int .i64 oc) ∧ w'.cell? ⟨pb, po + j * 2 + 1, none⟩ = some (.int .i64 og))) (by kernel_rfl) ⟨H194.out.cell 1 rfl 0 rfl, H194.out.cell 1 rfl 1 rfl, H194.out.cell 0 rfl 0 rfl, H194.out.cell 0 rfl 1 rfl, (by have := ((H194.out.oldPrs HS.out).get (i := j) hjn).1; rw [HOO.out] at this; exact this), (by have := ((H194.out.oldPrs HS.out).get (i := j) hjn).2; rw [HOO.out] at this; exact this)⟩ (fun hHeld => ?_)
              generalize w193.drew = k195 at *
              refine tkA 0 ?_
              try simp only [Act.put, p1, p2, p3, p4, p5, p6]
              refine tkA 1 ?_
              try simp only [Act.put, p1, p2, p3, p4, p5, p6]
              refine tkA 2 ?_
              try simp only [Act.put, p1, p2, p3, p4, p5, p6]
              refine tkA 3 ?_
              try simp only [Act.put, p1, p2, p3, p4, p5, p6]
              refine tkA 4 ?_
              try simp only [Act.put, p1, p2, p3, p4, p5, p6]
              refine tkA 5 ?_
              try simp only [Act.put, p1, p2, p3, p4, p5, p6]
              refine tkA 6 ?_
              try simp only [Act.put, p1, p2, p3, p4, p5, p6]
              refine tkA 7 ?_
              try simp only [Act.put, p1, p2, p3, p4, p5, p6]
              refine wpAnyH_ready (rs := [8, 12]) (by kernel_rfl) (by simp) (AllReadyH.cons (o := _) rfl (fun K hK => ?_) (AllReadyH.cons (o := _) rfl (fun K hK => ?_) AllReadyH.nil))
              · go_simp
                go_at_call 73
                refine (rnext_any _ _ _ _ _ _ _ _ _ ⟨oc0, oc11⟩ (by decide) (by decide) (by decide) (by decide)).mono ?_
                rintro e w196 ⟨⟨l9, h9, rfl, hlh⟩, hb⟩
                have H197 := hid (H194.out.call hb)
                clear hb
                obtain ⟨b198, hb198⟩ : ∃ xx', pwIok oc og (0, 0) (0, 0) u v = xx' := ⟨_, rfl⟩
                rw [hb198] at hlh ⊢
                have HNb198 := hid hb198
                clear hb198
                have HLH := hid hlh
                clear hlh
                have HPP := hid (show pwInt oc og (st.getD (pwK oc - 1) (0, 0)) (st.getD 0 (0, 0)) u v = pwInt oc og (0, 0) (0, 0) u v ∧ pwIok oc og (st.getD (pwK oc - 1) (0, 0)) (st.getD 0 (0, 0)) u v = pwIok oc og (0, 0) (0, 0) u v from pwInt_k0 oc0 HK0.out _ _ _ _ _ _ _)
                refine hK.out _ _ ?_ (fun hHeld2 => ?_)
                focus ((try dsimp only); (exact ⟨H197.out.cell 1 rfl 0 rfl, H197.out.cell 1 rfl 1 rfl, H197.out.cell 0 rfl 0 rfl, H197.out.cell 0 rfl 1 rfl, (by have := ((H197.out.oldPrs HS.out).get (i := j) hjn).1; rw [HOO.out] at this; exact this), (by have := ((H197.out.oldPrs HS.out).get (i := j) hjn).2; rw [HOO.out] at this; exact this)⟩))
                clear hK K
                try simp only [Act.put, p1, p2, p3, p4, p5, p6]
                clear hHeld
                have hHeld := hHeld2
                clear hHeld2
                refine tkA 9 ?_
                try simp only [Act.put, p1, p2, p3, p4, p5, p6]
                refine tkA 10 ?_
                try simp only [Act.put, p1, p2, p3, p4, p5, p6]
                refine tkA 11 ?_
                try simp only [Act.put, p1, p2, p3, p4, p5, p6]
                refine wpAnyH_ready (rs := [12]) (by kernel_rfl) (by simp) (AllReadyH.cons (o := _) rfl (fun K hK => ?_) AllReadyH.nil)
                obtain ⟨D199, hD199⟩ : ∃ D, w196.heap.size = D := ⟨_, rfl⟩
                have H200 := hid (H197.out.alloc #[.int .i64 0, .int .i64 0] 99 hD199)
                go_simp
                refine hK.out _ _ ?_ (fun hHeld2 => ?_)
                focus ((try dsimp only); (exact ⟨H200.out.cell 2 rfl 0 rfl, H200.out.cell 2 rfl 1 rfl, H200.out.cell 1 rfl 0 rfl, H200.out.cell 1 rfl 1 rfl, (by have := ((H200.out.oldPrs HS.out).get (i := j) hjn).1; rw [HOO.out] at this; exact this), (by have := ((H200.out.oldPrs HS.out).get (i := j) hjn).2; rw [HOO.out] at this; exact this)⟩))
                clear hK K hHeld
                try simp only [Act.put, p1, p2, p3, p4, p5, p6]
                clear hD199
                generalize (w196.alloc (.cells #[.int .i64 0, .int .i64 0] 99)) = k201 at *
                have hHeld := hHeld2
                clear hHeld2
                refine wpAnyH_ready (rs := [13]) (by kernel_rfl) (by simp) (AllReadyH.cons (o := _) rfl (fun K hK => ?_) AllReadyH.nil)
                have z202 := H200.out.cell 0 rfl 0 rfl
                have z203 := H200.out.free 0 rfl 0
                have z204 := H200.out.cell 0 rfl 1 rfl
                have z205 := H200.out.free 0 rfl 1
                have H206 := hid (show St B W [.cells D199 #[.int .i64 l9, .int .i64 h9] 99, .cells (D191 + 1) #[.int .i64 0, .int .i64 0] 99, .cells D191 #[.int .i64 0, .int .i64 0] 99, .arr (99) 2 (.slice (some ⟨g, 0, none⟩) ln sc) ln (prV L)] [] ((k201.setCell ⟨D199, 0, none⟩ (.int .i64 l9)).setCell ⟨D199, 1, none⟩ (.int .i64 h9)) from ((H200.out.set 0 rfl 0 (.int .i64 l9)).set 0 rfl 1 (.int .i64 h9)))
                go_simp
                refine hK.out _ _ ?_ (fun hHeld2 => ?_)
                focus ((try dsimp only); (exact ⟨H206.out.cell 2 rfl 0 rfl, H206.out.cell 2 rfl 1 rfl, H206.out.cell 1 rfl 0 rfl, H206.out.cell 1 rfl 1 rfl, (by have := ((H206.out.oldPrs HS.out).get (i := j) hjn).1; rw [HOO.out] at this; exact this), (by have := ((H206.out.oldPrs HS.out).get (i := j) hjn).2; rw [HOO.out] at this; exact this)⟩))
                clear hK K hHeld
                try simp only [Act.put, p1, p2, p3, p4, p5, p6]
                clear z202 z203 z204 z205
                generalize ((k201.setCell ⟨D199, 0, none⟩ (.int .i64 l9)).setCell ⟨D199, 1, none⟩ (.int .i64 h9)) = k207 at *
                have hHeld := hHeld2
                clear hHeld2
                refine tkA 14 ?_
                try simp only [Act.put, p1, p2, p3, p4, p5, p6]
                refine wpAnyH_done (by kernel_rfl) ?_ _
                try clear hHeld
                cases b198 with
                | true =>
                  go_upto_region 19 with fail
                  have hlh := (show l9 = (pwInt oc og (0, 0) (0, 0) u v).1 ∧ h9 = (pwInt oc og (0, 0) (0, 0) u v).2 from by first | exact HLH.out rfl | exact HLH.out trivial | exact HLH.out)
                  have HPK := hid (show pwIok oc og (st.getD (pwK oc - 1) (0, 0)) (st.getD 0 (0, 0)) u v = true from by rw [HPP.out.2]; exact HNb198.out)
                  have HPV := hid (show pwInt oc og (st.getD (pwK oc - 1) (0, 0)) (st.getD 0 (0, 0)) u v = (l9, h9) from by rw [HPP.out.1, hlh.1, hlh.2])
                  have HPA := hid (show accOk l9 = true ∧ accOk h9 = true from by have := pwIok_lo HPK.out; rw [HPV.out] at this; exact this)
                  clear hlh
                  obtain ⟨t1, t2⟩ : (T : Int) ≤ ln ∧ (ln : Int) ≤ sc := by have := HTK.out; have := arr_cap (H206.out.arrE 3 rfl); omega
                  have t3 : (T : Int) ≤ sc := by omega
                  have t4 : 0 ≤ (T : Int) := by omega
                  have t5 : IntKind.i64.wrap (T : Int) = T := IntWalk.i64_in _ (by omega)
                  have H208 := hid (H206.out.take 3 rfl (k := T) (by omega))
                  rw [prV_take] at H208
                  go_upto_region 19 with fail
                  have H209 := hid H208.out.drew
                  refine wp_region_held_drew (S := (fun w' => w'.cell? ⟨D199, 0, none⟩ = some (.int .i64 l9) ∧ w'.cell? ⟨D199, 1, none⟩ = some (.int .i64 h9))) (by kernel_rfl) ⟨H209.out.cell 0 rfl 0 rfl, H209.out.cell 0 rfl 1 rfl⟩ (fun hHeld => ?_)
                  generalize k207.drew = k210 at *
                  refine tkA 0 ?_
                  try simp only [Act.put, p1, p2, p3, p4, p5, p6]
                  refine tkA 1 ?_
                  try simp only [Act.put, p1, p2, p3, p4, p5, p6]
                  refine tkA 2 ?_
                  try simp only [Act.put, p1, p2, p3, p4, p5, p6]
                  refine tkA 3 ?_
                  try simp only [Act.put, p1, p2, p3, p4, p5, p6]
                  refine tkA 4 ?_
                  try simp only [Act.put, p1, p2, p3, p4, p5, p6]
                  refine tkA 5 ?_
                  try simp only [Act.put, p1, p2, p3, p4, p5, p6]
                  refine tkA 6 ?_
                  try simp only [Act.put, p1, p2, p3, p4, p5, p6]
                  refine wpAnyH_ready (rs := [7]) (by kernel_rfl) (by simp) (AllReadyH.cons (o := _) rfl (fun K hK => ?_) AllReadyH.nil)
                  obtain ⟨D211, hD211⟩ : ∃ D, k210.heap.size = D := ⟨_, rfl⟩
                  have H212 := hid (H209.out.alloc #[.int .i64 l9, .int .i64 h9] 99 hD211)
                  go_simp
                  refine hK.out _ _ ?_ (fun hHeld2 => ?_)
                  focus ((try dsimp only); (exact ⟨H212.out.cell 1 rfl 0 rfl, H212.out.cell 1 rfl 1 rfl⟩))
                  clear hK K hHeld
                  try simp only [Act.put, p1, p2, p3, p4, p5, p6]
                  clear hD211
                  generalize (k210.alloc (.cells #[.int .i64 l9, .int .i64 h9] 99)) = k213 at *
                  have hHeld := hHeld2
                  clear hHeld2
                  refine wpAnyH_ready (rs := [8]) (by kernel_rfl) (by simp) (AllReadyH.cons (o := _) rfl (fun K hK => ?_) AllReadyH.nil)
                  rw [if_pos (by rfl)]
                  refine oper_append_vals _ _ 97 99 2 16 (.agg #[.int .i64 0, .int .i64 0]) Try.underlying97 info_span rfl (by decide) (by decide) rfl B _ _ _ D211 1 1 [.int .i64 l9, .int .i64 h9] rfl rfl rfl (H212.out.arrE 4 rfl) (lit_news H212.out 0 [.int .i64 l9, .int .i64 h9] rfl) (by intro u hu; simp at hu; rcases hu with rfl | rfl <;> rfl) (by omega) H212.out.size ?_
                  intro v9a k215 ho hg hv
                  have H214 := hid (H212.out.appendE 4 rfl ho hg hv)
                  clear ho hg hv
                  obtain ⟨g217, c218, hva⟩ := arr_pos (H214.out.arrE 4 rfl) (by omega)
                  subst hva
                  rw [show prV (L.take T) ++ [.int .i64 l9, .int .i64 h9] = prV ((L.take T) ++ [(l9, h9)]) from by rw [prV_app]; rfl] at H214
                  refine hK.out _ _ ?_ (fun hHeld2 => ?_)
                  focus ((try dsimp only); (exact ⟨H214.out.cell 1 rfl 0 rfl, H214.out.cell 1 rfl 1 rfl⟩))
                  clear hK K
                  try simp only [Act.put, p1, p2, p3, p4, p5, p6]
                  clear hHeld
                  have hHeld := hHeld2
                  clear hHeld2
                  refine tkA 9 ?_
                  try simp only [Act.put, p1, p2, p3, p4, p5, p6]
                  refine wpAnyH_done (by kernel_rfl) ?_ _
                  try clear hHeld
                  go_wp2_with fail
                  go_roundw
                  case rel => exact ⟨j + 1, (l9, h9) :: st.drop (pwK oc), ((L.take T) ++ [(l9, h9)]), (some ⟨g217, 0, none⟩), (T + 1), c218, by omega, by go_num, rfl, stk_take HLS.out HTK.out _, vGo_step HVR.out HKL.out (by simp only [List.length_cons, List.length_drop]; have := HKL.out; omega), iGo_step HG.out HD.out HPV.out HPK.out, by simp only [List.length_cons, List.length_drop]; have := HKL.out; omega, allAcc.step HA.out HPA.out _, H214.out.pick [4] rfl (by decide)⟩
                  case measure => first | (simp [intOf]; omega) | (simp [intOf]; done)
                | false =>
                  go_wp2_with fail
                  go_ret3
                  exact ⟨by rw [HEV.out, iGo_stop HG.out HD.out (HPP.out.2.trans HNb198.out)]; rfl, by first | exact H206.out.below | exact H206.out.below'⟩
              · obtain ⟨D219, hD219⟩ : ∃ D, k195.heap.size = D := ⟨_, rfl⟩
                have H220 := hid (H194.out.alloc #[.int .i64 0, .int .i64 0] 99 hD219)
                go_simp
                refine hK.out _ _ ?_ (fun hHeld2 => ?_)
                focus ((try dsimp only); (exact ⟨H220.out.cell 2 rfl 0 rfl, H220.out.cell 2 rfl 1 rfl, H220.out.cell 1 rfl 0 rfl, H220.out.cell 1 rfl 1 rfl, (by have := ((H220.out.oldPrs HS.out).get (i := j) hjn).1; rw [HOO.out] at this; exact this), (by have := ((H220.out.oldPrs HS.out).get (i := j) hjn).2; rw [HOO.out] at this; exact this)⟩))
                clear hK K hHeld
                try simp only [Act.put, p1, p2, p3, p4, p5, p6]
                clear hD219
                generalize (k195.alloc (.cells #[.int .i64 0, .int .i64 0] 99)) = k221 at *
                have hHeld := hHeld2
                clear hHeld2
                refine wpAnyH_ready (rs := [8]) (by kernel_rfl) (by simp) (AllReadyH.cons (o := _) rfl (fun K hK => ?_) AllReadyH.nil)
                go_simp
                go_at_call 73
                refine (rnext_any _ _ _ _ _ _ _ _ _ ⟨oc0, oc11⟩ (by decide) (by decide) (by decide) (by decide)).mono ?_
                rintro e w222 ⟨⟨l9, h9, rfl, hlh⟩, hb⟩
                have H223 := hid (H220.out.call hb)
                clear hb
                obtain ⟨b224, hb224⟩ : ∃ xx', pwIok oc og (0, 0) (0, 0) u v = xx' := ⟨_, rfl⟩
                rw [hb224] at hlh ⊢
                have HNb224 := hid hb224
                clear hb224
                have HLH := hid hlh
                clear hlh
                have HPP := hid (show pwInt oc og (st.getD (pwK oc - 1) (0, 0)) (st.getD 0 (0, 0)) u v = pwInt oc og (0, 0) (0, 0) u v ∧ pwIok oc og (st.getD (pwK oc - 1) (0, 0)) (st.getD 0 (0, 0)) u v = pwIok oc og (0, 0) (0, 0) u v from pwInt_k0 oc0 HK0.out _ _ _ _ _ _ _)
                refine hK.out _ _ ?_ (fun hHeld2 => ?_)
                focus ((try dsimp only); (exact ⟨H223.out.cell 2 rfl 0 rfl, H223.out.cell 2 rfl 1 rfl, H223.out.cell 1 rfl 0 rfl, H223.out.cell 1 rfl 1 rfl, (by have := ((H223.out.oldPrs HS.out).get (i := j) hjn).1; rw [HOO.out] at this; exact this), (by have := ((H223.out.oldPrs HS.out).get (i := j) hjn).2; rw [HOO.out] at this; exact this)⟩))
                clear hK K
                try simp only [Act.put, p1, p2, p3, p4, p5, p6]
                clear hHeld
                have hHeld := hHeld2
                clear hHeld2
                refine tkA 9 ?_
                try simp only [Act.put, p1, p2, p3, p4, p5, p6]
                refine tkA 10 ?_
                try simp only [Act.put, p1, p2, p3, p4, p5, p6]
                refine tkA 11 ?_
                try simp only [Act.put, p1, p2, p3, p4, p5, p6]
                refine wpAnyH_ready (rs := [13]) (by kernel_rfl) (by simp) (AllReadyH.cons (o := _) rfl (fun K hK => ?_) AllReadyH.nil)
                have z225 := H223.out.cell 0 rfl 0 rfl
                have z226 := H223.out.free 0 rfl 0
                have z227 := H223.out.cell 0 rfl 1 rfl
                have z228 := H223.out.free 0 rfl 1
                have H229 := hid (show St B W [.cells D219 #[.int .i64 l9, .int .i64 h9] 99, .cells (D191 + 1) #[.int .i64 0, .int .i64 0] 99, .cells D191 #[.int .i64 0, .int .i64 0] 99, .arr (99) 2 (.slice (some ⟨g, 0, none⟩) ln sc) ln (prV L)] [] ((w222.setCell ⟨D219, 0, none⟩ (.int .i64 l9)).setCell ⟨D219, 1, none⟩ (.int .i64 h9)) from ((H223.out.set 0 rfl 0 (.int .i64 l9)).set 0 rfl 1 (.int .i64 h9)))
                go_simp
                refine hK.out _ _ ?_ (fun hHeld2 => ?_)
                focus ((try dsimp only); (exact ⟨H229.out.cell 2 rfl 0 rfl, H229.out.cell 2 rfl 1 rfl, H229.out.cell 1 rfl 0 rfl, H229.out.cell 1 rfl 1 rfl, (by have := ((H229.out.oldPrs HS.out).get (i := j) hjn).1; rw [HOO.out] at this; exact this), (by have := ((H229.out.oldPrs HS.out).get (i := j) hjn).2; rw [HOO.out] at this; exact this)⟩))
                clear hK K hHeld
                try simp only [Act.put, p1, p2, p3, p4, p5, p6]
                clear z225 z226 z227 z228
                generalize ((w222.setCell ⟨D219, 0, none⟩ (.int .i64 l9)).setCell ⟨D219, 1, none⟩ (.int .i64 h9)) = k230 at *
                have hHeld := hHeld2
                clear hHeld2
                refine tkA 14 ?_
                try simp only [Act.put, p1, p2, p3, p4, p5, p6]
                refine wpAnyH_done (by kernel_rfl) ?_ _
                try clear hHeld
                cases b224 with
                | true =>
                  go_upto_region 19 with fail
                  have hlh := (show l9 = (pwInt oc og (0, 0) (0, 0) u v).1 ∧ h9 = (pwInt oc og (0, 0) (0, 0) u v).2 from by first | exact HLH.out rfl | exact HLH.out trivial | exact HLH.out)
                  have HPK := hid (show pwIok oc og (st.getD (pwK oc - 1) (0, 0)) (st.getD 0 (0, 0)) u v = true from by rw [HPP.out.2]; exact HNb224.out)
                  have HPV := hid (show pwInt oc og (st.getD (pwK oc - 1) (0, 0)) (st.getD 0 (0, 0)) u v = (l9, h9) from by rw [HPP.out.1, hlh.1, hlh.2])
                  have HPA := hid (show accOk l9 = true ∧ accOk h9 = true from by have := pwIok_lo HPK.out; rw [HPV.out] at this; exact this)
                  clear hlh
                  obtain ⟨t1, t2⟩ : (T : Int) ≤ ln ∧ (ln : Int) ≤ sc := by have := HTK.out; have := arr_cap (H229.out.arrE 3 rfl); omega
                  have t3 : (T : Int) ≤ sc := by omega
                  have t4 : 0 ≤ (T : Int) := by omega
                  have t5 : IntKind.i64.wrap (T : Int) = T := IntWalk.i64_in _ (by omega)
                  have H231 := hid (H229.out.take 3 rfl (k := T) (by omega))
                  rw [prV_take] at H231
                  go_upto_region 19 with fail
                  have H232 := hid H231.out.drew
                  refine wp_region_held_drew (S := (fun w' => w'.cell? ⟨D219, 0, none⟩ = some (.int .i64 l9) ∧ w'.cell? ⟨D219, 1, none⟩ = some (.int .i64 h9))) (by kernel_rfl) ⟨H232.out.cell 0 rfl 0 rfl, H232.out.cell 0 rfl 1 rfl⟩ (fun hHeld => ?_)
                  generalize k230.drew = k233 at *
                  refine tkA 0 ?_
                  try simp only [Act.put, p1, p2, p3, p4, p5, p6]
                  refine tkA 1 ?_
                  try simp only [Act.put, p1, p2, p3, p4, p5, p6]
                  refine tkA 2 ?_
                  try simp only [Act.put, p1, p2, p3, p4, p5, p6]
                  refine tkA 3 ?_
                  try simp only [Act.put, p1, p2, p3, p4, p5, p6]
                  refine tkA 4 ?_
                  try simp only [Act.put, p1, p2, p3, p4, p5, p6]
                  refine tkA 5 ?_
                  try simp only [Act.put, p1, p2, p3, p4, p5, p6]
                  refine tkA 6 ?_
                  try simp only [Act.put, p1, p2, p3, p4, p5, p6]
                  refine wpAnyH_ready (rs := [7]) (by kernel_rfl) (by simp) (AllReadyH.cons (o := _) rfl (fun K hK => ?_) AllReadyH.nil)
                  obtain ⟨D234, hD234⟩ : ∃ D, k233.heap.size = D := ⟨_, rfl⟩
                  have H235 := hid (H232.out.alloc #[.int .i64 l9, .int .i64 h9] 99 hD234)
                  go_simp
                  refine hK.out _ _ ?_ (fun hHeld2 => ?_)
                  focus ((try dsimp only); (exact ⟨H235.out.cell 1 rfl 0 rfl, H235.out.cell 1 rfl 1 rfl⟩))
                  clear hK K hHeld
                  try simp only [Act.put, p1, p2, p3, p4, p5, p6]
                  clear hD234
                  generalize (k233.alloc (.cells #[.int .i64 l9, .int .i64 h9] 99)) = k236 at *
                  have hHeld := hHeld2
                  clear hHeld2
                  refine wpAnyH_ready (rs := [8]) (by kernel_rfl) (by simp) (AllReadyH.cons (o := _) rfl (fun K hK => ?_) AllReadyH.nil)
                  rw [if_pos (by rfl)]
                  refine oper_append_vals _ _ 97 99 2 16 (.agg #[.int .i64 0, .int .i64 0]) Try.underlying97 info_span rfl (by decide) (by decide) rfl B _ _ _ D234 1 1 [.int .i64 l9, .int .i64 h9] rfl rfl rfl (H235.out.arrE 4 rfl) (lit_news H235.out 0 [.int .i64 l9, .int .i64 h9] rfl) (by intro u hu; simp at hu; rcases hu with rfl | rfl <;> rfl) (by omega) H235.out.size ?_
                  intro v9a k238 ho hg hv
                  have H237 := hid (H235.out.appendE 4 rfl ho hg hv)
                  clear ho hg hv
                  obtain ⟨g240, c241, hva⟩ := arr_pos (H237.out.arrE 4 rfl) (by omega)
                  subst hva
                  rw [show prV (L.take T) ++ [.int .i64 l9, .int .i64 h9] = prV ((L.take T) ++ [(l9, h9)]) from by rw [prV_app]; rfl] at H237
                  refine hK.out _ _ ?_ (fun hHeld2 => ?_)
                  focus ((try dsimp only); (exact ⟨H237.out.cell 1 rfl 0 rfl, H237.out.cell 1 rfl 1 rfl⟩))
                  clear hK K
                  try simp only [Act.put, p1, p2, p3, p4, p5, p6]
                  clear hHeld
                  have hHeld := hHeld2
                  clear hHeld2
                  refine tkA 9 ?_
                  try simp only [Act.put, p1, p2, p3, p4, p5, p6]
                  refine wpAnyH_done (by kernel_rfl) ?_ _
                  try clear hHeld
                  go_wp2_with fail
                  go_roundw
                  case rel => exact ⟨j + 1, (l9, h9) :: st.drop (pwK oc), ((L.take T) ++ [(l9, h9)]), (some ⟨g240, 0, none⟩), (T + 1), c241, by omega, by go_num, rfl, stk_take HLS.out HTK.out _, vGo_step HVR.out HKL.out (by simp only [List.length_cons, List.length_drop]; have := HKL.out; omega), iGo_step HG.out HD.out HPV.out HPK.out, by simp only [List.length_cons, List.length_drop]; have := HKL.out; omega, allAcc.step HA.out HPA.out _, H237.out.pick [4] rfl (by decide)⟩
                  case measure => first | (simp [intOf]; omega) | (simp [intOf]; done)
                | false =>
                  go_wp2_with fail
                  go_ret3
                  exact ⟨by rw [HEV.out, iGo_stop HG.out HD.out (HPP.out.2.trans HNb224.out)]; rfl, by first | exact H229.out.below | exact H229.out.below'⟩
            · skip
              obtain rfl : k190 = 1 := by have := HNk190.out; omega
              clear HNk190
              have HK0 := hid hk0
              obtain ⟨T, hT⟩ : ∃ T : Nat, (ln : Int) - 1 = T := ⟨ln - 1, by have := HKL.out; omega⟩
              have HTK := hid (show T + pwK oc = st.length from by have := HKL.out; omega)
              obtain ⟨x0, x1, hx⟩ : ∃ x0 x1, L.getD T (0, 0) = (x0, x1) := ⟨_, _, rfl⟩
              have HXS := hid (show st.getD (pwK oc - 1) (0, 0) = (x0, x1) from by rw [← hx]; exact (stk_get (0, 0) HLS.out (by omega) HTK.out).symm)
              have HXA := hid (show accOk x0 = true ∧ accOk x1 = true from by have := HA.out (pwK oc - 1); rw [HXS.out] at this; exact this)
              have HX := hid hx
              clear hx
              obtain ⟨D242, hD242⟩ : ∃ D, u136.heap.size = D := ⟨_, rfl⟩
              go_upto_region 12 with fail
              have H243 := hid (show St B W [.cells (D242 + 1) #[.int .i64 0, .int .i64 0] 99, .cells D242 #[.int .i64 0, .int .i64 0] 99, .arr (99) 2 (.slice (some ⟨g, 0, none⟩) ln sc) ln (prV L)] [] ((u136.alloc (.cells #[.int .i64 0, .int .i64 0] 99)).alloc (.cells #[.int .i64 0, .int .i64 0] 99)) from ((H137.out.alloc #[.int .i64 0, .int .i64 0] 99 hD242).alloc #[.int .i64 0, .int .i64 0] 99 (by first | exact hD242 | simp [hD242])))
              first | refine gen_code H243.out ?_ | refine gen_list H243.out ?_ | refine gen_calls H243.out ?_
              intro w244 hG
              clear H243
              have H243 := hid hG
              clear hG
              clear hD242
              go_upto_region 15 with fail
              obtain ⟨zx0, zx1⟩ := arr_pair (H243.out.arrE 2 rfl) (i := T) (by have := HTK.out; omega)
              rw [HX.out] at zx0 zx1
              dsimp only at zx0 zx1
              have z245 := H243.out.cell 1 rfl 0 rfl
              have z246 := H243.out.free 1 rfl 0
              have z247 := H243.out.cell 1 rfl 1 rfl
              have z248 := H243.out.free 1 rfl 1
              go_upto_region 16 with fail
              clear z245 z246 z247 z248
              have H249 := hid (show St B W [.cells (D242 + 1) #[.int .i64 0, .int .i64 0] 99, .cells D242 #[.int .i64 x0, .int .i64 x1] 99, .arr (99) 2 (.slice (some ⟨g, 0, none⟩) ln sc) ln (prV L)] [] ((w244.setCell ⟨D242, 0, none⟩ (.int .i64 x0)).setCell ⟨D242, 1, none⟩ (.int .i64 x1)) from ((H243.out.set 1 rfl 0 (.int .i64 x0)).set 1 rfl 1 (.int .i64 x1)))
              first | refine gen_code H249.out ?_ | refine gen_list H249.out ?_ | refine gen_calls H249.out ?_
              intro w250 hG
              clear H249
              have H249 := hid hG
              clear hG
              have HOO := hid (show zs.getD j (0, 0) = (oc, og) from by have := HD.out; rw [List.drop_eq_getElem_cons (by have := HL.out; omega)] at this; rw [List.getD_eq_getElem?_getD, List.getElem?_eq_getElem (by have := HL.out; omega), ← (List.cons.inj this).1]; rfl)
              have H251 := hid H249.out.drew
              refine wp_region_held_drew (S := (fun w' => w'.cell? ⟨D242, 0, none⟩ = some (.int .i64 x0) ∧ w'.cell? ⟨D242, 1, none⟩ = some (.int .i64 x1) ∧ w'.cell? ⟨D242 + 1, 0, none⟩ = some (.int .i64 0) ∧ w'.cell? ⟨D242 + 1, 1, none⟩ = some (.int .i64 0) ∧ w'.cell? ⟨pb, po + j * 2, none⟩ = some (.int .i64 oc) ∧ w'.cell? ⟨pb, po + j * 2 + 1, none⟩ = some (.int .i64 og))) (by kernel_rfl) ⟨H251.out.cell 1 rfl 0 rfl, H251.out.cell 1 rfl 1 rfl, H251.out.cell 0 rfl 0 rfl, H251.out.cell 0 rfl 1 rfl, (by have := ((H251.out.oldPrs HS.out).get (i := j) hjn).1; rw [HOO.out] at this; exact this), (by have := ((H251.out.oldPrs HS.out).get (i := j) hjn).2; rw [HOO.out] at this; exact this)⟩ (fun hHeld => ?_)
              generalize w250.drew = k252 at *
              refine tkA 0 ?_
              try simp only [Act.put, p1, p2, p3, p4, p5, p6]
              refine tkA 1 ?_
              try simp only [Act.put, p1, p2, p3, p4, p5, p6]
              refine tkA 2 ?_
              try simp only [Act.put, p1, p2, p3, p4, p5, p6]
              refine tkA 3 ?_
              try simp only [Act.put, p1, p2, p3, p4, p5, p6]
              refine tkA 4 ?_
              try simp only [Act.put, p1, p2, p3, p4, p5, p6]
              refine tkA 5 ?_
              try simp only [Act.put, p1, p2, p3, p4, p5, p6]
              refine tkA 6 ?_
              try simp only [Act.put, p1, p2, p3, p4, p5, p6]
              refine tkA 7 ?_
              try simp only [Act.put, p1, p2, p3, p4, p5, p6]
              refine wpAnyH_ready (rs := [8, 12]) (by kernel_rfl) (by simp) (AllReadyH.cons (o := _) rfl (fun K hK => ?_) (AllReadyH.cons (o := _) rfl (fun K hK => ?_) AllReadyH.nil))
              · go_simp
                go_at_call 73
                refine (rnext_any _ _ _ _ _ _ _ _ _ ⟨oc0, oc11⟩ HXA.out.1 HXA.out.2 (by decide) (by decide)).mono ?_
                rintro e w253 ⟨⟨l9, h9, rfl, hlh⟩, hb⟩
                have H254 := hid (H251.out.call hb)
                clear hb
                obtain ⟨b255, hb255⟩ : ∃ xx', pwIok oc og (x0, x1) (0, 0) u v = xx' := ⟨_, rfl⟩
                rw [hb255] at hlh ⊢
                have HNb255 := hid hb255
                clear hb255
                have HLH := hid hlh
                clear hlh
                have HPP := hid (show pwInt oc og (st.getD (pwK oc - 1) (0, 0)) (st.getD 0 (0, 0)) u v = pwInt oc og (x0, x1) (0, 0) u v ∧ pwIok oc og (st.getD (pwK oc - 1) (0, 0)) (st.getD 0 (0, 0)) u v = pwIok oc og (x0, x1) (0, 0) u v from by rw [HXS.out]; exact pwInt_k1 oc11 HK0.out _ _ _ _ _ _)
                refine hK.out _ _ ?_ (fun hHeld2 => ?_)
                focus ((try dsimp only); (exact ⟨H254.out.cell 1 rfl 0 rfl, H254.out.cell 1 rfl 1 rfl, H254.out.cell 0 rfl 0 rfl, H254.out.cell 0 rfl 1 rfl, (by have := ((H254.out.oldPrs HS.out).get (i := j) hjn).1; rw [HOO.out] at this; exact this), (by have := ((H254.out.oldPrs HS.out).get (i := j) hjn).2; rw [HOO.out] at this; exact this)⟩))
                clear hK K
                try simp only [Act.put, p1, p2, p3, p4, p5, p6]
                clear hHeld
                have hHeld := hHeld2
                clear hHeld2
                refine tkA 9 ?_
                try simp only [Act.put, p1, p2, p3, p4, p5, p6]
                refine tkA 10 ?_
                try simp only [Act.put, p1, p2, p3, p4, p5, p6]
                refine tkA 11 ?_
                try simp only [Act.put, p1, p2, p3, p4, p5, p6]
                refine wpAnyH_ready (rs := [12]) (by kernel_rfl) (by simp) (AllReadyH.cons (o := _) rfl (fun K hK => ?_) AllReadyH.nil)
                obtain ⟨D256, hD256⟩ : ∃ D, w253.heap.size = D := ⟨_, rfl⟩
                have H257 := hid (H254.out.alloc #[.int .i64 0, .int .i64 0] 99 hD256)
                go_simp
                refine hK.out _ _ ?_ (fun hHeld2 => ?_)
                focus ((try dsimp only); (exact ⟨H257.out.cell 2 rfl 0 rfl, H257.out.cell 2 rfl 1 rfl, H257.out.cell 1 rfl 0 rfl, H257.out.cell 1 rfl 1 rfl, (by have := ((H257.out.oldPrs HS.out).get (i := j) hjn).1; rw [HOO.out] at this; exact this), (by have := ((H257.out.oldPrs HS.out).get (i := j) hjn).2; rw [HOO.out] at this; exact this)⟩))
                clear hK K hHeld
                try simp only [Act.put, p1, p2, p3, p4, p5, p6]
                clear hD256
                generalize (w253.alloc (.cells #[.int .i64 0, .int .i64 0] 99)) = k258 at *
                have hHeld := hHeld2
                clear hHeld2
                refine wpAnyH_ready (rs := [13]) (by kernel_rfl) (by simp) (AllReadyH.cons (o := _) rfl (fun K hK => ?_) AllReadyH.nil)
                have z259 := H257.out.cell 0 rfl 0 rfl
                have z260 := H257.out.free 0 rfl 0
                have z261 := H257.out.cell 0 rfl 1 rfl
                have z262 := H257.out.free 0 rfl 1
                have H263 := hid (show St B W [.cells D256 #[.int .i64 l9, .int .i64 h9] 99, .cells (D242 + 1) #[.int .i64 0, .int .i64 0] 99, .cells D242 #[.int .i64 x0, .int .i64 x1] 99, .arr (99) 2 (.slice (some ⟨g, 0, none⟩) ln sc) ln (prV L)] [] ((k258.setCell ⟨D256, 0, none⟩ (.int .i64 l9)).setCell ⟨D256, 1, none⟩ (.int .i64 h9)) from ((H257.out.set 0 rfl 0 (.int .i64 l9)).set 0 rfl 1 (.int .i64 h9)))
                go_simp
                refine hK.out _ _ ?_ (fun hHeld2 => ?_)
                focus ((try dsimp only); (exact ⟨H263.out.cell 2 rfl 0 rfl, H263.out.cell 2 rfl 1 rfl, H263.out.cell 1 rfl 0 rfl, H263.out.cell 1 rfl 1 rfl, (by have := ((H263.out.oldPrs HS.out).get (i := j) hjn).1; rw [HOO.out] at this; exact this), (by have := ((H263.out.oldPrs HS.out).get (i := j) hjn).2; rw [HOO.out] at this; exact this)⟩))
                clear hK K hHeld
                try simp only [Act.put, p1, p2, p3, p4, p5, p6]
                clear z259 z260 z261 z262
                generalize ((k258.setCell ⟨D256, 0, none⟩ (.int .i64 l9)).setCell ⟨D256, 1, none⟩ (.int .i64 h9)) = k264 at *
                have hHeld := hHeld2
                clear hHeld2
                refine tkA 14 ?_
                try simp only [Act.put, p1, p2, p3, p4, p5, p6]
                refine wpAnyH_done (by kernel_rfl) ?_ _
                try clear hHeld
                cases b255 with
                | true =>
                  go_upto_region 19 with fail
                  have hlh := (show l9 = (pwInt oc og (x0, x1) (0, 0) u v).1 ∧ h9 = (pwInt oc og (x0, x1) (0, 0) u v).2 from by first | exact HLH.out rfl | exact HLH.out trivial | exact HLH.out)
                  have HPK := hid (show pwIok oc og (st.getD (pwK oc - 1) (0, 0)) (st.getD 0 (0, 0)) u v = true from by rw [HPP.out.2]; exact HNb255.out)
                  have HPV := hid (show pwInt oc og (st.getD (pwK oc - 1) (0, 0)) (st.getD 0 (0, 0)) u v = (l9, h9) from by rw [HPP.out.1, hlh.1, hlh.2])
                  have HPA := hid (show accOk l9 = true ∧ accOk h9 = true from by have := pwIok_lo HPK.out; rw [HPV.out] at this; exact this)
                  clear hlh
                  obtain ⟨t1, t2⟩ : (T : Int) ≤ ln ∧ (ln : Int) ≤ sc := by have := HTK.out; have := arr_cap (H263.out.arrE 3 rfl); omega
                  have t3 : (T : Int) ≤ sc := by omega
                  have t4 : 0 ≤ (T : Int) := by omega
                  have t5 : IntKind.i64.wrap (T : Int) = T := IntWalk.i64_in _ (by omega)
                  have H265 := hid (H263.out.take 3 rfl (k := T) (by omega))
                  rw [prV_take] at H265
                  go_upto_region 19 with fail
                  have H266 := hid H265.out.drew
                  refine wp_region_held_drew (S := (fun w' => w'.cell? ⟨D256, 0, none⟩ = some (.int .i64 l9) ∧ w'.cell? ⟨D256, 1, none⟩ = some (.int .i64 h9))) (by kernel_rfl) ⟨H266.out.cell 0 rfl 0 rfl, H266.out.cell 0 rfl 1 rfl⟩ (fun hHeld => ?_)
                  generalize k264.drew = k267 at *
                  refine tkA 0 ?_
                  try simp only [Act.put, p1, p2, p3, p4, p5, p6]
                  refine tkA 1 ?_
                  try simp only [Act.put, p1, p2, p3, p4, p5, p6]
                  refine tkA 2 ?_
                  try simp only [Act.put, p1, p2, p3, p4, p5, p6]
                  refine tkA 3 ?_
                  try simp only [Act.put, p1, p2, p3, p4, p5, p6]
                  refine tkA 4 ?_
                  try simp only [Act.put, p1, p2, p3, p4, p5, p6]
                  refine tkA 5 ?_
                  try simp only [Act.put, p1, p2, p3, p4, p5, p6]
                  refine tkA 6 ?_
                  try simp only [Act.put, p1, p2, p3, p4, p5, p6]
                  refine wpAnyH_ready (rs := [7]) (by kernel_rfl) (by simp) (AllReadyH.cons (o := _) rfl (fun K hK => ?_) AllReadyH.nil)
                  obtain ⟨D268, hD268⟩ : ∃ D, k267.heap.size = D := ⟨_, rfl⟩
                  have H269 := hid (H266.out.alloc #[.int .i64 l9, .int .i64 h9] 99 hD268)
                  go_simp
                  refine hK.out _ _ ?_ (fun hHeld2 => ?_)
                  focus ((try dsimp only); (exact ⟨H269.out.cell 1 rfl 0 rfl, H269.out.cell 1 rfl 1 rfl⟩))
                  clear hK K hHeld
                  try simp only [Act.put, p1, p2, p3, p4, p5, p6]
                  clear hD268
                  generalize (k267.alloc (.cells #[.int .i64 l9, .int .i64 h9] 99)) = k270 at *
                  have hHeld := hHeld2
                  clear hHeld2
                  refine wpAnyH_ready (rs := [8]) (by kernel_rfl) (by simp) (AllReadyH.cons (o := _) rfl (fun K hK => ?_) AllReadyH.nil)
                  rw [if_pos (by rfl)]
                  refine oper_append_vals _ _ 97 99 2 16 (.agg #[.int .i64 0, .int .i64 0]) Try.underlying97 info_span rfl (by decide) (by decide) rfl B _ _ _ D268 1 1 [.int .i64 l9, .int .i64 h9] rfl rfl rfl (H269.out.arrE 4 rfl) (lit_news H269.out 0 [.int .i64 l9, .int .i64 h9] rfl) (by intro u hu; simp at hu; rcases hu with rfl | rfl <;> rfl) (by omega) H269.out.size ?_
                  intro v9a k272 ho hg hv
                  have H271 := hid (H269.out.appendE 4 rfl ho hg hv)
                  clear ho hg hv
                  obtain ⟨g274, c275, hva⟩ := arr_pos (H271.out.arrE 4 rfl) (by omega)
                  subst hva
                  rw [show prV (L.take T) ++ [.int .i64 l9, .int .i64 h9] = prV ((L.take T) ++ [(l9, h9)]) from by rw [prV_app]; rfl] at H271
                  refine hK.out _ _ ?_ (fun hHeld2 => ?_)
                  focus ((try dsimp only); (exact ⟨H271.out.cell 1 rfl 0 rfl, H271.out.cell 1 rfl 1 rfl⟩))
                  clear hK K
                  try simp only [Act.put, p1, p2, p3, p4, p5, p6]
                  clear hHeld
                  have hHeld := hHeld2
                  clear hHeld2
                  refine tkA 9 ?_
                  try simp only [Act.put, p1, p2, p3, p4, p5, p6]
                  refine wpAnyH_done (by kernel_rfl) ?_ _
                  try clear hHeld
                  go_wp2_with fail
                  go_roundw
                  case rel => exact ⟨j + 1, (l9, h9) :: st.drop (pwK oc), ((L.take T) ++ [(l9, h9)]), (some ⟨g274, 0, none⟩), (T + 1), c275, by omega, by go_num, rfl, stk_take HLS.out HTK.out _, vGo_step HVR.out HKL.out (by simp only [List.length_cons, List.length_drop]; have := HKL.out; omega), iGo_step HG.out HD.out HPV.out HPK.out, by simp only [List.length_cons, List.length_drop]; have := HKL.out; omega, allAcc.step HA.out HPA.out _, H271.out.pick [4] rfl (by decide)⟩
                  case measure => first | (simp [intOf]; omega) | (simp [intOf]; done)
                | false =>
                  go_wp2_with fail
                  go_ret3
                  exact ⟨by rw [HEV.out, iGo_stop HG.out HD.out (HPP.out.2.trans HNb255.out)]; rfl, by first | exact H263.out.below | exact H263.out.below'⟩
              · obtain ⟨D276, hD276⟩ : ∃ D, k252.heap.size = D := ⟨_, rfl⟩
                have H277 := hid (H251.out.alloc #[.int .i64 0, .int .i64 0] 99 hD276)
                go_simp
                refine hK.out _ _ ?_ (fun hHeld2 => ?_)
                focus ((try dsimp only); (exact ⟨H277.out.cell 2 rfl 0 rfl, H277.out.cell 2 rfl 1 rfl, H277.out.cell 1 rfl 0 rfl, H277.out.cell 1 rfl 1 rfl, (by have := ((H277.out.oldPrs HS.out).get (i := j) hjn).1; rw [HOO.out] at this; exact this), (by have := ((H277.out.oldPrs HS.out).get (i := j) hjn).2; rw [HOO.out] at this; exact this)⟩))
                clear hK K hHeld
                try simp only [Act.put, p1, p2, p3, p4, p5, p6]
                clear hD276
                generalize (k252.alloc (.cells #[.int .i64 0, .int .i64 0] 99)) = k278 at *
                have hHeld := hHeld2
                clear hHeld2
                refine wpAnyH_ready (rs := [8]) (by kernel_rfl) (by simp) (AllReadyH.cons (o := _) rfl (fun K hK => ?_) AllReadyH.nil)
                go_simp
                go_at_call 73
                refine (rnext_any _ _ _ _ _ _ _ _ _ ⟨oc0, oc11⟩ HXA.out.1 HXA.out.2 (by decide) (by decide)).mono ?_
                rintro e w279 ⟨⟨l9, h9, rfl, hlh⟩, hb⟩
                have H280 := hid (H277.out.call hb)
                clear hb
                obtain ⟨b281, hb281⟩ : ∃ xx', pwIok oc og (x0, x1) (0, 0) u v = xx' := ⟨_, rfl⟩
                rw [hb281] at hlh ⊢
                have HNb281 := hid hb281
                clear hb281
                have HLH := hid hlh
                clear hlh
                have HPP := hid (show pwInt oc og (st.getD (pwK oc - 1) (0, 0)) (st.getD 0 (0, 0)) u v = pwInt oc og (x0, x1) (0, 0) u v ∧ pwIok oc og (st.getD (pwK oc - 1) (0, 0)) (st.getD 0 (0, 0)) u v = pwIok oc og (x0, x1) (0, 0) u v from by rw [HXS.out]; exact pwInt_k1 oc11 HK0.out _ _ _ _ _ _)
                refine hK.out _ _ ?_ (fun hHeld2 => ?_)
                focus ((try dsimp only); (exact ⟨H280.out.cell 2 rfl 0 rfl, H280.out.cell 2 rfl 1 rfl, H280.out.cell 1 rfl 0 rfl, H280.out.cell 1 rfl 1 rfl, (by have := ((H280.out.oldPrs HS.out).get (i := j) hjn).1; rw [HOO.out] at this; exact this), (by have := ((H280.out.oldPrs HS.out).get (i := j) hjn).2; rw [HOO.out] at this; exact this)⟩))
                clear hK K
                try simp only [Act.put, p1, p2, p3, p4, p5, p6]
                clear hHeld
                have hHeld := hHeld2
                clear hHeld2
                refine tkA 9 ?_
                try simp only [Act.put, p1, p2, p3, p4, p5, p6]
                refine tkA 10 ?_
                try simp only [Act.put, p1, p2, p3, p4, p5, p6]
                refine tkA 11 ?_
                try simp only [Act.put, p1, p2, p3, p4, p5, p6]
                refine wpAnyH_ready (rs := [13]) (by kernel_rfl) (by simp) (AllReadyH.cons (o := _) rfl (fun K hK => ?_) AllReadyH.nil)
                have z282 := H280.out.cell 0 rfl 0 rfl
                have z283 := H280.out.free 0 rfl 0
                have z284 := H280.out.cell 0 rfl 1 rfl
                have z285 := H280.out.free 0 rfl 1
                have H286 := hid (show St B W [.cells D276 #[.int .i64 l9, .int .i64 h9] 99, .cells (D242 + 1) #[.int .i64 0, .int .i64 0] 99, .cells D242 #[.int .i64 x0, .int .i64 x1] 99, .arr (99) 2 (.slice (some ⟨g, 0, none⟩) ln sc) ln (prV L)] [] ((w279.setCell ⟨D276, 0, none⟩ (.int .i64 l9)).setCell ⟨D276, 1, none⟩ (.int .i64 h9)) from ((H280.out.set 0 rfl 0 (.int .i64 l9)).set 0 rfl 1 (.int .i64 h9)))
                go_simp
                refine hK.out _ _ ?_ (fun hHeld2 => ?_)
                focus ((try dsimp only); (exact ⟨H286.out.cell 2 rfl 0 rfl, H286.out.cell 2 rfl 1 rfl, H286.out.cell 1 rfl 0 rfl, H286.out.cell 1 rfl 1 rfl, (by have := ((H286.out.oldPrs HS.out).get (i := j) hjn).1; rw [HOO.out] at this; exact this), (by have := ((H286.out.oldPrs HS.out).get (i := j) hjn).2; rw [HOO.out] at this; exact this)⟩))
                clear hK K hHeld
                try simp only [Act.put, p1, p2, p3, p4, p5, p6]
                clear z282 z283 z284 z285
                generalize ((w279.setCell ⟨D276, 0, none⟩ (.int .i64 l9)).setCell ⟨D276, 1, none⟩ (.int .i64 h9)) = k287 at *
                have hHeld := hHeld2
                clear hHeld2
                refine tkA 14 ?_
                try simp only [Act.put, p1, p2, p3, p4, p5, p6]
                refine wpAnyH_done (by kernel_rfl) ?_ _
                try clear hHeld
                cases b281 with
                | true =>
                  go_upto_region 19 with fail
                  have hlh := (show l9 = (pwInt oc og (x0, x1) (0, 0) u v).1 ∧ h9 = (pwInt oc og (x0, x1) (0, 0) u v).2 from by first | exact HLH.out rfl | exact HLH.out trivial | exact HLH.out)
                  have HPK := hid (show pwIok oc og (st.getD (pwK oc - 1) (0, 0)) (st.getD 0 (0, 0)) u v = true from by rw [HPP.out.2]; exact HNb281.out)
                  have HPV := hid (show pwInt oc og (st.getD (pwK oc - 1) (0, 0)) (st.getD 0 (0, 0)) u v = (l9, h9) from by rw [HPP.out.1, hlh.1, hlh.2])
                  have HPA := hid (show accOk l9 = true ∧ accOk h9 = true from by have := pwIok_lo HPK.out; rw [HPV.out] at this; exact this)
                  clear hlh
                  obtain ⟨t1, t2⟩ : (T : Int) ≤ ln ∧ (ln : Int) ≤ sc := by have := HTK.out; have := arr_cap (H286.out.arrE 3 rfl); omega
                  have t3 : (T : Int) ≤ sc := by omega
                  have t4 : 0 ≤ (T : Int) := by omega
                  have t5 : IntKind.i64.wrap (T : Int) = T := IntWalk.i64_in _ (by omega)
                  have H288 := hid (H286.out.take 3 rfl (k := T) (by omega))
                  rw [prV_take] at H288
                  go_upto_region 19 with fail
                  have H289 := hid H288.out.drew
                  refine wp_region_held_drew (S := (fun w' => w'.cell? ⟨D276, 0, none⟩ = some (.int .i64 l9) ∧ w'.cell? ⟨D276, 1, none⟩ = some (.int .i64 h9))) (by kernel_rfl) ⟨H289.out.cell 0 rfl 0 rfl, H289.out.cell 0 rfl 1 rfl⟩ (fun hHeld => ?_)
                  generalize k287.drew = k290 at *
                  refine tkA 0 ?_
                  try simp only [Act.put, p1, p2, p3, p4, p5, p6]
                  refine tkA 1 ?_
                  try simp only [Act.put, p1, p2, p3, p4, p5, p6]
                  refine tkA 2 ?_
                  try simp only [Act.put, p1, p2, p3, p4, p5, p6]
                  refine tkA 3 ?_
                  try simp only [Act.put, p1, p2, p3, p4, p5, p6]
                  refine tkA 4 ?_
                  try simp only [Act.put, p1, p2, p3, p4, p5, p6]
                  refine tkA 5 ?_
                  try simp only [Act.put, p1, p2, p3, p4, p5, p6]
                  refine tkA 6 ?_
                  try simp only [Act.put, p1, p2, p3, p4, p5, p6]
                  refine wpAnyH_ready (rs := [7]) (by kernel_rfl) (by simp) (AllReadyH.cons (o := _) rfl (fun K hK => ?_) AllReadyH.nil)
                  obtain ⟨D291, hD291⟩ : ∃ D, k290.heap.size = D := ⟨_, rfl⟩
                  have H292 := hid (H289.out.alloc #[.int .i64 l9, .int .i64 h9] 99 hD291)
                  go_simp
                  refine hK.out _ _ ?_ (fun hHeld2 => ?_)
                  focus ((try dsimp only); (exact ⟨H292.out.cell 1 rfl 0 rfl, H292.out.cell 1 rfl 1 rfl⟩))
                  clear hK K hHeld
                  try simp only [Act.put, p1, p2, p3, p4, p5, p6]
                  clear hD291
                  generalize (k290.alloc (.cells #[.int .i64 l9, .int .i64 h9] 99)) = k293 at *
                  have hHeld := hHeld2
                  clear hHeld2
                  refine wpAnyH_ready (rs := [8]) (by kernel_rfl) (by simp) (AllReadyH.cons (o := _) rfl (fun K hK => ?_) AllReadyH.nil)
                  rw [if_pos (by rfl)]
                  refine oper_append_vals _ _ 97 99 2 16 (.agg #[.int .i64 0, .int .i64 0]) Try.underlying97 info_span rfl (by decide) (by decide) rfl B _ _ _ D291 1 1 [.int .i64 l9, .int .i64 h9] rfl rfl rfl (H292.out.arrE 4 rfl) (lit_news H292.out 0 [.int .i64 l9, .int .i64 h9] rfl) (by intro u hu; simp at hu; rcases hu with rfl | rfl <;> rfl) (by omega) H292.out.size ?_
                  intro v9a k295 ho hg hv
                  have H294 := hid (H292.out.appendE 4 rfl ho hg hv)
                  clear ho hg hv
                  obtain ⟨g297, c298, hva⟩ := arr_pos (H294.out.arrE 4 rfl) (by omega)
                  subst hva
                  rw [show prV (L.take T) ++ [.int .i64 l9, .int .i64 h9] = prV ((L.take T) ++ [(l9, h9)]) from by rw [prV_app]; rfl] at H294
                  refine hK.out _ _ ?_ (fun hHeld2 => ?_)
                  focus ((try dsimp only); (exact ⟨H294.out.cell 1 rfl 0 rfl, H294.out.cell 1 rfl 1 rfl⟩))
                  clear hK K
                  try simp only [Act.put, p1, p2, p3, p4, p5, p6]
                  clear hHeld
                  have hHeld := hHeld2
                  clear hHeld2
                  refine tkA 9 ?_
                  try simp only [Act.put, p1, p2, p3, p4, p5, p6]
                  refine wpAnyH_done (by kernel_rfl) ?_ _
                  try clear hHeld
                  go_wp2_with fail
                  go_roundw
                  case rel => exact ⟨j + 1, (l9, h9) :: st.drop (pwK oc), ((L.take T) ++ [(l9, h9)]), (some ⟨g297, 0, none⟩), (T + 1), c298, by omega, by go_num, rfl, stk_take HLS.out HTK.out _, vGo_step HVR.out HKL.out (by simp only [List.length_cons, List.length_drop]; have := HKL.out; omega), iGo_step HG.out HD.out HPV.out HPK.out, by simp only [List.length_cons, List.length_drop]; have := HKL.out; omega, allAcc.step HA.out HPA.out _, H294.out.pick [4] rfl (by decide)⟩
                  case measure => first | (simp [intOf]; omega) | (simp [intOf]; done)
                | false =>
                  go_wp2_with fail
                  go_ret3
                  exact ⟨by rw [HEV.out, iGo_stop HG.out HD.out (HPP.out.2.trans HNb281.out)]; rfl, by first | exact H286.out.below | exact H286.out.below'⟩
            · skip
              obtain rfl : k190 = 2 := by have := HNk190.out; omega
              clear HNk190
              have HK0 := hid hk0
              obtain ⟨T, hT⟩ : ∃ T : Nat, (ln : Int) - 2 = T := ⟨ln - 2, by have := HKL.out; omega⟩
              have HTK := hid (show T + pwK oc = st.length from by have := HKL.out; omega)
              obtain ⟨x0, x1, hx⟩ : ∃ x0 x1, L.getD T (0, 0) = (x0, x1) := ⟨_, _, rfl⟩
              have HXS := hid (show st.getD (pwK oc - 1) (0, 0) = (x0, x1) from by rw [← hx]; exact (stk_get (0, 0) HLS.out (by omega) HTK.out).symm)
              have HXA := hid (show accOk x0 = true ∧ accOk x1 = true from by have := HA.out (pwK oc - 1); rw [HXS.out] at this; exact this)
              have HX := hid hx
              clear hx
              obtain ⟨T1, hT1⟩ : ∃ T1 : Nat, (ln : Int) - 1 = T1 := ⟨ln - 1, by have := HKL.out; omega⟩
              obtain ⟨y0, y1, hy⟩ : ∃ y0 y1, L.getD T1 (0, 0) = (y0, y1) := ⟨_, _, rfl⟩
              have HYS := hid (show st.getD 0 (0, 0) = (y0, y1) from by rw [← hy]; exact (stk_get (K := 1) (0, 0) HLS.out (by omega) (by omega)).symm)
              have HYA := hid (show accOk y0 = true ∧ accOk y1 = true from by have := HA.out 0; rw [HYS.out] at this; exact this)
              have HY := hid hy
              clear hy
              obtain ⟨D299, hD299⟩ : ∃ D, u136.heap.size = D := ⟨_, rfl⟩
              go_upto_region 12 with fail
              have H300 := hid (show St B W [.cells (D299 + 1) #[.int .i64 0, .int .i64 0] 99, .cells D299 #[.int .i64 0, .int .i64 0] 99, .arr (99) 2 (.slice (some ⟨g, 0, none⟩) ln sc) ln (prV L)] [] ((u136.alloc (.cells #[.int .i64 0, .int .i64 0] 99)).alloc (.cells #[.int .i64 0, .int .i64 0] 99)) from ((H137.out.alloc #[.int .i64 0, .int .i64 0] 99 hD299).alloc #[.int .i64 0, .int .i64 0] 99 (by first | exact hD299 | simp [hD299])))
              first | refine gen_code H300.out ?_ | refine gen_list H300.out ?_ | refine gen_calls H300.out ?_
              intro w301 hG
              clear H300
              have H300 := hid hG
              clear hG
              clear hD299
              go_upto_region 13 with fail
              obtain ⟨zy0, zy1⟩ := arr_pair (H300.out.arrE 2 rfl) (i := T1) (by have := HTK.out; omega)
              rw [HY.out] at zy0 zy1
              dsimp only at zy0 zy1
              have z302 := H300.out.cell 0 rfl 0 rfl
              have z303 := H300.out.free 0 rfl 0
              have z304 := H300.out.cell 0 rfl 1 rfl
              have z305 := H300.out.free 0 rfl 1
              go_upto_region 14 with fail
              clear z302 z303 z304 z305
              have H306 := hid (show St B W [.cells (D299 + 1) #[.int .i64 y0, .int .i64 y1] 99, .cells D299 #[.int .i64 0, .int .i64 0] 99, .arr (99) 2 (.slice (some ⟨g, 0, none⟩) ln sc) ln (prV L)] [] ((w301.setCell ⟨D299 + 1, 0, none⟩ (.int .i64 y0)).setCell ⟨D299 + 1, 1, none⟩ (.int .i64 y1)) from ((H300.out.set 0 rfl 0 (.int .i64 y0)).set 0 rfl 1 (.int .i64 y1)))
              first | refine gen_code H306.out ?_ | refine gen_list H306.out ?_ | refine gen_calls H306.out ?_
              intro w307 hG
              clear H306
              have H306 := hid hG
              clear hG
              go_upto_region 15 with fail
              obtain ⟨zx0, zx1⟩ := arr_pair (H306.out.arrE 2 rfl) (i := T) (by have := HTK.out; omega)
              rw [HX.out] at zx0 zx1
              dsimp only at zx0 zx1
              have z308 := H306.out.cell 1 rfl 0 rfl
              have z309 := H306.out.free 1 rfl 0
              have z310 := H306.out.cell 1 rfl 1 rfl
              have z311 := H306.out.free 1 rfl 1
              go_upto_region 16 with fail
              clear z308 z309 z310 z311
              have H312 := hid (show St B W [.cells (D299 + 1) #[.int .i64 y0, .int .i64 y1] 99, .cells D299 #[.int .i64 x0, .int .i64 x1] 99, .arr (99) 2 (.slice (some ⟨g, 0, none⟩) ln sc) ln (prV L)] [] ((w307.setCell ⟨D299, 0, none⟩ (.int .i64 x0)).setCell ⟨D299, 1, none⟩ (.int .i64 x1)) from ((H306.out.set 1 rfl 0 (.int .i64 x0)).set 1 rfl 1 (.int .i64 x1)))
              first | refine gen_code H312.out ?_ | refine gen_list H312.out ?_ | refine gen_calls H312.out ?_
              intro w313 hG
              clear H312
              have H312 := hid hG
              clear hG
              have HOO := hid (show zs.getD j (0, 0) = (oc, og) from by have := HD.out; rw [List.drop_eq_getElem_cons (by have := HL.out; omega)] at this; rw [List.getD_eq_getElem?_getD, List.getElem?_eq_getElem (by have := HL.out; omega), ← (List.cons.inj this).1]; rfl)
              have H314 := hid H312.out.drew
              refine wp_region_held_drew (S := (fun w' => w'.cell? ⟨D299, 0, none⟩ = some (.int .i64 x0) ∧ w'.cell? ⟨D299, 1, none⟩ = some (.int .i64 x1) ∧ w'.cell? ⟨D299 + 1, 0, none⟩ = some (.int .i64 y0) ∧ w'.cell? ⟨D299 + 1, 1, none⟩ = some (.int .i64 y1) ∧ w'.cell? ⟨pb, po + j * 2, none⟩ = some (.int .i64 oc) ∧ w'.cell? ⟨pb, po + j * 2 + 1, none⟩ = some (.int .i64 og))) (by kernel_rfl) ⟨H314.out.cell 1 rfl 0 rfl, H314.out.cell 1 rfl 1 rfl, H314.out.cell 0 rfl 0 rfl, H314.out.cell 0 rfl 1 rfl, (by have := ((H314.out.oldPrs HS.out).get (i := j) hjn).1; rw [HOO.out] at this; exact this), (by have := ((H314.out.oldPrs HS.out).get (i := j) hjn).2; rw [HOO.out] at this; exact this)⟩ (fun hHeld => ?_)
              generalize w313.drew = k315 at *
              refine tkA 0 ?_
              try simp only [Act.put, p1, p2, p3, p4, p5, p6]
              refine tkA 1 ?_
              try simp only [Act.put, p1, p2, p3, p4, p5, p6]
              refine tkA 2 ?_
              try simp only [Act.put, p1, p2, p3, p4, p5, p6]
              refine tkA 3 ?_
              try simp only [Act.put, p1, p2, p3, p4, p5, p6]
              refine tkA 4 ?_
              try simp only [Act.put, p1, p2, p3, p4, p5, p6]
              refine tkA 5 ?_
              try simp only [Act.put, p1, p2, p3, p4, p5, p6]
              refine tkA 6 ?_
              try simp only [Act.put, p1, p2, p3, p4, p5, p6]
              refine tkA 7 ?_
              try simp only [Act.put, p1, p2, p3, p4, p5, p6]
              refine wpAnyH_ready (rs := [8, 12]) (by kernel_rfl) (by simp) (AllReadyH.cons (o := _) rfl (fun K hK => ?_) (AllReadyH.cons (o := _) rfl (fun K hK => ?_) AllReadyH.nil))
              · go_simp
                go_at_call 73
                refine (rnext_any _ _ _ _ _ _ _ _ _ ⟨oc0, oc11⟩ HXA.out.1 HXA.out.2 HYA.out.1 HYA.out.2).mono ?_
                rintro e w316 ⟨⟨l9, h9, rfl, hlh⟩, hb⟩
                have H317 := hid (H314.out.call hb)
                clear hb
                obtain ⟨b318, hb318⟩ : ∃ xx', pwIok oc og (x0, x1) (y0, y1) u v = xx' := ⟨_, rfl⟩
                rw [hb318] at hlh ⊢
                have HNb318 := hid hb318
                clear hb318
                have HLH := hid hlh
                clear hlh
                have HPP := hid (show pwInt oc og (st.getD (pwK oc - 1) (0, 0)) (st.getD 0 (0, 0)) u v = pwInt oc og (x0, x1) (y0, y1) u v ∧ pwIok oc og (st.getD (pwK oc - 1) (0, 0)) (st.getD 0 (0, 0)) u v = pwIok oc og (x0, x1) (y0, y1) u v from by rw [HXS.out, HYS.out]; exact ⟨rfl, rfl⟩)
                refine hK.out _ _ ?_ (fun hHeld2 => ?_)
                focus ((try dsimp only); (exact ⟨H317.out.cell 1 rfl 0 rfl, H317.out.cell 1 rfl 1 rfl, H317.out.cell 0 rfl 0 rfl, H317.out.cell 0 rfl 1 rfl, (by have := ((H317.out.oldPrs HS.out).get (i := j) hjn).1; rw [HOO.out] at this; exact this), (by have := ((H317.out.oldPrs HS.out).get (i := j) hjn).2; rw [HOO.out] at this; exact this)⟩))
                clear hK K
                try simp only [Act.put, p1, p2, p3, p4, p5, p6]
                clear hHeld
                have hHeld := hHeld2
                clear hHeld2
                refine tkA 9 ?_
                try simp only [Act.put, p1, p2, p3, p4, p5, p6]
                refine tkA 10 ?_
                try simp only [Act.put, p1, p2, p3, p4, p5, p6]
                refine tkA 11 ?_
                try simp only [Act.put, p1, p2, p3, p4, p5, p6]
                refine wpAnyH_ready (rs := [12]) (by kernel_rfl) (by simp) (AllReadyH.cons (o := _) rfl (fun K hK => ?_) AllReadyH.nil)
                obtain ⟨D319, hD319⟩ : ∃ D, w316.heap.size = D := ⟨_, rfl⟩
                have H320 := hid (H317.out.alloc #[.int .i64 0, .int .i64 0] 99 hD319)
                go_simp
                refine hK.out _ _ ?_ (fun hHeld2 => ?_)
                focus ((try dsimp only); (exact ⟨H320.out.cell 2 rfl 0 rfl, H320.out.cell 2 rfl 1 rfl, H320.out.cell 1 rfl 0 rfl, H320.out.cell 1 rfl 1 rfl, (by have := ((H320.out.oldPrs HS.out).get (i := j) hjn).1; rw [HOO.out] at this; exact this), (by have := ((H320.out.oldPrs HS.out).get (i := j) hjn).2; rw [HOO.out] at this; exact this)⟩))
                clear hK K hHeld
                try simp only [Act.put, p1, p2, p3, p4, p5, p6]
                clear hD319
                generalize (w316.alloc (.cells #[.int .i64 0, .int .i64 0] 99)) = k321 at *
                have hHeld := hHeld2
                clear hHeld2
                refine wpAnyH_ready (rs := [13]) (by kernel_rfl) (by simp) (AllReadyH.cons (o := _) rfl (fun K hK => ?_) AllReadyH.nil)
                have z322 := H320.out.cell 0 rfl 0 rfl
                have z323 := H320.out.free 0 rfl 0
                have z324 := H320.out.cell 0 rfl 1 rfl
                have z325 := H320.out.free 0 rfl 1
                have H326 := hid (show St B W [.cells D319 #[.int .i64 l9, .int .i64 h9] 99, .cells (D299 + 1) #[.int .i64 y0, .int .i64 y1] 99, .cells D299 #[.int .i64 x0, .int .i64 x1] 99, .arr (99) 2 (.slice (some ⟨g, 0, none⟩) ln sc) ln (prV L)] [] ((k321.setCell ⟨D319, 0, none⟩ (.int .i64 l9)).setCell ⟨D319, 1, none⟩ (.int .i64 h9)) from ((H320.out.set 0 rfl 0 (.int .i64 l9)).set 0 rfl 1 (.int .i64 h9)))
                go_simp
                refine hK.out _ _ ?_ (fun hHeld2 => ?_)
                focus ((try dsimp only); (exact ⟨H326.out.cell 2 rfl 0 rfl, H326.out.cell 2 rfl 1 rfl, H326.out.cell 1 rfl 0 rfl, H326.out.cell 1 rfl 1 rfl, (by have := ((H326.out.oldPrs HS.out).get (i := j) hjn).1; rw [HOO.out] at this; exact this), (by have := ((H326.out.oldPrs HS.out).get (i := j) hjn).2; rw [HOO.out] at this; exact this)⟩))
                clear hK K hHeld
                try simp only [Act.put, p1, p2, p3, p4, p5, p6]
                clear z322 z323 z324 z325
                generalize ((k321.setCell ⟨D319, 0, none⟩ (.int .i64 l9)).setCell ⟨D319, 1, none⟩ (.int .i64 h9)) = k327 at *
                have hHeld := hHeld2
                clear hHeld2
                refine tkA 14 ?_
                try simp only [Act.put, p1, p2, p3, p4, p5, p6]
                refine wpAnyH_done (by kernel_rfl) ?_ _
                try clear hHeld
                cases b318 with
                | true =>
                  go_upto_region 19 with fail
                  have hlh := (show l9 = (pwInt oc og (x0, x1) (y0, y1) u v).1 ∧ h9 = (pwInt oc og (x0, x1) (y0, y1) u v).2 from by first | exact HLH.out rfl | exact HLH.out trivial | exact HLH.out)
                  have HPK := hid (show pwIok oc og (st.getD (pwK oc - 1) (0, 0)) (st.getD 0 (0, 0)) u v = true from by rw [HPP.out.2]; exact HNb318.out)
                  have HPV := hid (show pwInt oc og (st.getD (pwK oc - 1) (0, 0)) (st.getD 0 (0, 0)) u v = (l9, h9) from by rw [HPP.out.1, hlh.1, hlh.2])
                  have HPA := hid (show accOk l9 = true ∧ accOk h9 = true from by have := pwIok_lo HPK.out; rw [HPV.out] at this; exact this)
                  clear hlh
                  obtain ⟨t1, t2⟩ : (T : Int) ≤ ln ∧ (ln : Int) ≤ sc := by have := HTK.out; have := arr_cap (H326.out.arrE 3 rfl); omega
                  have t3 : (T : Int) ≤ sc := by omega
                  have t4 : 0 ≤ (T : Int) := by omega
                  have t5 : IntKind.i64.wrap (T : Int) = T := IntWalk.i64_in _ (by omega)
                  have H328 := hid (H326.out.take 3 rfl (k := T) (by omega))
                  rw [prV_take] at H328
                  go_upto_region 19 with fail
                  have H329 := hid H328.out.drew
                  refine wp_region_held_drew (S := (fun w' => w'.cell? ⟨D319, 0, none⟩ = some (.int .i64 l9) ∧ w'.cell? ⟨D319, 1, none⟩ = some (.int .i64 h9))) (by kernel_rfl) ⟨H329.out.cell 0 rfl 0 rfl, H329.out.cell 0 rfl 1 rfl⟩ (fun hHeld => ?_)
                  generalize k327.drew = k330 at *
                  refine tkA 0 ?_
                  try simp only [Act.put, p1, p2, p3, p4, p5, p6]
                  refine tkA 1 ?_
                  try simp only [Act.put, p1, p2, p3, p4, p5, p6]
                  refine tkA 2 ?_
                  try simp only [Act.put, p1, p2, p3, p4, p5, p6]
                  refine tkA 3 ?_
                  try simp only [Act.put, p1, p2, p3, p4, p5, p6]
                  refine tkA 4 ?_
                  try simp only [Act.put, p1, p2, p3, p4, p5, p6]
                  refine tkA 5 ?_
                  try simp only [Act.put, p1, p2, p3, p4, p5, p6]
                  refine tkA 6 ?_
                  try simp only [Act.put, p1, p2, p3, p4, p5, p6]
                  refine wpAnyH_ready (rs := [7]) (by kernel_rfl) (by simp) (AllReadyH.cons (o := _) rfl (fun K hK => ?_) AllReadyH.nil)
                  obtain ⟨D331, hD331⟩ : ∃ D, k330.heap.size = D := ⟨_, rfl⟩
                  have H332 := hid (H329.out.alloc #[.int .i64 l9, .int .i64 h9] 99 hD331)
                  go_simp
                  refine hK.out _ _ ?_ (fun hHeld2 => ?_)
                  focus ((try dsimp only); (exact ⟨H332.out.cell 1 rfl 0 rfl, H332.out.cell 1 rfl 1 rfl⟩))
                  clear hK K hHeld
                  try simp only [Act.put, p1, p2, p3, p4, p5, p6]
                  clear hD331
                  generalize (k330.alloc (.cells #[.int .i64 l9, .int .i64 h9] 99)) = k333 at *
                  have hHeld := hHeld2
                  clear hHeld2
                  refine wpAnyH_ready (rs := [8]) (by kernel_rfl) (by simp) (AllReadyH.cons (o := _) rfl (fun K hK => ?_) AllReadyH.nil)
                  rw [if_pos (by rfl)]
                  refine oper_append_vals _ _ 97 99 2 16 (.agg #[.int .i64 0, .int .i64 0]) Try.underlying97 info_span rfl (by decide) (by decide) rfl B _ _ _ D331 1 1 [.int .i64 l9, .int .i64 h9] rfl rfl rfl (H332.out.arrE 4 rfl) (lit_news H332.out 0 [.int .i64 l9, .int .i64 h9] rfl) (by intro u hu; simp at hu; rcases hu with rfl | rfl <;> rfl) (by omega) H332.out.size ?_
                  intro v9a k335 ho hg hv
                  have H334 := hid (H332.out.appendE 4 rfl ho hg hv)
                  clear ho hg hv
                  obtain ⟨g337, c338, hva⟩ := arr_pos (H334.out.arrE 4 rfl) (by omega)
                  subst hva
                  rw [show prV (L.take T) ++ [.int .i64 l9, .int .i64 h9] = prV ((L.take T) ++ [(l9, h9)]) from by rw [prV_app]; rfl] at H334
                  refine hK.out _ _ ?_ (fun hHeld2 => ?_)
                  focus ((try dsimp only); (exact ⟨H334.out.cell 1 rfl 0 rfl, H334.out.cell 1 rfl 1 rfl⟩))
                  clear hK K
                  try simp only [Act.put, p1, p2, p3, p4, p5, p6]
                  clear hHeld
                  have hHeld := hHeld2
                  clear hHeld2
                  refine tkA 9 ?_
                  try simp only [Act.put, p1, p2, p3, p4, p5, p6]
                  refine wpAnyH_done (by kernel_rfl) ?_ _
                  try clear hHeld
                  go_wp2_with fail
                  go_roundw
                  case rel => exact ⟨j + 1, (l9, h9) :: st.drop (pwK oc), ((L.take T) ++ [(l9, h9)]), (some ⟨g337, 0, none⟩), (T + 1), c338, by omega, by go_num, rfl, stk_take HLS.out HTK.out _, vGo_step HVR.out HKL.out (by simp only [List.length_cons, List.length_drop]; have := HKL.out; omega), iGo_step HG.out HD.out HPV.out HPK.out, by simp only [List.length_cons, List.length_drop]; have := HKL.out; omega, allAcc.step HA.out HPA.out _, H334.out.pick [4] rfl (by decide)⟩
                  case measure => first | (simp [intOf]; omega) | (simp [intOf]; done)
                | false =>
                  go_wp2_with fail
                  go_ret3
                  exact ⟨by rw [HEV.out, iGo_stop HG.out HD.out (HPP.out.2.trans HNb318.out)]; rfl, by first | exact H326.out.below | exact H326.out.below'⟩
              · obtain ⟨D339, hD339⟩ : ∃ D, k315.heap.size = D := ⟨_, rfl⟩
                have H340 := hid (H314.out.alloc #[.int .i64 0, .int .i64 0] 99 hD339)
                go_simp
                refine hK.out _ _ ?_ (fun hHeld2 => ?_)
                focus ((try dsimp only); (exact ⟨H340.out.cell 2 rfl 0 rfl, H340.out.cell 2 rfl 1 rfl, H340.out.cell 1 rfl 0 rfl, H340.out.cell 1 rfl 1 rfl, (by have := ((H340.out.oldPrs HS.out).get (i := j) hjn).1; rw [HOO.out] at this; exact this), (by have := ((H340.out.oldPrs HS.out).get (i := j) hjn).2; rw [HOO.out] at this; exact this)⟩))
                clear hK K hHeld
                try simp only [Act.put, p1, p2, p3, p4, p5, p6]
                clear hD339
                generalize (k315.alloc (.cells #[.int .i64 0, .int .i64 0] 99)) = k341 at *
                have hHeld := hHeld2
                clear hHeld2
                refine wpAnyH_ready (rs := [8]) (by kernel_rfl) (by simp) (AllReadyH.cons (o := _) rfl (fun K hK => ?_) AllReadyH.nil)
                go_simp
                go_at_call 73
                refine (rnext_any _ _ _ _ _ _ _ _ _ ⟨oc0, oc11⟩ HXA.out.1 HXA.out.2 HYA.out.1 HYA.out.2).mono ?_
                rintro e w342 ⟨⟨l9, h9, rfl, hlh⟩, hb⟩
                have H343 := hid (H340.out.call hb)
                clear hb
                obtain ⟨b344, hb344⟩ : ∃ xx', pwIok oc og (x0, x1) (y0, y1) u v = xx' := ⟨_, rfl⟩
                rw [hb344] at hlh ⊢
                have HNb344 := hid hb344
                clear hb344
                have HLH := hid hlh
                clear hlh
                have HPP := hid (show pwInt oc og (st.getD (pwK oc - 1) (0, 0)) (st.getD 0 (0, 0)) u v = pwInt oc og (x0, x1) (y0, y1) u v ∧ pwIok oc og (st.getD (pwK oc - 1) (0, 0)) (st.getD 0 (0, 0)) u v = pwIok oc og (x0, x1) (y0, y1) u v from by rw [HXS.out, HYS.out]; exact ⟨rfl, rfl⟩)
                refine hK.out _ _ ?_ (fun hHeld2 => ?_)
                focus ((try dsimp only); (exact ⟨H343.out.cell 2 rfl 0 rfl, H343.out.cell 2 rfl 1 rfl, H343.out.cell 1 rfl 0 rfl, H343.out.cell 1 rfl 1 rfl, (by have := ((H343.out.oldPrs HS.out).get (i := j) hjn).1; rw [HOO.out] at this; exact this), (by have := ((H343.out.oldPrs HS.out).get (i := j) hjn).2; rw [HOO.out] at this; exact this)⟩))
                clear hK K
                try simp only [Act.put, p1, p2, p3, p4, p5, p6]
                clear hHeld
                have hHeld := hHeld2
                clear hHeld2
                refine tkA 9 ?_
                try simp only [Act.put, p1, p2, p3, p4, p5, p6]
                refine tkA 10 ?_
                try simp only [Act.put, p1, p2, p3, p4, p5, p6]
                refine tkA 11 ?_
                try simp only [Act.put, p1, p2, p3, p4, p5, p6]
                refine wpAnyH_ready (rs := [13]) (by kernel_rfl) (by simp) (AllReadyH.cons (o := _) rfl (fun K hK => ?_) AllReadyH.nil)
                have z345 := H343.out.cell 0 rfl 0 rfl
                have z346 := H343.out.free 0 rfl 0
                have z347 := H343.out.cell 0 rfl 1 rfl
                have z348 := H343.out.free 0 rfl 1
                have H349 := hid (show St B W [.cells D339 #[.int .i64 l9, .int .i64 h9] 99, .cells (D299 + 1) #[.int .i64 y0, .int .i64 y1] 99, .cells D299 #[.int .i64 x0, .int .i64 x1] 99, .arr (99) 2 (.slice (some ⟨g, 0, none⟩) ln sc) ln (prV L)] [] ((w342.setCell ⟨D339, 0, none⟩ (.int .i64 l9)).setCell ⟨D339, 1, none⟩ (.int .i64 h9)) from ((H343.out.set 0 rfl 0 (.int .i64 l9)).set 0 rfl 1 (.int .i64 h9)))
                go_simp
                refine hK.out _ _ ?_ (fun hHeld2 => ?_)
                focus ((try dsimp only); (exact ⟨H349.out.cell 2 rfl 0 rfl, H349.out.cell 2 rfl 1 rfl, H349.out.cell 1 rfl 0 rfl, H349.out.cell 1 rfl 1 rfl, (by have := ((H349.out.oldPrs HS.out).get (i := j) hjn).1; rw [HOO.out] at this; exact this), (by have := ((H349.out.oldPrs HS.out).get (i := j) hjn).2; rw [HOO.out] at this; exact this)⟩))
                clear hK K hHeld
                try simp only [Act.put, p1, p2, p3, p4, p5, p6]
                clear z345 z346 z347 z348
                generalize ((w342.setCell ⟨D339, 0, none⟩ (.int .i64 l9)).setCell ⟨D339, 1, none⟩ (.int .i64 h9)) = k350 at *
                have hHeld := hHeld2
                clear hHeld2
                refine tkA 14 ?_
                try simp only [Act.put, p1, p2, p3, p4, p5, p6]
                refine wpAnyH_done (by kernel_rfl) ?_ _
                try clear hHeld
                cases b344 with
                | true =>
                  go_upto_region 19 with fail
                  have hlh := (show l9 = (pwInt oc og (x0, x1) (y0, y1) u v).1 ∧ h9 = (pwInt oc og (x0, x1) (y0, y1) u v).2 from by first | exact HLH.out rfl | exact HLH.out trivial | exact HLH.out)
                  have HPK := hid (show pwIok oc og (st.getD (pwK oc - 1) (0, 0)) (st.getD 0 (0, 0)) u v = true from by rw [HPP.out.2]; exact HNb344.out)
                  have HPV := hid (show pwInt oc og (st.getD (pwK oc - 1) (0, 0)) (st.getD 0 (0, 0)) u v = (l9, h9) from by rw [HPP.out.1, hlh.1, hlh.2])
                  have HPA := hid (show accOk l9 = true ∧ accOk h9 = true from by have := pwIok_lo HPK.out; rw [HPV.out] at this; exact this)
                  clear hlh
                  obtain ⟨t1, t2⟩ : (T : Int) ≤ ln ∧ (ln : Int) ≤ sc := by have := HTK.out; have := arr_cap (H349.out.arrE 3 rfl); omega
                  have t3 : (T : Int) ≤ sc := by omega
                  have t4 : 0 ≤ (T : Int) := by omega
                  have t5 : IntKind.i64.wrap (T : Int) = T := IntWalk.i64_in _ (by omega)
                  have H351 := hid (H349.out.take 3 rfl (k := T) (by omega))
                  rw [prV_take] at H351
                  go_upto_region 19 with fail
                  have H352 := hid H351.out.drew
                  refine wp_region_held_drew (S := (fun w' => w'.cell? ⟨D339, 0, none⟩ = some (.int .i64 l9) ∧ w'.cell? ⟨D339, 1, none⟩ = some (.int .i64 h9))) (by kernel_rfl) ⟨H352.out.cell 0 rfl 0 rfl, H352.out.cell 0 rfl 1 rfl⟩ (fun hHeld => ?_)
                  generalize k350.drew = k353 at *
                  refine tkA 0 ?_
                  try simp only [Act.put, p1, p2, p3, p4, p5, p6]
                  refine tkA 1 ?_
                  try simp only [Act.put, p1, p2, p3, p4, p5, p6]
                  refine tkA 2 ?_
                  try simp only [Act.put, p1, p2, p3, p4, p5, p6]
                  refine tkA 3 ?_
                  try simp only [Act.put, p1, p2, p3, p4, p5, p6]
                  refine tkA 4 ?_
                  try simp only [Act.put, p1, p2, p3, p4, p5, p6]
                  refine tkA 5 ?_
                  try simp only [Act.put, p1, p2, p3, p4, p5, p6]
                  refine tkA 6 ?_
                  try simp only [Act.put, p1, p2, p3, p4, p5, p6]
                  refine wpAnyH_ready (rs := [7]) (by kernel_rfl) (by simp) (AllReadyH.cons (o := _) rfl (fun K hK => ?_) AllReadyH.nil)
                  obtain ⟨D354, hD354⟩ : ∃ D, k353.heap.size = D := ⟨_, rfl⟩
                  have H355 := hid (H352.out.alloc #[.int .i64 l9, .int .i64 h9] 99 hD354)
                  go_simp
                  refine hK.out _ _ ?_ (fun hHeld2 => ?_)
                  focus ((try dsimp only); (exact ⟨H355.out.cell 1 rfl 0 rfl, H355.out.cell 1 rfl 1 rfl⟩))
                  clear hK K hHeld
                  try simp only [Act.put, p1, p2, p3, p4, p5, p6]
                  clear hD354
                  generalize (k353.alloc (.cells #[.int .i64 l9, .int .i64 h9] 99)) = k356 at *
                  have hHeld := hHeld2
                  clear hHeld2
                  refine wpAnyH_ready (rs := [8]) (by kernel_rfl) (by simp) (AllReadyH.cons (o := _) rfl (fun K hK => ?_) AllReadyH.nil)
                  rw [if_pos (by rfl)]
                  refine oper_append_vals _ _ 97 99 2 16 (.agg #[.int .i64 0, .int .i64 0]) Try.underlying97 info_span rfl (by decide) (by decide) rfl B _ _ _ D354 1 1 [.int .i64 l9, .int .i64 h9] rfl rfl rfl (H355.out.arrE 4 rfl) (lit_news H355.out 0 [.int .i64 l9, .int .i64 h9] rfl) (by intro u hu; simp at hu; rcases hu with rfl | rfl <;> rfl) (by omega) H355.out.size ?_
                  intro v9a k358 ho hg hv
                  have H357 := hid (H355.out.appendE 4 rfl ho hg hv)
                  clear ho hg hv
                  obtain ⟨g360, c361, hva⟩ := arr_pos (H357.out.arrE 4 rfl) (by omega)
                  subst hva
                  rw [show prV (L.take T) ++ [.int .i64 l9, .int .i64 h9] = prV ((L.take T) ++ [(l9, h9)]) from by rw [prV_app]; rfl] at H357
                  refine hK.out _ _ ?_ (fun hHeld2 => ?_)
                  focus ((try dsimp only); (exact ⟨H357.out.cell 1 rfl 0 rfl, H357.out.cell 1 rfl 1 rfl⟩))
                  clear hK K
                  try simp only [Act.put, p1, p2, p3, p4, p5, p6]
                  clear hHeld
                  have hHeld := hHeld2
                  clear hHeld2
                  refine tkA 9 ?_
                  try simp only [Act.put, p1, p2, p3, p4, p5, p6]
                  refine wpAnyH_done (by kernel_rfl) ?_ _
                  try clear hHeld
                  go_wp2_with fail
                  go_roundw
                  case rel => exact ⟨j + 1, (l9, h9) :: st.drop (pwK oc), ((L.take T) ++ [(l9, h9)]), (some ⟨g360, 0, none⟩), (T + 1), c361, by omega, by go_num, rfl, stk_take HLS.out HTK.out _, vGo_step HVR.out HKL.out (by simp only [List.length_cons, List.length_drop]; have := HKL.out; omega), iGo_step HG.out HD.out HPV.out HPK.out, by simp only [List.length_cons, List.length_drop]; have := HKL.out; omega, allAcc.step HA.out HPA.out _, H357.out.pick [4] rfl (by decide)⟩
                  case measure => first | (simp [intOf]; omega) | (simp [intOf]; done)
                | false =>
                  go_wp2_with fail
                  go_ret3
                  exact ⟨by rw [HEV.out, iGo_stop HG.out HD.out (HPP.out.2.trans HNb344.out)]; rfl, by first | exact H349.out.below | exact H349.out.below'⟩
          · skip
            have hjn' : ¬ ((j : Int) < n) := by omega
            have HE := hid (show zs.drop j = [] from List.drop_eq_nil_of_le (by have := HL.out; omega))
            have hs1 : st.length = 1 := vGo_nil (by rw [← HE.out]; exact HVG.out)
            obtain ⟨q1, q2⟩ : 1 ≤ ln ∧ ln ≤ 1 := by omega
            have q3 : 0 < ln := by omega
            have q4 : (0 : Int) < ln := by omega
            obtain ⟨z0, z1, hz⟩ : ∃ z0 z1, L.getD 0 (0, 0) = (z0, z1) := ⟨_, _, rfl⟩
            have HZ := hid (show ivR zs u v = (z0, z1, 0) from by rw [HEV.out, ← HG.out, HE.out]; unfold iGo; rw [show st.headD (0, 0) = (z0, z1) from by rw [← hz, stk_get (K := 1) (0, 0) HLS.out (by omega) (by omega), List.headD_eq_head?_getD, List.getD_eq_getElem?_getD, List.head?_eq_getElem?]])
            obtain ⟨g, cc, hgg⟩ := arr_pos (H137.out.arrE 0 rfl) (by omega)
            injection hgg with hga hgb hgc
            subst hga
            clear hgb hgc
            go_upto_region 20 with fail
            have H362 := hid H137.out.drew
            refine wp_region_held_drew (S := (fun w' => w'.cell? ⟨g, 0, none⟩ = some (.int .i64 z0) ∧ w'.cell? ⟨g, 1, none⟩ = some (.int .i64 z1))) (by kernel_rfl) ⟨(by have := (arr_pair (H362.out.arrE 0 rfl) (i := 0) (by omega)).1; rw [hz] at this; exact this), (by have := (arr_pair (H362.out.arrE 0 rfl) (i := 0) (by omega)).2; rw [hz] at this; exact this)⟩ (fun hHeld => ?_)
            generalize u136.drew = k363 at *
            refine tkA 0 ?_
            try simp only [Act.put, p1, p2, p3, p4, p5, p6]
            refine tkA 1 ?_
            try simp only [Act.put, p1, p2, p3, p4, p5, p6]
            refine tkA 2 ?_
            try simp only [Act.put, p1, p2, p3, p4, p5, p6]
            refine tkA 3 ?_
            try simp only [Act.put, p1, p2, p3, p4, p5, p6]
            refine tkA 4 ?_
            try simp only [Act.put, p1, p2, p3, p4, p5, p6]
            refine tkA 5 ?_
            try simp only [Act.put, p1, p2, p3, p4, p5, p6]
            refine tkA 6 ?_
            try simp only [Act.put, p1, p2, p3, p4, p5, p6]
            refine tkA 7 ?_
            try simp only [Act.put, p1, p2, p3, p4, p5, p6]
            refine tkA 8 ?_
            try simp only [Act.put, p1, p2, p3, p4, p5, p6]
            refine tkA 9 ?_
            try simp only [Act.put, p1, p2, p3, p4, p5, p6]
            refine tkA 10 ?_
            try simp only [Act.put, p1, p2, p3, p4, p5, p6]
            refine wpAnyH_done (by kernel_rfl) ?_ _
            try clear hHeld
            go_wp2_with fail
            go_ret3
            exact ⟨by rw [HZ.out]; rfl, by first | exact H362.out.below | exact H362.out.below'⟩
      | false =>
        go_wp2_with fail
        go_ret3
        exact ⟨by rw [ivR_range (by rw [HNk129.out]; have := c130h.out; omega) (by rw [HNb132.out, HNb134.out]; simp)]; rfl, by first | exact H128.out.below | exact H128.out.below'⟩
    | false =>
      go_wp2_with fail
      go_ret3
      exact ⟨by rw [ivR_range (by rw [HNk129.out]; have := c130h.out; omega) (by rw [HNb132.out]; simp)]; rfl, by first | exact H128.out.below | exact H128.out.below'⟩
  · have c130a : ((k129 : Int) == (0)) = false := by simpa using c130
    have c130b : ((k129 : Int) != (0)) = true := by simpa using c130
    have c130h := hid c130
    clear c130
    go_wp2_with fail
    go_ret3
    exact ⟨by rw [ivR_bad HNk129.out (by have := c130h.out; omega)]; rfl, by first | exact H128.out.below | exact H128.out.below'⟩
end Go.Proofs.Ytnnpnljdefmmcaa
