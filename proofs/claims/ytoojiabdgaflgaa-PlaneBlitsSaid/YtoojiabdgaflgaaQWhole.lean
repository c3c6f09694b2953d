/-
  Contract: the integral plane of a plane, in the reference.
-/
import Derived.Test.YtoojiabdgaflgaaQTile
namespace Go.Proofs.Ytoojiabdgaflgaa
open Go.RowKit
attribute [local go_sem ↓] Go.wp_at_zero Go.wp_at_succ
set_option linter.unusedVariables false
set_option linter.unusedSimpArgs false

theorem rep_get (n k : Nat) : (List.replicate n (0 : Int)).getD k 0 = 0 := by
  rw [List.getD_eq_getElem?_getD]
  rcases Nat.lt_or_ge k n with h | h <;> simp [h]
theorem tVal_whole (w : Int) (zs : List Int) (n m : Nat) (k j : Nat) : tVal w zs 0 0 (List.replicate n 0) (List.replicate m 0) 0 k j = rowsS w zs 0 0 (k + 1) (j + 1) := by
  unfold tVal
  rw [rep_get, rep_get, tSum_rowsS]; simp
theorem rowS_le {w h mx : Int} {zs : List Int} (hv : pValid w h mx zs = true) (r0 r1 : Int) (a j : Nat) : 0 ≤ rowS w zs r0 r1 a j ∧ rowS w zs r0 r1 a j ≤ j * mx :=
  sumN_bd fun i _ => tPix_bd hv r0 r1 a i
theorem rowsS_le {w h mx : Int} {zs : List Int} (hv : pValid w h mx zs = true) (r0 r1 : Int) (k j : Nat) : 0 ≤ rowsS w zs r0 r1 k j ∧ rowsS w zs r0 r1 k j ≤ k * (j * mx) :=
  sumN_bd fun i _ => rowS_le hv r0 r1 i j
/-- Every sum of pixels of a plane is permitted. -/
theorem whole_in {w h mx : Int} {zs : List Int} (hv : pValid w h mx zs = true) {k j : Nat} (hk : (k : Int) ≤ h) (hj : (j : Int) ≤ w) : 0 ≤ rowsS w zs 0 0 k j ∧ rowsS w zs 0 0 k j ≤ w * h * mx := by
  obtain ⟨h0, h1⟩ := rowsS_le hv 0 0 k j
  obtain ⟨p1, p2, p3, p4, p5, p6, p7⟩ := pOk_iff.1 (pValid_iff.1 hv).1
  have e1 : (j : Int) * mx ≤ w * mx := Int.mul_le_mul_of_nonneg_right hj (by omega)
  have e2 : (k : Int) * (j * mx) ≤ h * (w * mx) := Int.mul_le_mul hk e1 (Int.mul_nonneg (by omega) (by omega)) (by omega)
  have e3 : h * (w * mx) = w * h * mx := by rw [← Int.mul_assoc, Int.mul_comm h w]
  omega
theorem whole_all {w h mx : Int} {zs : List Int} (hv : pValid w h mx zs = true) (nh nw : Nat) (hnh : h = nh) (hnw : w = nw) :
    tAll w zs 0 0 (List.replicate nh 0) (List.replicate nw 0) 0 = gridL (fun k j => rowsS w zs 0 0 (k + 1) (j + 1)) nw nh 0 := by
  unfold tAll
  rw [List.length_replicate, List.length_replicate]
  congr 1
  funext k j
  exact tVal_whole w zs nh nw k j
theorem whole_code {w h mx : Int} {zs : List Int} (hv : pValid w h mx zs = true) (hi : iOk w h mx = true) (nh nw : Nat) (hnh : h = nh) (hnw : w = nw) :
    tCode w h mx zs 0 0 w h (List.replicate nh 0) (List.replicate nw 0) 0 = 0 := by
  have hp := (pOk_iff.1 (pValid_iff.1 hv).1)
  obtain ⟨p1, p2, p3, p4, p5, p6, p7⟩ := hp
  have hin := (inside_iff (w := w) (h := h) (r0 := 0) (r1 := 0) (r2 := w) (r3 := h) p1 p2 p3 p4).2 (by omega)
  have hm : 0 ≤ w * h * mx := Int.mul_nonneg (Int.mul_nonneg (by omega) (by omega)) (by omega)
  have hz : ∀ n, allIn (w * h * mx) (List.replicate n 0) = true := fun n => allIn_iff.2 fun v hv' => by
    rw [List.mem_replicate] at hv'; omega
  have h1 : allIn (w * h * mx) [0] = true := hz 1
  have ha : allIn (w * h * mx) (tAll w zs 0 0 (List.replicate nh 0) (List.replicate nw 0) 0) = true := by
    rw [whole_all hv nh nw hnh hnw, allIn_iff]
    refine (gridL_all _ nw nh).2 fun a ha b hb => ?_
    exact whole_in hv (by omega) (by omega)
  unfold tCode
  rw [if_neg (by rw [hv]; simp), if_neg (by rw [hi]; simp), if_neg (by rw [hin]; simp), if_neg (by simp; omega), if_neg (by rw [h1, hz, hz]; simp), if_neg (by rw [ha]; simp)]
theorem fillL_get {f : Nat → Nat → Int} {wd k j N a b : Nat} (hN : k * wd + j ≤ N) (hb : b < wd) (h : a < k ∨ (a = k ∧ b < j)) : (fillL f wd k j N).getD (a * wd + b) 0 = f a b := by
  have hlt : a * wd + b < k * wd + j := by
    rcases h with h | ⟨rfl, h⟩
    · have := Nat.mul_le_mul_right wd (show a + 1 ≤ k by omega)
      rw [Nat.add_mul, Nat.one_mul] at this
      omega
    · omega
  unfold fillL
  rw [List.getD_eq_getElem?_getD, List.getElem?_append_left (by rw [gridL_len]; exact hlt), ← List.getD_eq_getElem?_getD]
  exact gridL_get f wd k j a b hb h

set_option maxRecDepth 100000 in
set_option maxHeartbeats 6400000 in
theorem qwhole13_any (w h mx : Int) (a : Option Addr) (n c : Nat) (zs : List Int) (W : World) (hs : Slc W a n c zs) :
    Calls Try.prog 42 #[.agg #[.int .i64 w, .int .i64 h, .int .i64 mx, .slice a n c]] W (TilePost w h mx zs 0 0 w h (List.replicate h.toNat 0) (List.replicate w.toNat 0) 0 W) := by
  obtain ⟨B, hB⟩ : ∃ B, W.heap.size = B := ⟨_, rfl⟩
  have HS := hid hs
  have HI0 := hid (St.init hB)
  clear hs
  go_enter Try.func42, Try.ntmps42
  go_upto_region 1 with fail
  have H1 := hid (show St B W [.cells (B + 1) #[.int .i64 0, .int .i64 0, .int .i64 0, .slice none 0 0] 26, .cells B #[.int .i64 w, .int .i64 h, .int .i64 mx, .slice a n c] 26] [] ((W.alloc (.cells #[.int .i64 w, .int .i64 h, .int .i64 mx, .slice a n c] 26)).alloc (.cells #[.int .i64 0, .int .i64 0, .int .i64 0, .slice none 0 0] 26)) from ((HI0.out.alloc #[.int .i64 w, .int .i64 h, .int .i64 mx, .slice a n c] 26 hB).alloc #[.int .i64 0, .int .i64 0, .int .i64 0, .slice none 0 0] 26 (by first | exact hB | simp [hB])))
  first | refine gen_code H1.out ?_ | refine gen_list H1.out ?_ | refine gen_calls H1.out ?_
  intro w2 hG
  clear H1
  have H1 := hid hG
  clear hG
  have z3 := H1.out.cell 1 rfl 0 rfl
  have z4 := H1.out.cell 1 rfl 1 rfl
  have z5 := H1.out.cell 1 rfl 2 rfl
  have z6 := H1.out.cell 1 rfl 3 rfl
  go_wp2_with fail
  clear z3 z4 z5 z6
  refine (qchecked_any _ _ _ _ _ _ _ _ (H1.out.old HS.out)).mono ?_
  rintro e w7 ⟨rfl, hb⟩
  have H8 := hid (H1.out.call hb)
  clear hb
  have HKC := hid (show kCode w h mx zs ≠ 0 → tCode w h mx zs 0 0 w h (List.replicate h.toNat 0) (List.replicate w.toNat 0) 0 = kCode w h mx zs from fun hk => tCode_of_k hk)
  have HKV := hid (show kCode w h mx zs = 0 → pValid w h mx zs = true ∧ iOk w h mx = true from fun hk => valid_of_k hk)
  have HKM := hid (show pValid w h mx zs = true → iOk w h mx = true → kVal w h mx zs = w * h * mx from fun hv hi => by simp [kVal, iVal, hv, hi])
  obtain ⟨kc, hkc⟩ : ∃ k, kCode w h mx zs = k := ⟨_, rfl⟩
  obtain ⟨kv, hkv⟩ : ∃ k, kVal w h mx zs = k := ⟨_, rfl⟩
  rw [hkc] at HKC HKV ⊢
  rw [hkv] at HKM ⊢
  clear hkc hkv
  by_cases hk0 : kc = 0
  · skip
    subst hk0
    obtain ⟨hv, hio⟩ := HKV.out rfl
    have hm := HKM.out hv hio
    subst hm
    have HV := hid hv
    have HIO := hid (iOk_iff.1 hio)
    have HIK := hid hio
    obtain ⟨p1, p2, p3, p4, p5, p6, p7⟩ := pOk_iff.1 (pValid_iff.1 hv).1
    clear HKC HKV HKM hio
    obtain ⟨most, hmost⟩ : ∃ m, w * h * mx = m := ⟨_, rfl⟩
    have HMO := hid hmost
    rw [hmost]
    obtain ⟨nh, hnh⟩ : ∃ m : Nat, h = m := ⟨h.toNat, by omega⟩
    obtain ⟨nw, hnw⟩ : ∃ m : Nat, w = m := ⟨w.toNat, by omega⟩
    have HNH := hid hnh
    have HNW := hid hnw
    have hn1 : 1 ≤ nh ∧ nh ≤ 128 ∧ h ≤ nh ∧ nh ≤ h := by omega
    have hn2 : 1 ≤ nw ∧ nw ≤ 128 ∧ w ≤ nw ∧ nw ≤ w := by omega
    obtain ⟨nh1, nh2, nh3, nh4⟩ := hn1
    obtain ⟨nw1, nw2, nw3, nw4⟩ := hn2
    have m2 : 1 ≤ most := by
      rw [← hmost]
      have e1 := Int.mul_le_mul (a := 1) (b := 1) (c := w) (d := h) (by omega) (by omega) (by omega) (by omega)
      have e2 := Int.mul_le_mul (a := 1) (b := 1) (c := w * h) (d := mx) (by omega) (by omega) (by omega) (by omega)
      omega
    have m3 : most ≤ 4294967296 := by rw [← hmost]; exact HIO.out.2.2.2.2
    obtain ⟨NN, hNN⟩ : ∃ N : Nat, nh * nw = N := ⟨_, rfl⟩
    have n1 : 1 ≤ NN := by rw [← hNN]; exact Nat.mul_pos (by omega) (by omega)
    have hNT : w * h = (NN : Int) := by rw [← hNN, hnw, hnh, Int.mul_comm]; simp
    have n2 : NN ≤ 4096 := by omega
    have HN := hid (show (n : Int) = NN from by rw [← hNT, ← (pValid_iff.1 hv).2.1, HS.out.len])
    have hNP : pOk w h most = true := pOk_iff.2 ⟨by omega, by omega, by omega, by omega, by omega, m2, m3⟩
    have HNP := hid hNP
    have HNI := hid (show ∀ x, nIf w h most x = x from fun x => by unfold nIf; rw [if_pos hNP])
    have HNL := hid (show nList w h most = List.replicate NN 0 from by unfold nList; rw [if_pos hNP, hNT]; rfl)
    have HNN := hid hNN
    clear hNN hNT hNP hnh hnw hmost hv
    have z9 := H8.out.cell 1 rfl 0 rfl
    have z10 := H8.out.cell 1 rfl 1 rfl
    have z11 := H8.out.cell 1 rfl 2 rfl
    have z12 := H8.out.cell 1 rfl 3 rfl
    go_wp2_with fail
    clear z9 z10 z11 z12
    refine (qnew_any _ _ _ _).mono ?_
    rintro e w13 ⟨v14, rfl, ho, hb⟩
    have H15 := hid (H8.out.grow hb ho)
    obtain ⟨v14a, v14c, rfl, _⟩ := ho.slc
    clear ho hb
    have hnl := HNL.out
    rw [hnl] at H15 ⊢
    simp only [List.length_replicate] at H15 ⊢
    rw [HNI.out, HNI.out, HNI.out, HNP.out]
    clear hnl
    obtain ⟨g0, g1, hg0⟩ := (H15.out.own 0 rfl).pos (by rw [List.length_replicate]; omega)
    simp only [List.length_replicate] at hg0
    injection hg0 with e1 e2 e3
    subst e1
    clear e2 e3
    obtain ⟨D16, hD16⟩ : ∃ D, w13.heap.size = D := ⟨_, rfl⟩
    go_upto_region 5 with fail
    have H17 := hid (show St B W [.cells D16 #[.int .i64 w, .int .i64 h, .int .i64 most, .slice (some ⟨g0, 0, none⟩) NN v14c] 26, .own (.slice (some ⟨g0, 0, none⟩) NN v14c) (List.replicate NN 0), .cells (B + 1) #[.int .i64 0, .int .i64 0, .int .i64 0, .slice none 0 0] 26, .cells B #[.int .i64 w, .int .i64 h, .int .i64 mx, .slice a n c] 26] [] (w13.alloc (.cells #[.int .i64 w, .int .i64 h, .int .i64 most, .slice (some ⟨g0, 0, none⟩) NN v14c] 26)) from (H15.out.alloc #[.int .i64 w, .int .i64 h, .int .i64 most, .slice (some ⟨g0, 0, none⟩) NN v14c] 26 hD16))
    first | refine gen_code H17.out ?_ | refine gen_list H17.out ?_ | refine gen_calls H17.out ?_
    intro w18 hG
    clear H17
    have H17 := hid hG
    clear hG
    clear hD16
    go_wp2_with fail
    obtain ⟨f, hf⟩ : ∃ f : Nat → Nat → Int, (fun k j => rowsS w zs 0 0 (k + 1) (j + 1)) = f := ⟨_, rfl⟩
    have HFV := hid (show ∀ k j, rowsS w zs 0 0 k (j + 1) + rowS w zs 0 0 k (j + 1) = f k j from fun k j => by rw [← hf]; rfl)
    have HFB := hid (show ∀ k j, k < nh → j < nw → 0 ≤ f k j ∧ f k j ≤ most from fun k j h1 h2 => by rw [← hf, ← HMO.out]; exact whole_in HV.out (by omega) (by omega))
    have HF := hid hf
    clear hf
    go_loopw [8] (fun i wr => ∃ k : Nat, k ≤ nh ∧ i = .int .i64 k ∧ St B W [.own (.slice (some ⟨g0, 0, none⟩) NN v14c) (fillL f nw k 0 NN), .cells D16 #[.int .i64 w, .int .i64 h, .int .i64 most, .slice (some ⟨g0, 0, none⟩) NN v14c] 26, .cells (B + 1) #[.int .i64 0, .int .i64 0, .int .i64 0, .slice none 0 0] 26, .cells B #[.int .i64 w, .int .i64 h, .int .i64 mx, .slice a n c] 26] [] wr) (fun i _ => nh - (intOf i).toNat)
    case atStart => exact ⟨0, by omega, rfl, by rw [fillL_zero]; exact H17.out.pick [1, 0, 2, 3] rfl (by decide)⟩
    case round =>
      obtain ⟨k, hk, rfl, hst⟩ := hrel
      obtain ⟨u19, rfl⟩ : ∃ u19 : World, u19 = wr := ⟨_, rfl⟩
      have H20 := hid hst
      clear hst
      by_cases hkn : k < nh
      · skip
        have hkn' : (k : Int) < h := by omega
        have z21 := H20.out.cell 3 rfl 0 rfl
        have z22 := H20.out.cell 3 rfl 1 rfl
        have z23 := H20.out.cell 3 rfl 2 rfl
        have z24 := H20.out.cell 3 rfl 3 rfl
        go_wp2_with fail
        clear z21 z22 z23 z24
        go_loopw [10, 9] (fun i s wr => ∃ j : Nat, j ≤ nw ∧ i = .int .i64 j ∧ s = .int .i64 (rowS w zs 0 0 k j) ∧ St B W [.own (.slice (some ⟨g0, 0, none⟩) NN v14c) (fillL f nw k j NN), .cells D16 #[.int .i64 w, .int .i64 h, .int .i64 most, .slice (some ⟨g0, 0, none⟩) NN v14c] 26, .cells (B + 1) #[.int .i64 0, .int .i64 0, .int .i64 0, .slice none 0 0] 26, .cells B #[.int .i64 w, .int .i64 h, .int .i64 mx, .slice a n c] 26] [] wr) (fun i _ _ => nw - (intOf i).toNat)
        case atStart => exact ⟨0, by omega, rfl, rfl, H20.out⟩
        case round =>
          obtain ⟨j, hj, rfl, rfl, hst⟩ := hrel
          obtain ⟨u25, rfl⟩ : ∃ u25 : World, u25 = wr := ⟨_, rfl⟩
          have H26 := hid hst
          clear hst
          obtain ⟨R21, R22⟩ := rowS_bd HV.out 0 0 k (j := j) (by omega)
          have HRS0 := hid (show rowS w zs 0 0 k (j + 1) = rowS w zs 0 0 k j + tPix w zs 0 0 k j from rfl)
          obtain ⟨R2, hR2⟩ : ∃ z, rowS w zs 0 0 k j = z := ⟨_, rfl⟩
          rw [hR2] at R21 R22 HRS0 ⊢
          have HR2 := hid hR2
          clear hR2
          by_cases hjn : j < nw
          · skip
            have hjn' : (j : Int) < w := by omega
            obtain ⟨pz1, pz2⟩ := tPix_bd HV.out 0 0 k j
            obtain ⟨KN, hKN⟩ : ∃ K : Nat, k * nw = K := ⟨_, rfl⟩
            have HKN := hid hKN
            have hKM : (k : Int) * w = (KN : Int) := by rw [HNW.out, ← hKN]; simp
            have kn1 : KN + j < NN := by
              have e1 : (k + 1) * nw ≤ nh * nw := Nat.mul_le_mul_right _ (by omega)
              rw [HNN.out, Nat.add_mul, Nat.one_mul, hKN] at e1
              omega
            have kn2 : (KN : Int) + (j : Int) < NN := by omega
            have hnn : (n : Int) ≤ NN ∧ (NN : Int) ≤ n := by have := HN.out; omega
            obtain ⟨hnn1, hnn2⟩ := hnn
            have w0 : IntKind.i64.wrap (KN : Int) = KN := IntWalk.i64_in _ (by omega)
            obtain ⟨pbk, po, hpa⟩ := row_at (H26.out.old HS.out).row (by omega)
            have cz := row_cell (by rw [← hpa]; exact (H26.out.old HS.out).row) (j := KN + j) (by omega)
            have HPZ0 := hid (show tPix w zs 0 0 k j = zs.getD (KN + j) 0 from by unfold tPix; rw [Int.zero_add, hKM]; congr 1 <;> omega)
            rw [← HPZ0.out] at cz
            rw [hpa] at HS
            subst hpa
            clear hKN
            obtain ⟨pz, hpz⟩ : ∃ z, tPix w zs 0 0 k j = z := ⟨_, rfl⟩
            rw [hpz] at cz pz1 pz2 HRS0
            have HPZ := hid hpz
            clear hpz
            have nk1 : k * nw + j < NN := by rw [HKN.out]; exact kn1
            obtain ⟨s1, s2⟩ := H26.out.get 0 rfl (j := KN + j) (by rw [fillL_len (by omega)]; omega)
            have z27 := H26.out.cell 3 rfl 0 rfl
            have z28 := H26.out.cell 3 rfl 1 rfl
            have z29 := H26.out.cell 3 rfl 2 rfl
            have z30 := H26.out.cell 3 rfl 3 rfl
            have z31 := H26.out.cell 1 rfl 0 rfl
            have z32 := H26.out.cell 1 rfl 1 rfl
            have z33 := H26.out.cell 1 rfl 2 rfl
            have z34 := H26.out.cell 1 rfl 3 rfl
            go_upto_region 14 with fail
            clear z27 z28 z29 z30 z31 z32 z33 z34
            have H35 := hid (show St B W [.own (.slice (some ⟨g0, 0, none⟩) NN v14c) ((fillL f nw k j NN).set (KN + j) (R2 + pz)), .cells D16 #[.int .i64 w, .int .i64 h, .int .i64 most, .slice (some ⟨g0, 0, none⟩) NN v14c] 26, .cells (B + 1) #[.int .i64 0, .int .i64 0, .int .i64 0, .slice none 0 0] 26, .cells B #[.int .i64 w, .int .i64 h, .int .i64 mx, .slice (some ⟨pbk, po, none⟩) n c] 26] [] (u25.setCell ⟨g0, (KN + j), none⟩ (.int .i64 (R2 + pz))) from (H26.out.store 0 rfl (KN + j) (R2 + pz)))
            first | refine gen_code H35.out ?_ | refine gen_list H35.out ?_ | refine gen_calls H35.out ?_
            intro w36 hG
            clear H35
            have H35 := hid hG
            clear hG
            clear s1 s2 cz
            by_cases hk0 : 0 < k
            · skip
              have hk0' : (0 : Int) < k := by omega
              go_upto_region 15 with fail
              refine wp_region_still_tail 23 (by kernel_rfl) (by kernel_rfl) ?_
              change wpStill _ _ (w36.drewN 1) (fun a' => wpList _ _ _ _ a' (w36.drewN 1)) _ _
              have H37 := hid (H35.out.drewN 1)
              generalize w36.drewN 1 = k38 at *
              have z39 := H37.out.cell 1 rfl 0 rfl
              have z40 := H37.out.cell 1 rfl 1 rfl
              have z41 := H37.out.cell 1 rfl 2 rfl
              have z42 := H37.out.cell 1 rfl 3 rfl
              have z43 := H37.out.cell 3 rfl 0 rfl
              have z44 := H37.out.cell 3 rfl 1 rfl
              have z45 := H37.out.cell 3 rfl 2 rfl
              have z46 := H37.out.cell 3 rfl 3 rfl
              obtain ⟨KP, hKP⟩ : ∃ K : Nat, (k - 1) * nw = K := ⟨_, rfl⟩
              have kp1 : KP + nw = KN := by
                rw [← hKP, ← HKN.out]
                obtain ⟨m, hm⟩ : ∃ m, k = m + 1 := ⟨k - 1, by omega⟩
                rw [hm, Nat.add_sub_cancel, Nat.add_mul, Nat.one_mul]
              have hKQ : ((k : Int) - 1) * w = (KP : Int) := by rw [Int.sub_mul, Int.one_mul, hKM]; omega
              obtain ⟨t1, t2⟩ := H37.out.get 0 rfl (j := KN + j) (by rw [List.length_set, fillL_len (by omega)]; omega)
              obtain ⟨t3, t4⟩ := H37.out.get 0 rfl (j := KP + j) (by rw [List.length_set, fillL_len (by omega)]; omega)
              have e5 : ((fillL f nw k j NN).set (KN + j) (R2 + pz)).getD (KN + j) 0 = R2 + pz := by rw [List.getD_eq_getElem?_getD, List.getElem?_set_self (by rw [fillL_len (by omega)]; omega)]; rfl
              have e6 : ((fillL f nw k j NN).set (KN + j) (R2 + pz)).getD (KP + j) 0 = f (k - 1) j := by
                rw [List.getD_eq_getElem?_getD, List.getElem?_set_ne (by omega), ← List.getD_eq_getElem?_getD, ← hKP]
                exact fillL_get (f := f) (wd := nw) (k := k) (j := j) (N := NN) (a := k - 1) (b := j) (by omega) (by omega) (.inl (by omega))
              rw [e5] at t1
              rw [e6] at t3
              obtain ⟨fp1, fp2⟩ := HFB.out (k - 1) j (by omega) (by omega)
              have hfk := HFV.out k j
              have hfp := HFV.out (k - 1) j
              have e7 : rowsS w zs 0 0 k (j + 1) = f (k - 1) j := by
                rw [← hfp]
                obtain ⟨m, hm⟩ : ∃ m, k = m + 1 := ⟨k - 1, by omega⟩
                rw [hm, Nat.add_sub_cancel]
                rfl
              have HNX := hid (show ((fillL f nw k j NN).set (KN + j) (R2 + pz)).set (KN + j) (R2 + pz + f (k - 1) j) = fillL f nw k (j + 1) NN from by
                rw [List.set_set, ← HKN.out, ← fillL_next (by omega), ← hfk, e7, HRS0.out, Int.add_comm])
              clear e5 e6 e7 hfk hfp hKP
              obtain ⟨fp, hfq⟩ : ∃ z, f (k - 1) j = z := ⟨_, rfl⟩
              rw [hfq] at t3 fp1 fp2 HNX
              clear hfq
              have w1 : IntKind.i64.wrap ((k : Int) - 1) = (k : Int) - 1 := IntWalk.i64_in _ (by omega)
              have w2 : IntKind.i64.wrap (KP : Int) = KP := IntWalk.i64_in _ (by omega)
              have w3 : IntKind.i64.wrap ((KN : Int) + (j : Int)) = (KN : Int) + j := IntWalk.i64_in _ (by omega)
              have w4 : IntKind.i64.wrap ((KP : Int) + (j : Int)) = (KP : Int) + j := IntWalk.i64_in _ (by omega)
              have w5 : IntKind.i64.wrap (R2 + pz + fp) = R2 + pz + fp := IntWalk.i64_in _ (by omega)
              have v1 : 0 ≤ (KN : Int) + (j : Int) := by omega
              have v2 : 0 ≤ (KP : Int) + (j : Int) := by omega
              have v3 : (KP : Int) + (j : Int) < NN := by omega
              have v4 : ((KN : Int) + (j : Int)).toNat = KN + j := by omega
              have v5 : ((KP : Int) + (j : Int)).toNat = KP + j := by omega
              simp only [List.take_succ_cons, List.take_zero, List.drop_succ_cons, List.drop_zero]
              iterate 23 still_step
              refine wpStill_nil ?_
              go_upto_region 11 with fail
              have H47 := hid (show St B W [.own (.slice (some ⟨g0, 0, none⟩) NN v14c) (((fillL f nw k j NN).set (KN + j) (R2 + pz)).set (KN + j) (R2 + pz + fp)), .cells D16 #[.int .i64 w, .int .i64 h, .int .i64 most, .slice (some ⟨g0, 0, none⟩) NN v14c] 26, .cells (B + 1) #[.int .i64 0, .int .i64 0, .int .i64 0, .slice none 0 0] 26, .cells B #[.int .i64 w, .int .i64 h, .int .i64 mx, .slice (some ⟨pbk, po, none⟩) n c] 26] [] (k38.setCell ⟨g0, (KN + j), none⟩ (.int .i64 (R2 + pz + fp))) from (H37.out.store 0 rfl (KN + j) (R2 + pz + fp)))
              first | refine gen_code H47.out ?_ | refine gen_list H47.out ?_ | refine gen_calls H47.out ?_
              intro w48 hG
              clear H47
              have H47 := hid hG
              clear hG
              go_wp2_with fail
              go_roundw
              case rel => exact ⟨j + 1, by omega, by go_num, by rw [HRS0.out], by rw [← HNX.out]; exact H47.out⟩
              case measure => simp [intOf]; omega
            · skip
              have hk0' : ¬ ((0 : Int) < k) := by omega
              have HNX := hid (show (fillL f nw k j NN).set (KN + j) (R2 + pz) = fillL f nw k (j + 1) NN from by
                rw [← HKN.out, ← fillL_next (by omega), ← HFV.out k j, ← HRS0.out]
                congr 1
                have e : k = 0 := by omega
                subst e
                exact (Int.zero_add _).symm)
              go_wp2_with fail
              go_roundw
              case rel => exact ⟨j + 1, by omega, by go_num, by rw [HRS0.out], by rw [← HNX.out]; exact H35.out⟩
              case measure => simp [intOf]; omega
          · skip
            have hjn' : ¬ ((j : Int) < w) := by omega
            have HJ := hid (show j = nw by omega)
            have z49 := H26.out.cell 3 rfl 0 rfl
            have z50 := H26.out.cell 3 rfl 1 rfl
            have z51 := H26.out.cell 3 rfl 2 rfl
            have z52 := H26.out.cell 3 rfl 3 rfl
            go_wp2_with fail
            clear z49 z50 z51 z52
            go_roundw
            case rel => exact ⟨k + 1, by omega, by go_num, by rw [← fillL_row]; have e := HJ.out; subst e; exact H26.out⟩
            case measure => simp [intOf]; omega
      · skip
        have hkn' : ¬ ((k : Int) < h) := by omega
        have HKL := hid (show k = nh by omega)
        have z53 := H20.out.cell 3 rfl 0 rfl
        have z54 := H20.out.cell 3 rfl 1 rfl
        have z55 := H20.out.cell 3 rfl 2 rfl
        have z56 := H20.out.cell 3 rfl 3 rfl
        have z57 := H20.out.cell 1 rfl 0 rfl
        have z58 := H20.out.cell 1 rfl 1 rfl
        have z59 := H20.out.cell 1 rfl 2 rfl
        have z60 := H20.out.cell 1 rfl 3 rfl
        have z61 := H20.out.cell 2 rfl 0 rfl
        have z62 := H20.out.free 2 rfl 0
        have z63 := H20.out.cell 2 rfl 1 rfl
        have z64 := H20.out.free 2 rfl 1
        have z65 := H20.out.cell 2 rfl 2 rfl
        have z66 := H20.out.free 2 rfl 2
        have z67 := H20.out.cell 2 rfl 3 rfl
        have z68 := H20.out.free 2 rfl 3
        go_wp2_with fail
        clear z53 z54 z55 z56 z57 z58 z59 z60 z61 z62 z63 z64 z65 z66 z67 z68
        have H69 := hid (show St B W [.own (.slice (some ⟨g0, 0, none⟩) NN v14c) (fillL f nw k 0 NN), .cells D16 #[.int .i64 w, .int .i64 h, .int .i64 most, .slice (some ⟨g0, 0, none⟩) NN v14c] 26, .cells (B + 1) #[.int .i64 w, .int .i64 h, .int .i64 most, .slice (some ⟨g0, 0, none⟩) NN v14c] 26, .cells B #[.int .i64 w, .int .i64 h, .int .i64 mx, .slice a n c] 26] [] ((((u19.setCell ⟨B + 1, 0, none⟩ (.int .i64 w)).setCell ⟨B + 1, 1, none⟩ (.int .i64 h)).setCell ⟨B + 1, 2, none⟩ (.int .i64 most)).setCell ⟨B + 1, 3, none⟩ (.slice (some ⟨g0, 0, none⟩) NN v14c)) from (H20.out.set4 2 rfl (.int .i64 w) (.int .i64 h) (.int .i64 most) (.slice (some ⟨g0, 0, none⟩) NN v14c)))
        have e1 : h.toNat = nh := by omega
        have e2 : w.toNat = nw := by omega
        have HC0 := hid (whole_code HV.out HIK.out nh nw HNH.out HNW.out)
        rw [e1, e2]
        have HTI := hid (show ∀ x, tIf w h mx zs 0 0 w h (List.replicate nh 0) (List.replicate nw 0) 0 x = x from fun x => by unfold tIf; rw [if_pos HC0.out])
        have HTLL := hid (show tList w h mx zs 0 0 w h (List.replicate nh 0) (List.replicate nw 0) 0 = fillL f nw k 0 NN from by unfold tList; rw [if_pos HC0.out, whole_all HV.out nh nw HNH.out HNW.out, HF.out, ← HNN.out, ← HKL.out, fillL_all])
        have q70 := H69.out.cell 2 rfl 0 rfl
        have q71 := H69.out.cell 2 rfl 1 rfl
        have q72 := H69.out.cell 2 rfl 2 rfl
        have q73 := H69.out.cell 2 rfl 3 rfl
        refine bodyPost_ret (v := .tuple #[.agg #[.int .i64 w, .int .i64 h, .int .i64 most, .slice (some ⟨g0, 0, none⟩) NN v14c], .int .i64 0]) ?_ rfl ⟨_, by rw [HTI.out, HTI.out, HTI.out, HC0.out, HMO.out, Int.sub_zero, Int.sub_zero], by rw [HTLL.out, hB]; exact H69.out.own 0 rfl, by first | exact H69.out.below | exact H69.out.below'⟩
        simp [results, Try.results42, go_sem, q70, q71, q72, q73]
  · skip
    have hk1 : (kc == 0) = false := by simpa using hk0
    have hk2 : (kc != 0) = true := by simpa using hk0
    have HC := hid (HKC.out hk0)
    have hk3 := hid hk0
    clear hk0
    have z74 := H8.out.cell 0 rfl 0 rfl
    have z75 := H8.out.free 0 rfl 0
    have z76 := H8.out.cell 0 rfl 1 rfl
    have z77 := H8.out.free 0 rfl 1
    have z78 := H8.out.cell 0 rfl 2 rfl
    have z79 := H8.out.free 0 rfl 2
    have z80 := H8.out.cell 0 rfl 3 rfl
    have z81 := H8.out.free 0 rfl 3
    go_wp2_with fail
    clear z74 z75 z76 z77 z78 z79 z80 z81
    have H82 := hid (show St B W [.cells (B + 1) #[.int .i64 0, .int .i64 0, .int .i64 0, .slice none 0 0] 26, .cells B #[.int .i64 w, .int .i64 h, .int .i64 mx, .slice a n c] 26] [] ((((w7.setCell ⟨B + 1, 0, none⟩ (.int .i64 0)).setCell ⟨B + 1, 1, none⟩ (.int .i64 0)).setCell ⟨B + 1, 2, none⟩ (.int .i64 0)).setCell ⟨B + 1, 3, none⟩ (.slice none 0 0)) from (H8.out.set4 0 rfl (.int .i64 0) (.int .i64 0) (.int .i64 0) (.slice none 0 0)))
    have q83 := H82.out.cell 0 rfl 0 rfl
    have q84 := H82.out.cell 0 rfl 1 rfl
    have q85 := H82.out.cell 0 rfl 2 rfl
    have q86 := H82.out.cell 0 rfl 3 rfl
    refine bodyPost_ret (v := .tuple #[.agg #[.int .i64 0, .int .i64 0, .int .i64 0, .slice none 0 0], .int .i64 kc]) ?_ rfl (tile_no (HC.out) (hk3.out) (by first | exact H82.out.below | exact H82.out.below'))
    simp [results, Try.results42, go_sem, q83, q84, q85, q86]
end Go.Proofs.Ytoojiabdgaflgaa
