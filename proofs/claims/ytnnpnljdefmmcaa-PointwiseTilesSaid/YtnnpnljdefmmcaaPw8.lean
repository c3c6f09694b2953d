/-
  Contracts: the value of a program, in the program.
-/
import Derived.Test.YtnnpnljdefmmcaaPw7
namespace Go.Proofs.Ytnnpnljdefmmcaa
open Go.RowKit
attribute [local go_sem ↓] Go.wp_at_zero Go.wp_at_succ
set_option linter.unusedVariables false
set_option linter.unusedSimpArgs false

theorem stk_take {α : Type} {st L : List α} {K T : Nat} (hL : L = st.reverse) (hT : T + K = st.length) (v : α) : L.take T ++ [v] = (v :: st.drop K).reverse := by
  rw [hL, List.take_reverse, List.reverse_cons, show st.length - T = K by omega]
theorem stk_get {α : Type} {st L : List α} {K T : Nat} (d : α) (hL : L = st.reverse) (h1 : 1 ≤ K) (hT : T + K = st.length) : L.getD T d = st.getD (K - 1) d := by
  rw [hL, List.getD_eq_getElem?_getD, List.getD_eq_getElem?_getD, List.getElem?_reverse (by omega), show st.length - 1 - T = K - 1 by omega]
def accL (st : List Int) : Prop := ∀ i, accOk (st.getD i 0) = true
theorem accL_nil : accL [] := fun i => by simp [accOk]
theorem accL_cons {v : Int} {st : List Int} (hv : accOk v = true) (h : accL st) (k : Nat) : accL (v :: st.drop k) := fun i => by
  cases i with
  | zero => exact hv
  | succ i =>
    have := h (k + i)
    rw [List.getD_eq_getElem?_getD] at this ⊢
    simpa [List.getElem?_drop] using this
theorem eGo_rec (o : Int × Int) (l : List (Int × Int)) (st : List Int) (a b : Int) : eGo (o :: l) st a b = if accOk (pwVal o.1 o.2 (st.getD (pwK o.1 - 1) 0) (st.getD 0 0) a b) = true then eGo l (pwVal o.1 o.2 (st.getD (pwK o.1 - 1) 0) (st.getD 0 0) a b :: st.drop (pwK o.1)) a b else (0, 11) := rfl
theorem eGo_step {oc og u v w : Int} {l0 l : List (Int × Int)} {st : List Int} {R : Int × Int} (h : eGo l0 st u v = R) (hd : l0 = (oc, og) :: l) (hp : pwVal oc og (st.getD (pwK oc - 1) 0) (st.getD 0 0) u v = w) (ha : accOk w = true) : eGo l (w :: st.drop (pwK oc)) u v = R := by
  subst hd
  rw [eGo_rec] at h
  dsimp only at h
  rw [hp, if_pos ha] at h
  exact h
theorem eGo_stop {oc og u v w : Int} {l0 l : List (Int × Int)} {st : List Int} {R : Int × Int} (h : eGo l0 st u v = R) (hd : l0 = (oc, og) :: l) (hp : pwVal oc og (st.getD (pwK oc - 1) 0) (st.getD 0 0) u v = w) (ha : accOk w = false) : R = (0, 11) := by
  subst hd
  rw [eGo_rec] at h
  dsimp only at h
  rw [hp, if_neg (by rw [ha]; simp)] at h
  exact h.symm
theorem vGo_step {d k : Nat} {l : List (Int × Int)} (h : vGo l true (d + 1 - k) = 0) (hk : k ≤ d) {m : Nat} (hm : m + k = d + 1) : vGo l true m = 0 := by
  rw [← h]; congr 1; omega
theorem vGo_last {st : List Int} (h : vGo [] true st.length = 0) : st.length = 1 := by
  unfold vGo at h
  split at h
  · assumption
  · omega
theorem pwVal_hi {c : Int} (h : 3 ≤ c) (g x y a b : Int) : pwVal c g x y a b = pwVal c g x y 0 0 := pwVal_src (by omega) g x y a b 0 0
theorem acc_pix {a : Int} (h : pixOk a = true) : accOk a = true := by rw [pixOk_iff] at h; rw [accOk_iff]; omega
theorem acc_arg {g : Int} (h : pwArg 2 g = true) : accOk g = true := by
  have : -4294967296 ≤ g ∧ g ≤ 4294967296 := by simpa [pwArg] using h
  rw [accOk_iff]; omega

set_option maxRecDepth 100000 in
set_option maxHeartbeats 6400000 in
theorem prun_any (a : Option Addr) (n c : Nat) (zs : List (Int × Int)) (u v : Int) (W : World) (hs : Prs W a n c zs) (hv : vCode zs true = 0) (hu : pixOk u = true) (hw : pixOk v = true) : Calls Try.prog 74 #[.slice a n c, .int .i64 u, .int .i64 v] W fun e w' => e = .returned (.tuple #[.int .i64 (eGo zs [] u v).1, .int .i64 (eGo zs [] u v).2]) ∧ Below W.heap.size W w' := by
  obtain ⟨B, hB⟩ : ∃ B, W.heap.size = B := ⟨_, rfl⟩
  have HI0 := hid (St.init hB)
  have HS := hid hs
  have HL := hid hs.len
  have nmx : (n : Int) ≤ 9223372036854775807 := by have := hs.nc; have := hs.cap; omega
  clear hs
  have HV := hid hv
  have HU := hid hu
  have HW := hid hw
  obtain ⟨n1, n2⟩ : 1 ≤ n ∧ n ≤ 32 := by have := vCode_zero.1 hv; have := HL.out; omega
  clear hv hu hw
  go_enter Try.func74, Try.ntmps74
  obtain ⟨D3, hD3⟩ : ∃ D, W.heap.size = D := ⟨_, rfl⟩
  have hBD : B ≤ D3 := by have := HI0.out.size; omega
  go_upto_region 2 with (at_make; refine make_cap rfl _ _ rfl D3 _ 32 rfl rfl (by rfl) (by omega) (by omega) ?_; intro w76 ho hb; rw [hD3] at ho ⊢; have H77 := hid (HI0.out.grow hb (by rw [hD3]; exact ho)); clear ho hb)
  clear hD3 hBD
  go_wp2_with fail
  go_loopw [19, 8] (fun i s wr => ∃ (j : Nat) (st L : List Int) (g sc : Nat), j ≤ n ∧ i = .int .i64 j ∧ s = .slice (some ⟨g, 0, none⟩) L.length sc ∧ L = st.reverse ∧ vGo (zs.drop j) true st.length = 0 ∧ eGo (zs.drop j) st u v = eGo zs [] u v ∧ st.length ≤ j ∧ accL st ∧ St B W [.own (.slice (some ⟨g, 0, none⟩) L.length sc) L] [] wr) (fun i _ _ => n - (intOf i).toNat)
  case atStart => exact ⟨0, [], [], D3, 32, by omega, rfl, rfl, rfl, (vCode_zero.1 HV.out).2.2, rfl, by simp, accL_nil, H77.out⟩
  case round =>
    obtain ⟨j, st, L, g, sc, hj, rfl, rfl, hls, hvg, hg, hsl, ha, hst⟩ := hrel
    obtain ⟨u78, rfl⟩ : ∃ u78 : World, u78 = wr := ⟨_, rfl⟩
    have H79 := hid hst
    clear hst
    have HLS := hid hls
    have HVG := hid hvg
    have HG := hid hg
    have HA := hid ha
    obtain ⟨ll1, ll2⟩ : L.length ≤ st.length ∧ st.length ≤ L.length := by rw [hls]; simp
    clear hls hvg hg ha
    by_cases hjn : j < n
    · skip
      have hjn' : (j : Int) < n := by omega
      obtain ⟨pb, po, hpa⟩ := (H79.out.oldPrs HS.out).at (by omega)
      subst hpa
      obtain ⟨cz0, cz1⟩ := (H79.out.oldPrs HS.out).get (i := j) hjn
      obtain ⟨oc, og, hoo⟩ : ∃ x y, zs.getD j (0, 0) = (x, y) := ⟨_, _, rfl⟩
      have HD := hid (drop_one (by rw [← HL.out]; exact hjn) hoo)
      rw [hoo] at cz0 cz1
      dsimp only at cz0 cz1
      clear hoo
      obtain ⟨oc0, oc11, hoA, hoK, hoG, hoV⟩ : 0 ≤ oc ∧ oc ≤ 11 ∧ (oc = 1 → true = true) ∧ pwK oc ≤ st.length ∧ pwArg oc og = true ∧ vGo (zs.drop (j + 1)) true (st.length + 1 - pwK oc) = 0 := vGo_cons (by rw [← HD.out]; exact HVG.out)
      have HARG := hid hoG
      have HVR := hid hoV
      have HKL := hid hoK
      clear hoA hoK hoG hoV
      obtain ⟨D80, hD80⟩ : ∃ D, u78.heap.size = D := ⟨_, rfl⟩
      go_upto_region 5 with fail
      have H81 := hid (show St B W [.cells D80 #[.int .i64 oc, .int .i64 og] 60, .own (.slice (some ⟨g, 0, none⟩) L.length sc) L] [] (u78.alloc (.cells #[.int .i64 oc, .int .i64 og] 60)) from (H79.out.alloc #[.int .i64 oc, .int .i64 og] 60 hD80))
      first | refine gen_code H81.out ?_ | refine gen_list H81.out ?_ | refine gen_calls H81.out ?_
      intro w82 hG
      clear H81
      have H81 := hid hG
      clear hG
      clear hD80
      by_cases c83 : (oc : Int) = 0
      · obtain ⟨c83c, c83d⟩ : (oc : Int) ≤ 0 ∧ (0 : Int) ≤ oc := by omega
        have c83a : ((oc : Int) == (0)) = true := by simpa using c83
        have c83b : ((oc : Int) != (0)) = false := by simpa using c83
        have c83h := hid c83
        clear c83
        have HK0 := hid (show pwK oc = 0 from pwK_0 (by have := c83h.out; omega))
        have hoe : oc = 0 := by have := c83h.out; omega
        have HPV := hid (show pwVal oc og (st.getD (pwK oc - 1) 0) (st.getD 0 0) u v = u from by rw [hoe]; rfl)
        have HPA := hid (show accOk u = true from (acc_pix HU.out))
        clear hoe
        obtain ⟨D84, hD84⟩ : ∃ D, w82.heap.size = D := ⟨_, rfl⟩
        have H85 := hid (show St B W [.cells D84 #[.int .i64 u] 3, .cells D80 #[.int .i64 oc, .int .i64 og] 60, .own (.slice (some ⟨g, 0, none⟩) L.length sc) L] [] (w82.alloc (.cells #[.int .i64 u] 3)) from (H81.out.alloc #[.int .i64 u] 3 hD84))
        have z90 := H81.out.cell 0 rfl 0 rfl
        have z91 := H81.out.cell 0 rfl 1 rfl
        go_upto_region 18 with (at_builtin; refine append_int rfl _ _ rfl B _ L u D84 1 rfl rfl (H85.out.own 2 rfl) (H85.out.cell 0 rfl 0 rfl) (by first | (rw [List.length_take]; omega) | omega) H85.out.size ?_; intro v88 w89 ho hg hv; have H86 := hid (H85.out.append 2 rfl ho hg hv); clear ho hg hv)
        clear z90 z91
        clear H85
        obtain ⟨v88a, v88c, hva, _⟩ := (H86.out.own 2 rfl).slc
        subst hva
        have H87 := hid (show St B W [.cells D80 #[.int .i64 oc, .int .i64 og] 60, .own (.slice v88a ((L ++ [u]).length) v88c) (L ++ [u])] [] w89 from H86.out.pick [1, 2] rfl (by decide))
        clear hD84
        go_wp2_with fail
        obtain ⟨g9, c9, hgg⟩ := (H87.out.own 1 rfl).pos (by simp)
        injection hgg with hga hgb hgc
        subst hga
        clear hgb hgc
        go_roundw
        case rel => exact ⟨j + 1, u :: st.drop (pwK oc), L ++ [u], g9, v88c, by omega, by go_num, rfl, by rw [HLS.out, HK0.out]; simp, vGo_step HVR.out HKL.out (by simp only [List.length_cons, List.length_drop]; have := HKL.out; omega), eGo_step HG.out HD.out HPV.out HPA.out, by simp only [List.length_cons, List.length_drop]; have := HKL.out; omega, accL_cons HPA.out HA.out _, H87.out.pick [1] rfl (by decide)⟩
        case measure => first | (simp [intOf]; omega) | (simp [intOf]; done)
      · have c83a : ((oc : Int) == (0)) = false := by simpa using c83
        have c83b : ((oc : Int) != (0)) = true := by simpa using c83
        have c83h := hid c83
        clear c83
        by_cases c92 : (oc : Int) = 1
        · obtain ⟨c92c, c92d⟩ : (oc : Int) ≤ 1 ∧ (1 : Int) ≤ oc := by omega
          have c92a : ((oc : Int) == (1)) = true := by simpa using c92
          have c92b : ((oc : Int) != (1)) = false := by simpa using c92
          have c92h := hid c92
          clear c92
          have HK0 := hid (show pwK oc = 0 from pwK_0 (by have := c83h.out; have := c92h.out; omega))
          have hoe : oc = 1 := by have := c83h.out; have := c92h.out; omega
          have HPV := hid (show pwVal oc og (st.getD (pwK oc - 1) 0) (st.getD 0 0) u v = v from by rw [hoe]; rfl)
          have HPA := hid (show accOk v = true from (acc_pix HW.out))
          clear hoe
          obtain ⟨D93, hD93⟩ : ∃ D, w82.heap.size = D := ⟨_, rfl⟩
          have H94 := hid (show St B W [.cells D93 #[.int .i64 v] 3, .cells D80 #[.int .i64 oc, .int .i64 og] 60, .own (.slice (some ⟨g, 0, none⟩) L.length sc) L] [] (w82.alloc (.cells #[.int .i64 v] 3)) from (H81.out.alloc #[.int .i64 v] 3 hD93))
          have z99 := H81.out.cell 0 rfl 0 rfl
          have z100 := H81.out.cell 0 rfl 1 rfl
          go_upto_region 18 with (at_builtin; refine append_int rfl _ _ rfl B _ L v D93 1 rfl rfl (H94.out.own 2 rfl) (H94.out.cell 0 rfl 0 rfl) (by first | (rw [List.length_take]; omega) | omega) H94.out.size ?_; intro v97 w98 ho hg hv; have H95 := hid (H94.out.append 2 rfl ho hg hv); clear ho hg hv)
          clear z99 z100
          clear H94
          obtain ⟨v97a, v97c, hva, _⟩ := (H95.out.own 2 rfl).slc
          subst hva
          have H96 := hid (show St B W [.cells D80 #[.int .i64 oc, .int .i64 og] 60, .own (.slice v97a ((L ++ [v]).length) v97c) (L ++ [v])] [] w98 from H95.out.pick [1, 2] rfl (by decide))
          clear hD93
          go_wp2_with fail
          obtain ⟨g9, c9, hgg⟩ := (H96.out.own 1 rfl).pos (by simp)
          injection hgg with hga hgb hgc
          subst hga
          clear hgb hgc
          go_roundw
          case rel => exact ⟨j + 1, v :: st.drop (pwK oc), L ++ [v], g9, v97c, by omega, by go_num, rfl, by rw [HLS.out, HK0.out]; simp, vGo_step HVR.out HKL.out (by simp only [List.length_cons, List.length_drop]; have := HKL.out; omega), eGo_step HG.out HD.out HPV.out HPA.out, by simp only [List.length_cons, List.length_drop]; have := HKL.out; omega, accL_cons HPA.out HA.out _, H96.out.pick [1] rfl (by decide)⟩
          case measure => first | (simp [intOf]; omega) | (simp [intOf]; done)
        · have c92a : ((oc : Int) == (1)) = false := by simpa using c92
          have c92b : ((oc : Int) != (1)) = true := by simpa using c92
          have c92h := hid c92
          clear c92
          by_cases c101 : (oc : Int) = 2
          · obtain ⟨c101c, c101d⟩ : (oc : Int) ≤ 2 ∧ (2 : Int) ≤ oc := by omega
            have c101a : ((oc : Int) == (2)) = true := by simpa using c101
            have c101b : ((oc : Int) != (2)) = false := by simpa using c101
            have c101h := hid c101
            clear c101
            have HK0 := hid (show pwK oc = 0 from pwK_0 (by have := c83h.out; have := c92h.out; have := c101h.out; omega))
            have hoe : oc = 2 := by have := c83h.out; have := c92h.out; have := c101h.out; omega
            have HPV := hid (show pwVal oc og (st.getD (pwK oc - 1) 0) (st.getD 0 0) u v = og from by rw [hoe]; rfl)
            have HPA := hid (show accOk og = true from (acc_arg (by have := HARG.out; rwa [show oc = 2 from by have := c83h.out; have := c92h.out; have := c101h.out;  omega] at this)))
            clear hoe
            obtain ⟨D102, hD102⟩ : ∃ D, w82.heap.size = D := ⟨_, rfl⟩
            have H103 := hid (show St B W [.cells D102 #[.int .i64 og] 3, .cells D80 #[.int .i64 oc, .int .i64 og] 60, .own (.slice (some ⟨g, 0, none⟩) L.length sc) L] [] (w82.alloc (.cells #[.int .i64 og] 3)) from (H81.out.alloc #[.int .i64 og] 3 hD102))
            have z108 := H81.out.cell 0 rfl 0 rfl
            have z109 := H81.out.cell 0 rfl 1 rfl
            go_upto_region 18 with (at_builtin; refine append_int rfl _ _ rfl B _ L og D102 1 rfl rfl (H103.out.own 2 rfl) (H103.out.cell 0 rfl 0 rfl) (by first | (rw [List.length_take]; omega) | omega) H103.out.size ?_; intro v106 w107 ho hg hv; have H104 := hid (H103.out.append 2 rfl ho hg hv); clear ho hg hv)
            clear z108 z109
            clear H103
            obtain ⟨v106a, v106c, hva, _⟩ := (H104.out.own 2 rfl).slc
            subst hva
            have H105 := hid (show St B W [.cells D80 #[.int .i64 oc, .int .i64 og] 60, .own (.slice v106a ((L ++ [og]).length) v106c) (L ++ [og])] [] w107 from H104.out.pick [1, 2] rfl (by decide))
            clear hD102
            go_wp2_with fail
            obtain ⟨g9, c9, hgg⟩ := (H105.out.own 1 rfl).pos (by simp)
            injection hgg with hga hgb hgc
            subst hga
            clear hgb hgc
            go_roundw
            case rel => exact ⟨j + 1, og :: st.drop (pwK oc), L ++ [og], g9, v106c, by omega, by go_num, rfl, by rw [HLS.out, HK0.out]; simp, vGo_step HVR.out HKL.out (by simp only [List.length_cons, List.length_drop]; have := HKL.out; omega), eGo_step HG.out HD.out HPV.out HPA.out, by simp only [List.length_cons, List.length_drop]; have := HKL.out; omega, accL_cons HPA.out HA.out _, H105.out.pick [1] rfl (by decide)⟩
            case measure => first | (simp [intOf]; omega) | (simp [intOf]; done)
          · have c101a : ((oc : Int) == (2)) = false := by simpa using c101
            have c101b : ((oc : Int) != (2)) = true := by simpa using c101
            have c101h := hid c101
            clear c101
            have z110 := H81.out.cell 0 rfl 0 rfl
            have z111 := H81.out.cell 0 rfl 1 rfl
            go_wp2_with fail
            clear z110 z111
            refine (ptakes_any _ _).mono ?_
            rintro e w112 ⟨rfl, hsw⟩
            have hsw2 : w82 = w112 := by first | exact hsw | exact hsw.symm
            clear hsw
            subst hsw2
            have hb : pwIs oc = true := by simp [pwIs]; omega
            rw [hb, if_pos rfl]
            obtain ⟨k113, hk113⟩ : ∃ xx' : Int, (pwK oc : Int) = xx' := ⟨_, rfl⟩
            rw [hk113]
            have HK := hid hk113.symm
            have hc3 : 3 ≤ oc := by have := c83h.out; have := c92h.out; have := c101h.out; omega
            have hkl := pwK_le oc
            have hkl2 : 1 ≤ pwK oc := by unfold pwK; rw [if_neg (by omega)]; split <;> omega
            obtain ⟨kn1, kn2⟩ : 1 ≤ k113 ∧ k113 ≤ 2 := by omega
            obtain ⟨T, hT⟩ : ∃ T : Nat, (L.length : Int) - k113 = T := ⟨L.length - pwK oc, by have := HKL.out; omega⟩
            obtain ⟨T1, hT1⟩ : ∃ T1 : Nat, (L.length : Int) - 1 = T1 := ⟨L.length - 1, by have := HKL.out; omega⟩
            have HTK := hid (show T + pwK oc = st.length from by have := HKL.out; omega)
            have HTL := hid (show T < L.length ∧ T1 < L.length ∧ T1 + 1 = st.length from by have := HKL.out; omega)
            clear hkl hkl2 hk113 hb
            go_upto_region 14 with fail
            obtain ⟨x, hx⟩ : ∃ x, L.getD T 0 = x := ⟨_, rfl⟩
            obtain ⟨y, hy⟩ : ∃ y, L.getD T1 0 = y := ⟨_, rfl⟩
            have HX := hid hx
            have HY := hid hy
            have hxs : st.getD (pwK oc - 1) 0 = x := by rw [← hx]; exact (stk_get 0 HLS.out (by unfold pwK; rw [if_neg (by omega)]; split <;> omega) HTK.out).symm
            have hys : st.getD 0 0 = y := by rw [← hy]; exact (stk_get (K := 1) 0 HLS.out (by omega) HTL.out.2.2).symm
            have HXS := hid hxs
            have HYS := hid hys
            have hxa : accOk x = true := by rw [← hxs]; exact HA.out _
            have hya : accOk y = true := by rw [← hys]; exact HA.out _
            have HXA := hid hxa
            have HYA := hid hya
            clear hx hy hxs hys hxa hya
            obtain ⟨t1, t2, t3, t4⟩ : 0 ≤ (T : Int) ∧ (T : Int) < L.length ∧ 0 ≤ (T1 : Int) ∧ (T1 : Int) < L.length := by have := HTL.out; omega
            have t5 : IntKind.i64.wrap (T1 : Int) = T1 := IntWalk.i64_in _ (by omega)
            have H114 := hid H81.out.drew
            refine wp_region_held_drew (S := (fun w' => w'.cell? ⟨D80, 0, none⟩ = some (.int .i64 oc) ∧ w'.cell? ⟨D80, 1, none⟩ = some (.int .i64 og) ∧ w'.cell? ⟨g, T, none⟩ = some (.int .i64 x) ∧ w'.cell? ⟨g, T1, none⟩ = some (.int .i64 y))) (by kernel_rfl) ⟨H114.out.cell 0 rfl 0 rfl, H114.out.cell 0 rfl 1 rfl, (by have := (H114.out.get 1 rfl (j := T) HTL.out.1).1; rw [HX.out] at this; exact this), (by have := (H114.out.get 1 rfl (j := T1) HTL.out.2.1).1; rw [HY.out] at this; exact this)⟩ (fun hHeld => ?_)
            generalize w82.drew = k115 at *
            refine tkA 0 ?_
            try simp only [Act.put, p1, p2, p3, p4, p5, p6]
            refine tkA 1 ?_
            try simp only [Act.put, p1, p2, p3, p4, p5, p6]
            refine tkA 2 ?_
            try simp only [Act.put, p1, p2, p3, p4, p5, p6]
            refine tkA 3 ?_
            try simp only [Act.put, p1, p2, p3, p4, p5, p6]
            refine tkA 4 ?_
            try simp only [Act.put, p1, p2, p3, p4, p5, p6]
            refine tkA 5 ?_
            try simp only [Act.put, p1, p2, p3, p4, p5, p6]
            refine tkA 6 ?_
            try simp only [Act.put, p1, p2, p3, p4, p5, p6]
            refine tkA 7 ?_
            try simp only [Act.put, p1, p2, p3, p4, p5, p6]
            refine tkA 8 ?_
            try simp only [Act.put, p1, p2, p3, p4, p5, p6]
            refine tkA 9 ?_
            try simp only [Act.put, p1, p2, p3, p4, p5, p6]
            refine tkA 10 ?_
            try simp only [Act.put, p1, p2, p3, p4, p5, p6]
            refine wpAnyH_ready (rs := [11]) (by kernel_rfl) (by simp) (AllReadyH.cons (o := _) rfl (fun K hK => ?_) AllReadyH.nil)
            go_simp
            go_at_call 122
            refine (pvalue_any _ _ _ _ _ ⟨hc3, oc11⟩ HXA.out HYA.out).mono ?_
            rintro e w117 ⟨⟨v9, rfl, hv9⟩, hb⟩
            have H118 := hid (H114.out.call hb)
            clear hb
            obtain ⟨b119, hb119⟩ : ∃ xx', accOk (pwVal oc og x y 0 0) = xx' := ⟨_, rfl⟩
            rw [hb119] at hv9 ⊢
            have HNb119 := hid hb119
            clear hb119
            have HV9 := hid hv9
            clear hv9
            refine hK.out _ _ ?_ (fun hHeld2 => ?_)
            focus ((try dsimp only); (exact ⟨H118.out.cell 0 rfl 0 rfl, H118.out.cell 0 rfl 1 rfl, (by have := (H118.out.get 1 rfl (j := T) HTL.out.1).1; rw [HX.out] at this; exact this), (by have := (H118.out.get 1 rfl (j := T1) HTL.out.2.1).1; rw [HY.out] at this; exact this)⟩))
            clear hK K
            try simp only [Act.put, p1, p2, p3, p4, p5, p6]
            clear hHeld
            have hHeld := hHeld2
            clear hHeld2
            refine tkA 12 ?_
            try simp only [Act.put, p1, p2, p3, p4, p5, p6]
            refine tkA 13 ?_
            try simp only [Act.put, p1, p2, p3, p4, p5, p6]
            refine tkA 14 ?_
            try simp only [Act.put, p1, p2, p3, p4, p5, p6]
            refine tkA 15 ?_
            try simp only [Act.put, p1, p2, p3, p4, p5, p6]
            refine tkA 16 ?_
            try simp only [Act.put, p1, p2, p3, p4, p5, p6]
            refine wpAnyH_done (by kernel_rfl) ?_ _
            try clear hHeld
            clear t1 t2 t3 t4 t5
            cases b119 with
            | true =>
              have hv9 : v9 = pwVal oc og x y 0 0 := by first | exact HV9.out rfl | exact HV9.out trivial
              have HPA := hid (show accOk v9 = true from by rw [hv9]; exact HNb119.out)
              have HPV := hid (show pwVal oc og (st.getD (pwK oc - 1) 0) (st.getD 0 0) u v = v9 from by rw [HXS.out, HYS.out, pwVal_hi hc3, hv9])
              clear hv9
              obtain ⟨t1, t2⟩ : (T : Int) ≤ L.length ∧ (L.length : Int) ≤ sc := by have := HTL.out; have := (H118.out.slc 1 rfl).nc; omega
              have t3 : (T : Int) ≤ sc := by omega
              have H120 := hid (H118.out.takeOwn 1 rfl (k := T) (by have := HTL.out; omega))
              obtain ⟨D121, hD121⟩ : ∃ D, w117.heap.size = D := ⟨_, rfl⟩
              have H122 := hid (show St B W [.cells D121 #[.int .i64 v9] 3, .cells D80 #[.int .i64 oc, .int .i64 og] 60, .own (.slice (some ⟨g, 0, none⟩) T sc) (L.take T)] [] (w117.alloc (.cells #[.int .i64 v9] 3)) from (H120.out.alloc #[.int .i64 v9] 3 hD121))
              go_upto_region 18 with (at_builtin; refine append_int rfl _ _ rfl B _ (L.take T) v9 D121 1 rfl rfl (H122.out.own 2 rfl) (H122.out.cell 0 rfl 0 rfl) (by first | (rw [List.length_take]; omega) | omega) H122.out.size ?_; intro v125 w126 ho hg hv; have H123 := hid (H122.out.append 2 rfl ho hg hv); clear ho hg hv)
              clear H122
              obtain ⟨v125a, v125c, hva, _⟩ := (H123.out.own 2 rfl).slc
              subst hva
              have H124 := hid (show St B W [.cells D80 #[.int .i64 oc, .int .i64 og] 60, .own (.slice v125a (((L.take T) ++ [v9]).length) v125c) ((L.take T) ++ [v9])] [] w126 from H123.out.pick [1, 2] rfl (by decide))
              clear hD121
              go_wp2_with fail
              obtain ⟨g9, c9, hgg⟩ := (H124.out.own 1 rfl).pos (by simp)
              injection hgg with hga hgb hgc
              subst hga
              clear hgb hgc
              go_roundw
              case rel => exact ⟨j + 1, v9 :: st.drop (pwK oc), (L.take T) ++ [v9], g9, v125c, by omega, by go_num, rfl, stk_take HLS.out HTK.out _, vGo_step HVR.out HKL.out (by simp only [List.length_cons, List.length_drop]; have := HKL.out; omega), eGo_step HG.out HD.out HPV.out HPA.out, by simp only [List.length_cons, List.length_drop]; have := HKL.out; omega, accL_cons HPA.out HA.out _, H124.out.pick [1] rfl (by decide)⟩
              case measure => first | (simp [intOf]; omega) | (simp [intOf]; done)
            | false =>
              go_wp2_with fail
              go_ret2
              exact ⟨by rw [eGo_stop HG.out HD.out (w := pwVal oc og x y 0 0) (by rw [HXS.out, HYS.out, pwVal_hi hc3]) HNb119.out]; rfl, by first | exact H118.out.below | exact H118.out.below'⟩
    · skip
      have hjn' : ¬ ((j : Int) < n) := by omega
      have HE := hid (show zs.drop j = [] from List.drop_eq_nil_of_le (by have := HL.out; omega))
      have hs1 : st.length = 1 := vGo_last (by rw [← HE.out]; exact HVG.out)
      obtain ⟨q1, q2⟩ : 1 ≤ L.length ∧ L.length ≤ 1 := by omega
      obtain ⟨z, hz⟩ : ∃ z, L.getD 0 0 = z := ⟨_, rfl⟩
      have HZ := hid (show eGo zs [] u v = (z, 0) from by rw [← HG.out, HE.out]; unfold eGo; rw [← hz, stk_get (K := 1) 0 HLS.out (by omega) (by omega), List.headD_eq_head?_getD, List.getD_eq_getElem?_getD, List.head?_eq_getElem?])
      have zz := (H79.out.get 0 rfl (j := 0) (by omega)).1
      rw [hz] at zz
      clear hs1 hz
      go_wp2_with fail
      go_ret2
      exact ⟨by rw [HZ.out]; rfl, by first | exact H79.out.below | exact H79.out.below'⟩
end Go.Proofs.Ytnnpnljdefmmcaa
