/-
  The walk of PointwiseOrderless: some operations do not depend on the order of the sources.
-/
import Derived.Test.YtnnpnljdefmmcaaSane14
import Derived.Test.YtnnpnljdefmmcaaPwMake
namespace Go.Proofs.Ytnnpnljdefmmcaa
open Go.RowKit
attribute [local go_sem ↓] Go.wp_at_zero Go.wp_at_succ
set_option linter.unusedVariables false
set_option linter.unusedSimpArgs false

/-- Operations that do not depend on the order. -/
def ordV (c u v : Int) : Int := pwVal c 0 u v 0 0
theorem ord_ev {c u v : Int} (h : 3 ≤ c ∧ c ≤ 9) (hu : 0 ≤ u ∧ u ≤ 2097151) (hv : 0 ≤ v ∧ v ≤ 2097151) : evR [(0, 0), (1, 0), (c, 0)] u v = (ordV c u v, 0) := by
  have hp : accOk (ordV c u v) = true := by
    have hm : 0 ≤ u * v ∧ u * v ≤ 2097151 * 2097151 := ⟨Int.mul_nonneg hu.1 hv.1, Int.mul_le_mul hu.2 hv.2 hv.1 (by decide)⟩
    have m5 := mnI_or u v
    have m6 := mxI_or u v
    have h1 := fdiv_bd u v
    have h2 := absI_bd (x := u) (c := 2097151) (by omega)
    have h3 := absI_bd (x := u - v) (c := 2097151) (by omega)
    rw [accOk_iff]
    rcases codes (c := c) (by omega) (by omega) with rfl | rfl | rfl | rfl | rfl | rfl | rfl | rfl | rfl | rfl | rfl | rfl
    · omega
    · omega
    · omega
    · show _ ≤ u + v ∧ u + v ≤ _; omega
    · show _ ≤ u - v ∧ u - v ≤ _; omega
    · show _ ≤ u * v ∧ u * v ≤ _; omega
    · show _ ≤ mnI u v ∧ mnI u v ≤ _; omega
    · show _ ≤ mxI u v ∧ mxI u v ≤ _; omega
    · show _ ≤ absI (u - v) ∧ absI (u - v) ≤ _; omega
    · show _ ≤ Int.fdiv u v ∧ Int.fdiv u v ≤ _; omega
    · omega
    · omega
  rw [evR_two ((OpsM.two h).code (by omega)) (by omega) (by omega), eGo_cons, if_pos (by rw [accOk_iff]; show _ ≤ u ∧ u ≤ _; omega), eGo_cons, if_pos (by rw [accOk_iff]; show _ ≤ v ∧ v ≤ _; omega), eGo_cons]
  have e : pwK c = 2 := pwK_2 h.1 h.2
  simp only [e]
  refine (if_pos (show accOk (pwVal c 0 u v u v) = true from ?_)).trans ?_
  · rw [pwVal_hi h.1]; exact hp
  · show (pwVal c 0 u v u v, (0 : Int)) = _; rw [pwVal_hi h.1]; rfl
theorem ord_comm {c : Int} (h : c = 3 ∨ c = 5 ∨ c = 6 ∨ c = 7 ∨ c = 8) (u v : Int) : ordV c v u = ordV c u v := by
  rcases h with rfl | rfl | rfl | rfl | rfl
  · exact Int.add_comm _ _
  · exact Int.mul_comm _ _
  · show mnI v u = mnI u v; unfold mnI; split <;> split <;> omega
  · show mxI v u = mxI u v; unfold mxI; split <;> split <;> omega
  · show absI (v - u) = absI (u - v); unfold absI; split <;> split <;> omega
theorem ord_div {u v : Int} (hu : 0 ≤ u ∧ u ≤ 2097151) (hv : 0 ≤ v ∧ v ≤ 2097151) : (v = 0 → ordV 9 u v = 0) ∧ 0 ≤ ordV 9 u v ∧ ordV 9 u v ≤ 2097151 ∧ (0 < v → 0 ≤ ordV 9 u v * v ∧ ordV 9 u v * v ≤ u ∧ u < (ordV 9 u v + 1) * v ∧ (ordV 9 u v + 1) * v ≤ 4194304) := by
  have e : ordV 9 u v = u / v := by show Int.fdiv u v = u / v; exact Int.fdiv_eq_ediv_of_nonneg _ hv.1
  rw [e]
  have h1 := Int.ediv_nonneg hu.1 hv.1
  have h2 := Int.ediv_le_self v hu.1
  refine ⟨fun h => by rw [h]; simp, h1, by omega, fun h => ?_⟩
  have h3 := Int.mul_ediv_add_emod u v
  have h4 := Int.emod_nonneg u (b := v) (by omega)
  have h5 := Int.emod_lt_of_pos u h
  rw [Int.mul_comm] at h3
  rw [Int.add_mul, Int.one_mul]
  have := Int.mul_nonneg h1 hv.1
  omega

set_option maxRecDepth 100000 in
set_option maxHeartbeats 12800000 in
theorem walk_PointwiseOrderless (a b : Int) (W : World) (_ : I64 a) (_ : I64 b) :
    Calls Try.prog 9 #[.int .i64 a, .int .i64 b] W fun e w' => e = .returned (.bool true) ∧ Below W.heap.size W w' := by
  obtain ⟨B, hB⟩ : ∃ B, W.heap.size = B := ⟨_, rfl⟩
  have HI0 := hid (St.init hB)
  go_enter Try.func9, Try.ntmps9
  go_wp2_with fail
  refine (mod_any _ _ _ (by omega) (by omega)).mono ?_
  rintro e w1 ⟨rfl, hsw⟩
  have hsw2 : W = w1 := by first | exact hsw | exact hsw.symm
  clear hsw
  subst hsw2
  obtain ⟨md2, hmd2⟩ : ∃ xx', a % 2097152 = xx' := ⟨_, rfl⟩
  rw [hmd2]
  obtain ⟨md2a, md2b⟩ : 0 ≤ md2 ∧ md2 < 2097152 := by rw [← hmd2]; exact ⟨Int.emod_nonneg _ (by omega), Int.emod_lt_of_pos _ (by omega)⟩
  clear hmd2
  go_wp2_with fail
  refine (mod_any _ _ _ (by omega) (by omega)).mono ?_
  rintro e w3 ⟨rfl, hsw⟩
  have hsw2 : W = w3 := by first | exact hsw | exact hsw.symm
  clear hsw
  subst hsw2
  obtain ⟨md4, hmd4⟩ : ∃ xx', b % 2097152 = xx' := ⟨_, rfl⟩
  rw [hmd4]
  obtain ⟨md4a, md4b⟩ : 0 ≤ md4 ∧ md4 < 2097152 := by rw [← hmd4]; exact ⟨Int.emod_nonneg _ (by omega), Int.emod_lt_of_pos _ (by omega)⟩
  clear hmd4
  go_wp2_with fail
  have H5 := hid (show St B W [.cells B #[.int .i64 3, .int .i64 5, .int .i64 6, .int .i64 7, .int .i64 8] 3] [] (W.alloc (.cells #[.int .i64 3, .int .i64 5, .int .i64 6, .int .i64 7, .int .i64 8] 3)) from (HI0.out.alloc #[.int .i64 3, .int .i64 5, .int .i64 6, .int .i64 7, .int .i64 8] 3 hB))
  first | refine gen_code H5.out ?_ | refine gen_list H5.out ?_ | refine gen_calls H5.out ?_
  intro w6 hG
  clear H5
  have H5 := hid hG
  clear hG
  go_loopw [23] (fun i wr => ∃ k : Int, 0 ≤ k ∧ k ≤ 5 ∧ i = .int .i64 k ∧ St B W [.cells B #[.int .i64 3, .int .i64 5, .int .i64 6, .int .i64 7, .int .i64 8] 3] [] wr) (fun i _ => 5 - (intOf i).toNat)
  case atStart => exact ⟨0, by omega, by omega, rfl, H5.out⟩
  case round =>
    obtain ⟨k, hk1, hk2, rfl, hst⟩ := hrel
    obtain ⟨u7, rfl⟩ : ∃ u7 : World, u7 = wr := ⟨_, rfl⟩
    have H8 := hid hst
    clear hst
    rcases (show k = 0 ∨ k = 1 ∨ k = 2 ∨ k = 3 ∨ k = 4 ∨ k = 5 by omega) with rfl | rfl | rfl | rfl | rfl | rfl
    · skip
      clear hk1 hk2
      obtain ⟨D9, hD9⟩ : ∃ D, u7.heap.size = D := ⟨_, rfl⟩
      have z10 := H8.out.cell 0 rfl 0 rfl
      have z11 := H8.out.cell 0 rfl 1 rfl
      have z12 := H8.out.cell 0 rfl 2 rfl
      have z13 := H8.out.cell 0 rfl 3 rfl
      have z14 := H8.out.cell 0 rfl 4 rfl
      go_upto_region 6 with fail
      clear z10 z11 z12 z13 z14
      have H15 := hid (show St B W [.cells D9 #[.int .i64 0, .int .i64 0, .int .i64 1, .int .i64 0, .int .i64 3, .int .i64 0] 60, .cells B #[.int .i64 3, .int .i64 5, .int .i64 6, .int .i64 7, .int .i64 8] 3] [] (u7.alloc (.cells #[.int .i64 0, .int .i64 0, .int .i64 1, .int .i64 0, .int .i64 3, .int .i64 0] 60)) from (H8.out.alloc #[.int .i64 0, .int .i64 0, .int .i64 1, .int .i64 0, .int .i64 3, .int .i64 0] 60 hD9))
      first | refine gen_code H15.out ?_ | refine gen_list H15.out ?_ | refine gen_calls H15.out ?_
      intro w16 hG
      clear H15
      have H15 := hid hG
      clear hG
      clear hD9
      go_wp2_with fail
      refine (peval_any _ _ _ [(0, 0), (1, 0), (3, 0)] _ _ _ (H15.out.litPrs 0 [(0, 0), (1, 0), (3, 0)] rfl (by decide))).mono ?_
      rintro e w17 ⟨rfl, hb⟩
      have H18 := hid (H15.out.call hb)
      clear hb
      rw [ord_ev (c := 3) (by omega) (by omega) (by omega)]
      obtain ⟨r19, hr19⟩ : ∃ xx', ordV 3 md2 md4 = xx' := ⟨_, rfl⟩
      rw [hr19]
      have HNr19 := hid hr19
      clear hr19
      go_wp2_with fail
      refine (peval_any _ _ _ [(0, 0), (1, 0), (3, 0)] _ _ _ (H18.out.litPrs 0 [(0, 0), (1, 0), (3, 0)] rfl (by decide))).mono ?_
      rintro e w20 ⟨rfl, hb⟩
      have H21 := hid (H18.out.call hb)
      clear hb
      rw [ord_ev (c := 3) (by omega) (by omega) (by omega)]
      rw [ord_comm (c := 3) (by omega)]
      rw [HNr19.out]
      go_wp2_with fail
      go_roundw
      case rel => exact ⟨1, by omega, by omega, by go_num, H21.out.pick [1] rfl (by decide)⟩
      case measure => first | (simp [intOf]; omega) | (simp [intOf]; done)
    · skip
      clear hk1 hk2
      obtain ⟨D22, hD22⟩ : ∃ D, u7.heap.size = D := ⟨_, rfl⟩
      have z23 := H8.out.cell 0 rfl 0 rfl
      have z24 := H8.out.cell 0 rfl 1 rfl
      have z25 := H8.out.cell 0 rfl 2 rfl
      have z26 := H8.out.cell 0 rfl 3 rfl
      have z27 := H8.out.cell 0 rfl 4 rfl
      go_upto_region 6 with fail
      clear z23 z24 z25 z26 z27
      have H28 := hid (show St B W [.cells D22 #[.int .i64 0, .int .i64 0, .int .i64 1, .int .i64 0, .int .i64 5, .int .i64 0] 60, .cells B #[.int .i64 3, .int .i64 5, .int .i64 6, .int .i64 7, .int .i64 8] 3] [] (u7.alloc (.cells #[.int .i64 0, .int .i64 0, .int .i64 1, .int .i64 0, .int .i64 5, .int .i64 0] 60)) from (H8.out.alloc #[.int .i64 0, .int .i64 0, .int .i64 1, .int .i64 0, .int .i64 5, .int .i64 0] 60 hD22))
      first | refine gen_code H28.out ?_ | refine gen_list H28.out ?_ | refine gen_calls H28.out ?_
      intro w29 hG
      clear H28
      have H28 := hid hG
      clear hG
      clear hD22
      go_wp2_with fail
      refine (peval_any _ _ _ [(0, 0), (1, 0), (5, 0)] _ _ _ (H28.out.litPrs 0 [(0, 0), (1, 0), (5, 0)] rfl (by decide))).mono ?_
      rintro e w30 ⟨rfl, hb⟩
      have H31 := hid (H28.out.call hb)
      clear hb
      rw [ord_ev (c := 5) (by omega) (by omega) (by omega)]
      obtain ⟨r32, hr32⟩ : ∃ xx', ordV 5 md2 md4 = xx' := ⟨_, rfl⟩
      rw [hr32]
      have HNr32 := hid hr32
      clear hr32
      go_wp2_with fail
      refine (peval_any _ _ _ [(0, 0), (1, 0), (5, 0)] _ _ _ (H31.out.litPrs 0 [(0, 0), (1, 0), (5, 0)] rfl (by decide))).mono ?_
      rintro e w33 ⟨rfl, hb⟩
      have H34 := hid (H31.out.call hb)
      clear hb
      rw [ord_ev (c := 5) (by omega) (by omega) (by omega)]
      rw [ord_comm (c := 5) (by omega)]
      rw [HNr32.out]
      go_wp2_with fail
      go_roundw
      case rel => exact ⟨2, by omega, by omega, by go_num, H34.out.pick [1] rfl (by decide)⟩
      case measure => first | (simp [intOf]; omega) | (simp [intOf]; done)
    · skip
      clear hk1 hk2
      obtain ⟨D35, hD35⟩ : ∃ D, u7.heap.size = D := ⟨_, rfl⟩
      have z36 := H8.out.cell 0 rfl 0 rfl
      have z37 := H8.out.cell 0 rfl 1 rfl
      have z38 := H8.out.cell 0 rfl 2 rfl
      have z39 := H8.out.cell 0 rfl 3 rfl
      have z40 := H8.out.cell 0 rfl 4 rfl
      go_upto_region 6 with fail
      clear z36 z37 z38 z39 z40
      have H41 := hid (show St B W [.cells D35 #[.int .i64 0, .int .i64 0, .int .i64 1, .int .i64 0, .int .i64 6, .int .i64 0] 60, .cells B #[.int .i64 3, .int .i64 5, .int .i64 6, .int .i64 7, .int .i64 8] 3] [] (u7.alloc (.cells #[.int .i64 0, .int .i64 0, .int .i64 1, .int .i64 0, .int .i64 6, .int .i64 0] 60)) from (H8.out.alloc #[.int .i64 0, .int .i64 0, .int .i64 1, .int .i64 0, .int .i64 6, .int .i64 0] 60 hD35))
      first | refine gen_code H41.out ?_ | refine gen_list H41.out ?_ | refine gen_calls H41.out ?_
      intro w42 hG
      clear H41
      have H41 := hid hG
      clear hG
      clear hD35
      go_wp2_with fail
      refine (peval_any _ _ _ [(0, 0), (1, 0), (6, 0)] _ _ _ (H41.out.litPrs 0 [(0, 0), (1, 0), (6, 0)] rfl (by decide))).mono ?_
      rintro e w43 ⟨rfl, hb⟩
      have H44 := hid (H41.out.call hb)
      clear hb
      rw [ord_ev (c := 6) (by omega) (by omega) (by omega)]
      obtain ⟨r45, hr45⟩ : ∃ xx', ordV 6 md2 md4 = xx' := ⟨_, rfl⟩
      rw [hr45]
      have HNr45 := hid hr45
      clear hr45
      go_wp2_with fail
      refine (peval_any _ _ _ [(0, 0), (1, 0), (6, 0)] _ _ _ (H44.out.litPrs 0 [(0, 0), (1, 0), (6, 0)] rfl (by decide))).mono ?_
      rintro e w46 ⟨rfl, hb⟩
      have H47 := hid (H44.out.call hb)
      clear hb
      rw [ord_ev (c := 6) (by omega) (by omega) (by omega)]
      rw [ord_comm (c := 6) (by omega)]
      rw [HNr45.out]
      go_wp2_with fail
      go_roundw
      case rel => exact ⟨3, by omega, by omega, by go_num, H47.out.pick [1] rfl (by decide)⟩
      case measure => first | (simp [intOf]; omega) | (simp [intOf]; done)
    · skip
      clear hk1 hk2
      obtain ⟨D48, hD48⟩ : ∃ D, u7.heap.size = D := ⟨_, rfl⟩
      have z49 := H8.out.cell 0 rfl 0 rfl
      have z50 := H8.out.cell 0 rfl 1 rfl
      have z51 := H8.out.cell 0 rfl 2 rfl
      have z52 := H8.out.cell 0 rfl 3 rfl
      have z53 := H8.out.cell 0 rfl 4 rfl
      go_upto_region 6 with fail
      clear z49 z50 z51 z52 z53
      have H54 := hid (show St B W [.cells D48 #[.int .i64 0, .int .i64 0, .int .i64 1, .int .i64 0, .int .i64 7, .int .i64 0] 60, .cells B #[.int .i64 3, .int .i64 5, .int .i64 6, .int .i64 7, .int .i64 8] 3] [] (u7.alloc (.cells #[.int .i64 0, .int .i64 0, .int .i64 1, .int .i64 0, .int .i64 7, .int .i64 0] 60)) from (H8.out.alloc #[.int .i64 0, .int .i64 0, .int .i64 1, .int .i64 0, .int .i64 7, .int .i64 0] 60 hD48))
      first | refine gen_code H54.out ?_ | refine gen_list H54.out ?_ | refine gen_calls H54.out ?_
      intro w55 hG
      clear H54
      have H54 := hid hG
      clear hG
      clear hD48
      go_wp2_with fail
      refine (peval_any _ _ _ [(0, 0), (1, 0), (7, 0)] _ _ _ (H54.out.litPrs 0 [(0, 0), (1, 0), (7, 0)] rfl (by decide))).mono ?_
      rintro e w56 ⟨rfl, hb⟩
      have H57 := hid (H54.out.call hb)
      clear hb
      rw [ord_ev (c := 7) (by omega) (by omega) (by omega)]
      obtain ⟨r58, hr58⟩ : ∃ xx', ordV 7 md2 md4 = xx' := ⟨_, rfl⟩
      rw [hr58]
      have HNr58 := hid hr58
      clear hr58
      go_wp2_with fail
      refine (peval_any _ _ _ [(0, 0), (1, 0), (7, 0)] _ _ _ (H57.out.litPrs 0 [(0, 0), (1, 0), (7, 0)] rfl (by decide))).mono ?_
      rintro e w59 ⟨rfl, hb⟩
      have H60 := hid (H57.out.call hb)
      clear hb
      rw [ord_ev (c := 7) (by omega) (by omega) (by omega)]
      rw [ord_comm (c := 7) (by omega)]
      rw [HNr58.out]
      go_wp2_with fail
      go_roundw
      case rel => exact ⟨4, by omega, by omega, by go_num, H60.out.pick [1] rfl (by decide)⟩
      case measure => first | (simp [intOf]; omega) | (simp [intOf]; done)
    · skip
      clear hk1 hk2
      obtain ⟨D61, hD61⟩ : ∃ D, u7.heap.size = D := ⟨_, rfl⟩
      have z62 := H8.out.cell 0 rfl 0 rfl
      have z63 := H8.out.cell 0 rfl 1 rfl
      have z64 := H8.out.cell 0 rfl 2 rfl
      have z65 := H8.out.cell 0 rfl 3 rfl
      have z66 := H8.out.cell 0 rfl 4 rfl
      go_upto_region 6 with fail
      clear z62 z63 z64 z65 z66
      have H67 := hid (show St B W [.cells D61 #[.int .i64 0, .int .i64 0, .int .i64 1, .int .i64 0, .int .i64 8, .int .i64 0] 60, .cells B #[.int .i64 3, .int .i64 5, .int .i64 6, .int .i64 7, .int .i64 8] 3] [] (u7.alloc (.cells #[.int .i64 0, .int .i64 0, .int .i64 1, .int .i64 0, .int .i64 8, .int .i64 0] 60)) from (H8.out.alloc #[.int .i64 0, .int .i64 0, .int .i64 1, .int .i64 0, .int .i64 8, .int .i64 0] 60 hD61))
      first | refine gen_code H67.out ?_ | refine gen_list H67.out ?_ | refine gen_calls H67.out ?_
      intro w68 hG
      clear H67
      have H67 := hid hG
      clear hG
      clear hD61
      go_wp2_with fail
      refine (peval_any _ _ _ [(0, 0), (1, 0), (8, 0)] _ _ _ (H67.out.litPrs 0 [(0, 0), (1, 0), (8, 0)] rfl (by decide))).mono ?_
      rintro e w69 ⟨rfl, hb⟩
      have H70 := hid (H67.out.call hb)
      clear hb
      rw [ord_ev (c := 8) (by omega) (by omega) (by omega)]
      obtain ⟨r71, hr71⟩ : ∃ xx', ordV 8 md2 md4 = xx' := ⟨_, rfl⟩
      rw [hr71]
      have HNr71 := hid hr71
      clear hr71
      go_wp2_with fail
      refine (peval_any _ _ _ [(0, 0), (1, 0), (8, 0)] _ _ _ (H70.out.litPrs 0 [(0, 0), (1, 0), (8, 0)] rfl (by decide))).mono ?_
      rintro e w72 ⟨rfl, hb⟩
      have H73 := hid (H70.out.call hb)
      clear hb
      rw [ord_ev (c := 8) (by omega) (by omega) (by omega)]
      rw [ord_comm (c := 8) (by omega)]
      rw [HNr71.out]
      go_wp2_with fail
      go_roundw
      case rel => exact ⟨5, by omega, by omega, by go_num, H73.out.pick [1] rfl (by decide)⟩
      case measure => first | (simp [intOf]; omega) | (simp [intOf]; done)
    · skip
      clear hk1 hk2
      obtain ⟨D74, hD74⟩ : ∃ D, u7.heap.size = D := ⟨_, rfl⟩
      go_upto_region 12 with fail
      have H75 := hid (show St B W [.cells D74 #[.int .i64 0, .int .i64 0, .int .i64 1, .int .i64 0, .int .i64 9, .int .i64 0] 60, .cells B #[.int .i64 3, .int .i64 5, .int .i64 6, .int .i64 7, .int .i64 8] 3] [] (u7.alloc (.cells #[.int .i64 0, .int .i64 0, .int .i64 1, .int .i64 0, .int .i64 9, .int .i64 0] 60)) from (H8.out.alloc #[.int .i64 0, .int .i64 0, .int .i64 1, .int .i64 0, .int .i64 9, .int .i64 0] 60 hD74))
      first | refine gen_code H75.out ?_ | refine gen_list H75.out ?_ | refine gen_calls H75.out ?_
      intro w76 hG
      clear H75
      have H75 := hid hG
      clear hG
      clear hD74
      go_wp2_with fail
      refine (peval_any _ _ _ [(0, 0), (1, 0), (9, 0)] _ _ _ (H75.out.litPrs 0 [(0, 0), (1, 0), (9, 0)] rfl (by decide))).mono ?_
      rintro e w77 ⟨rfl, hb⟩
      have H78 := hid (H75.out.call hb)
      clear hb
      rw [ord_ev (c := 9) (by omega) (by omega) (by omega)]
      obtain ⟨r79, hr79⟩ : ∃ xx', ordV 9 md2 md4 = xx' := ⟨_, rfl⟩
      rw [hr79]
      have HNr79 := hid hr79
      clear hr79
      obtain ⟨d0, d1, d2, d3⟩ := ord_div (u := md2) (v := md4) (by omega) (by omega)
      rw [HNr79.out] at d0 d1 d2 d3
      obtain ⟨P1, hP1⟩ : ∃ z, r79 * md4 = z := ⟨_, rfl⟩
      obtain ⟨P2, hP2⟩ : ∃ z, (r79 + 1) * md4 = z := ⟨_, rfl⟩
      rw [hP1, hP2] at d3
      have HP1 := hid hP1
      have HP2 := hid hP2
      clear hP1 hP2
      go_upto_region 13 with fail
      by_cases hv0 : md4 = 0
      · skip
        have hq0 := d0 hv0
        clear d3 d0 HP1 HP2
        subst hv0
        subst hq0
        go_wp2_with fail
        refine (sane14 _).mono ?_
        rintro e w80 ⟨rfl, hb⟩
        have H81 := hid (H78.out.call hb)
        clear hb
        go_wp2_with fail
        go_ret
        exact ⟨rfl, by first | exact H81.out.below | exact H81.out.below'⟩
      · skip
        obtain ⟨e1, e2, e3, e4⟩ := d3 (by omega)
        clear d3 d0
        have hvb : ((md4 : Int) == 0) = false := by simpa using hv0
        have w1 : IntKind.i64.wrap P1 = P1 := IntWalk.i64_in _ (by omega)
        have w2 : IntKind.i64.wrap P2 = P2 := IntWalk.i64_in _ (by omega)
        have w3 := HP1.out
        have w4 := HP2.out
        have hv2 : 0 < md4 := by omega
        clear hv0
        go_wp2_with fail
        refine (sane14 _).mono ?_
        rintro e w82 ⟨rfl, hb⟩
        have H83 := hid (H78.out.call hb)
        clear hb
        go_wp2_with fail
        go_ret
        exact ⟨rfl, by first | exact H83.out.below | exact H83.out.below'⟩
end Go.Proofs.Ytnnpnljdefmmcaa
