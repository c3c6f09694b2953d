/-
 Contract: the tape's SpoilStage: a stage with one property changed, and its memory.
-/
import Derived.Test.YtlidacfokgdlgaaStage
import Derived.Test.YtlidacfokgdlgaaApp2
import Derived.Test.YtlidacfokgdlgaaKH
namespace Go.Proofs.Ytlidacfokgdlgaa
open Go.RowKit
attribute [local go_sem ↓] Go.wp_at_zero Go.wp_at_succ
set_option linter.unusedVariables false
set_option linter.unusedSimpArgs false

set_option maxRecDepth 100000 in
set_option maxHeartbeats 12800000 in
theorem spoilstage_any {B : Nat} {W w0 : World} {l : List Ch} {rs : List Ro} (k : Nat) (s : Sg) (hlen : s.len 40) (hqx : TQ B rs s.xp) (hqy : TQ B rs s.yp) (hst0 : St B W (s.parts ++ .tape k :: l) rs w0) :
  Calls Try.prog 27 #[.pointer (some ⟨k, 0, none⟩), .agg s.val] w0 (SgPost B W k 60 l) := by
 obtain ⟨kd, sa, sb, bar, ep, ef, kw, kh, wa, wc, wl, ra, rc, rl, ca, cc, cl, sh, sh2, xa, xn, xc, xp, ya, yn, yc, yp, bins, oa, on, oc, ol, mx⟩ := s
 obtain ⟨ln1, ln2, ln3, ln4, ln5, ln6⟩ := hlen
 simp only at ln1 ln2 ln3 ln4 ln5 ln6 hqx hqy
 have HQX := hid hqx
 have HQY := hid hqy
 clear hqx hqy
 have HI0 := hid (show St B W (.arr (68) 2 (.slice xa xn xc) xn (tapV xp) :: .arr (68) 2 (.slice ya yn yc) yn (tapV yp) :: .own (.slice wa wl.length wc) wl :: .own (.slice ra rl.length rc) rl :: .own (.slice ca cl.length cc) cl :: .arr (70) 2 (.slice oa on oc) on (prV ol) :: .tape k :: l) rs w0 from hst0)
 clear hst0
 obtain ⟨A, hA⟩ : ∃ z : Array Value, Sg.val ⟨kd, sa, sb, bar, ep, ef, kw, kh, wa, wc, wl, ra, rc, rl, ca, cc, cl, sh, sh2, xa, xn, xc, xp, ya, yn, yc, yp, bins, oa, on, oc, ol, mx⟩ = z := ⟨_, rfl⟩
 rw [hA]
 have HA := hid (show A = #[.int .i64 kd, .int .i64 sa, .int .i64 sb, .bool bar, .int .i64 ep, .int .i64 ef, .int .i64 kw, .int .i64 kh, .slice wa wl.length wc, .slice ra rl.length rc, .slice ca cl.length cc, .int .i64 sh, .int .i64 sh2, .slice xa xn xc, .slice ya yn yc, .int .i64 bins, .slice oa on oc, .int .i64 mx] from hA.symm)
 clear hA
 go_enter Try.func27, Try.ntmps27
 obtain ⟨D1, hD1⟩ : ∃ D, w0.heap.size = D := ⟨_, rfl⟩
 go_upto_region 1 with fail
 have H2 := hid (show St B W (.cells (D1 + 1) #[.int .i64 0, .int .i64 0, .int .i64 0, .bool false, .int .i64 0, .int .i64 0, .int .i64 0, .int .i64 0, .slice none 0 0, .slice none 0 0, .slice none 0 0, .int .i64 0, .int .i64 0, .slice none 0 0, .slice none 0 0, .int .i64 0, .slice none 0 0, .int .i64 0] 33 :: .cells D1 A 33 :: .arr (68) 2 (.slice xa xn xc) xn (tapV xp) :: .arr (68) 2 (.slice ya yn yc) yn (tapV yp) :: .own (.slice wa wl.length wc) wl :: .own (.slice ra rl.length rc) rl :: .own (.slice ca cl.length cc) cl :: .arr (70) 2 (.slice oa on oc) on (prV ol) :: .tape k :: l) rs ((w0.alloc (.cells A 33)).alloc (.cells #[.int .i64 0, .int .i64 0, .int .i64 0, .bool false, .int .i64 0, .int .i64 0, .int .i64 0, .int .i64 0, .slice none 0 0, .slice none 0 0, .slice none 0 0, .int .i64 0, .int .i64 0, .slice none 0 0, .slice none 0 0, .int .i64 0, .slice none 0 0, .int .i64 0] 33)) from ((HI0.out.alloc A 33 hD1).alloc #[.int .i64 0, .int .i64 0, .int .i64 0, .bool false, .int .i64 0, .int .i64 0, .int .i64 0, .int .i64 0, .slice none 0 0, .slice none 0 0, .slice none 0 0, .int .i64 0, .int .i64 0, .slice none 0 0, .slice none 0 0, .int .i64 0, .slice none 0 0, .int .i64 0] 33 (by first | exact hD1 | simp [hD1])))
 first | refine gen_code H2.out ?_ | refine gen_list H2.out ?_ | refine gen_calls H2.out ?_
 intro w3 hG
 clear H2
 have H2 := hid hG
 clear hG
 clear hD1
 go_wp2_with fail
 refine (nextB_any B k _ _ (by omega) (H2.out.tapeAt 8 rfl)).mono ?_
 rintro e w5 ⟨x4, rfl, x4a, x4b, htn, hgn, hsn⟩
 have H6 := hid (H2.out.next 8 rfl htn hgn)
 clear htn hgn hsn
 by_cases c7 : (x4 : Int) = 0
 ·
  obtain ⟨c7c, c7d⟩ : (x4 : Int) ≤ 0 ∧ (0 : Int) ≤ x4 := by omega
  have c7a : ((x4 : Int) == (0)) = true := by simpa using c7
  have c7b : ((x4 : Int) != (0)) = false := by simpa using c7
  have c7h := hid c7
  clear c7
  go_wp2_with fail
  refine (nextB_any B k _ _ (by omega) (H6.out.tapeAt 8 rfl)).mono ?_
  rintro e w9 ⟨x8, rfl, x8a, x8b, htn, hgn, hsn⟩
  have H10 := hid (H6.out.next 8 rfl htn hgn)
  clear htn hgn hsn
  have H11 := hid (show St B W (.cells (D1 + 1) #[.int .i64 0, .int .i64 0, .int .i64 0, .bool false, .int .i64 0, .int .i64 0, .int .i64 0, .int .i64 0, .slice none 0 0, .slice none 0 0, .slice none 0 0, .int .i64 0, .int .i64 0, .slice none 0 0, .slice none 0 0, .int .i64 0, .slice none 0 0, .int .i64 0] 33 :: .cells D1 #[.int .i64 kd, .int .i64 sa, .int .i64 sb, .bool bar, .int .i64 ep, .int .i64 ef, .int .i64 kw, .int .i64 kh, .slice wa wl.length wc, .slice ra rl.length rc, .slice ca cl.length cc, .int .i64 sh, .int .i64 sh2, .slice xa xn xc, .slice ya yn yc, .int .i64 bins, .slice oa on oc, .int .i64 mx] 33 :: .arr (68) 2 (.slice xa xn xc) xn (tapV xp) :: .arr (68) 2 (.slice ya yn yc) yn (tapV yp) :: .own (.slice wa wl.length wc) wl :: .own (.slice ra rl.length rc) rl :: .own (.slice ca cl.length cc) cl :: .arr (70) 2 (.slice oa on oc) on (prV ol) :: .tape k :: l) rs w9 from by have h9 := H10.out; rw [HA.out] at h9; exact h9)
  have z12 := H11.out.cell 1 rfl 0 rfl
  have z13 := H11.out.free 1 rfl 0
  go_upto_region 31 with fail
  clear z12 z13
  have H14 := hid (show St B W (.cells (D1 + 1) #[.int .i64 0, .int .i64 0, .int .i64 0, .bool false, .int .i64 0, .int .i64 0, .int .i64 0, .int .i64 0, .slice none 0 0, .slice none 0 0, .slice none 0 0, .int .i64 0, .int .i64 0, .slice none 0 0, .slice none 0 0, .int .i64 0, .slice none 0 0, .int .i64 0] 33 :: .cells D1 #[.int .i64 x8, .int .i64 sa, .int .i64 sb, .bool bar, .int .i64 ep, .int .i64 ef, .int .i64 kw, .int .i64 kh, .slice wa wl.length wc, .slice ra rl.length rc, .slice ca cl.length cc, .int .i64 sh, .int .i64 sh2, .slice xa xn xc, .slice ya yn yc, .int .i64 bins, .slice oa on oc, .int .i64 mx] 33 :: .arr (68) 2 (.slice xa xn xc) xn (tapV xp) :: .arr (68) 2 (.slice ya yn yc) yn (tapV yp) :: .own (.slice wa wl.length wc) wl :: .own (.slice ra rl.length rc) rl :: .own (.slice ca cl.length cc) cl :: .arr (70) 2 (.slice oa on oc) on (prV ol) :: .tape k :: l) rs (w9.setCell ⟨D1, 0, none⟩ (.int .i64 x8)) from (H11.out.set 1 rfl 0 (.int .i64 x8)))
  first | refine gen_code H14.out ?_ | refine gen_list H14.out ?_ | refine gen_calls H14.out ?_
  intro w15 hG
  clear H14
  have H14 := hid hG
  clear hG
  obtain ⟨A9, hA9⟩ : ∃ z : Array Value, #[.int .i64 x8, .int .i64 sa, .int .i64 sb, .bool bar, .int .i64 ep, .int .i64 ef, .int .i64 kw, .int .i64 kh, .slice wa wl.length wc, .slice ra rl.length rc, .slice ca cl.length cc, .int .i64 sh, .int .i64 sh2, .slice xa xn xc, .slice ya yn yc, .int .i64 bins, .slice oa on oc, .int .i64 mx] = z := ⟨_, rfl⟩
  have H16 := hid (show St B W (.cells (D1 + 1) #[.int .i64 0, .int .i64 0, .int .i64 0, .bool false, .int .i64 0, .int .i64 0, .int .i64 0, .int .i64 0, .slice none 0 0, .slice none 0 0, .slice none 0 0, .int .i64 0, .int .i64 0, .slice none 0 0, .slice none 0 0, .int .i64 0, .slice none 0 0, .int .i64 0] 33 :: .cells D1 A9 33 :: .arr (68) 2 (.slice xa xn xc) xn (tapV xp) :: .arr (68) 2 (.slice ya yn yc) yn (tapV yp) :: .own (.slice wa wl.length wc) wl :: .own (.slice ra rl.length rc) rl :: .own (.slice ca cl.length cc) cl :: .arr (70) 2 (.slice oa on oc) on (prV ol) :: .tape k :: l) rs w15 from by have h9 := H14.out; rw [hA9] at h9; exact h9)
  have HA9 := hid hA9.symm
  clear hA9
  obtain ⟨z17, z18, z19, z20, z21, z22, z23, z24, z25, z26, z27, z28, z29, z30, z31, z32, z33, z34⟩ := cs18 H16.out 0 rfl
  have z35 := H16.out.loadStg 1 rfl (by rw [HA9.out]; rfl)
  go_wp2_with (first | (refine loadArm z35 (by rfl) (by rfl) ?_) | (refine storeArm (H16.out.rowAt 0 rfl) (cs' := A9) (by rw [HA9.out]; first | rfl | kernel_rfl) (by rw [HA9.out]; first | rfl | kernel_rfl) (by rw [HA9.out]; first | rfl | kernel_rfl) (by rfl) (by rfl) (by rfl) ?_))
  clear z17 z18 z19 z20 z21 z22 z23 z24 z25 z26 z27 z28 z29 z30 z31 z32 z33 z34 z35
  have H36 := hid (show St B W (.cells (D1 + 1) A9 33 :: .cells D1 A9 33 :: .arr (68) 2 (.slice xa xn xc) xn (tapV xp) :: .arr (68) 2 (.slice ya yn yc) yn (tapV yp) :: .own (.slice wa wl.length wc) wl :: .own (.slice ra rl.length rc) rl :: .own (.slice ca cl.length cc) cl :: .arr (70) 2 (.slice oa on oc) on (prV ol) :: .tape k :: l) rs (w15.setRow (D1 + 1) A9) from (H16.out.setRow 0 rfl A9))
  have hfin := St.pickT (l0 := [.cells (D1 + 1) A9 33, .cells D1 A9 33, .arr (68) 2 (.slice xa xn xc) xn (tapV xp), .arr (68) 2 (.slice ya yn yc) yn (tapV yp), .own (.slice wa wl.length wc) wl, .own (.slice ra rl.length rc) rl, .own (.slice ca cl.length cc) cl, .arr (70) 2 (.slice oa on oc) on (prV ol), .tape k]) (T := l) (l' := [.arr (68) 2 (.slice xa xn xc) xn (tapV xp), .arr (68) 2 (.slice ya yn yc) yn (tapV yp), .own (.slice wa wl.length wc) wl, .own (.slice ra rl.length rc) rl, .own (.slice ca cl.length cc) cl, .arr (70) 2 (.slice oa on oc) on (prV ol), .tape k]) H36.out [2, 3, 4, 5, 6, 7, 8] rfl (by decide)
  refine bodyPost_ret (v := .agg A9) ?_ rfl ⟨⟨x8, sa, sb, bar, ep, ef, kw, kh, wa, wc, wl, ra, rc, rl, ca, cc, cl, sh, sh2, xa, xn, xc, xp, ya, yn, yc, yp, bins, oa, on, oc, ol, mx⟩, rs, by rw [HA9.out]; rfl, ⟨by (try simp only [List.length_nil]); first | omega | (simp; omega), by (try simp only [List.length_nil]); first | omega | (simp; omega), by (try simp only [List.length_nil]); first | omega | (simp; omega), by (try simp only [List.length_nil]); first | omega | (simp; omega), by (try simp only [List.length_nil]); first | omega | (simp; omega), by (try simp only [List.length_nil]); first | omega | (simp; omega)⟩, HQX.out, HQY.out, hfin⟩
  exact results_cell_row rfl _ _ (D1 + 1) 33 _ (0, 0) _ (by rfl) (H36.out.rowAt 0 rfl) Try.underlying33 rfl (by have hz : (Try.prog.info? 33).map (·.size) = some 18 := (by kernel_rfl); rw [hz, HA9.out]; rfl)
 ·
  have c7a : ((x4 : Int) == (0)) = false := by simpa using c7
  have c7b : ((x4 : Int) != (0)) = true := by simpa using c7
  have c7h := hid c7
  clear c7
  by_cases c37 : (x4 : Int) = 1
  ·
   obtain ⟨c37c, c37d⟩ : (x4 : Int) ≤ 1 ∧ (1 : Int) ≤ x4 := by omega
   have c37a : ((x4 : Int) == (1)) = true := by simpa using c37
   have c37b : ((x4 : Int) != (1)) = false := by simpa using c37
   have c37h := hid c37
   clear c37
   obtain ⟨D38, hD38⟩ : ∃ D, w5.heap.size = D := ⟨_, rfl⟩
   go_wp2_with fail
   have H39 := hid (show St B W (.cells D38 #[.int .i64 (-1), .int .i64 0, .int .i64 1, .int .i64 2, .int .i64 15, .int .i64 16] 3 :: .cells (D1 + 1) #[.int .i64 0, .int .i64 0, .int .i64 0, .bool false, .int .i64 0, .int .i64 0, .int .i64 0, .int .i64 0, .slice none 0 0, .slice none 0 0, .slice none 0 0, .int .i64 0, .int .i64 0, .slice none 0 0, .slice none 0 0, .int .i64 0, .slice none 0 0, .int .i64 0] 33 :: .cells D1 A 33 :: .arr (68) 2 (.slice xa xn xc) xn (tapV xp) :: .arr (68) 2 (.slice ya yn yc) yn (tapV yp) :: .own (.slice wa wl.length wc) wl :: .own (.slice ra rl.length rc) rl :: .own (.slice ca cl.length cc) cl :: .arr (70) 2 (.slice oa on oc) on (prV ol) :: .tape k :: l) rs (w5.alloc (.cells #[.int .i64 (-1), .int .i64 0, .int .i64 1, .int .i64 2, .int .i64 15, .int .i64 16] 3)) from (H6.out.alloc #[.int .i64 (-1), .int .i64 0, .int .i64 1, .int .i64 2, .int .i64 15, .int .i64 16] 3 hD38))
   first | refine gen_code H39.out ?_ | refine gen_list H39.out ?_ | refine gen_calls H39.out ?_
   intro w40 hG
   clear H39
   have H39 := hid hG
   clear hG
   clear hD38
   refine (pickB_any B k _ 6 6 [(-1), 0, 1, 2, 15, 16] _ (by omega) (by omega) (H39.out.tapeAt 9 rfl) (H39.out.lit 0 [(-1), 0, 1, 2, 15, 16] rfl (by simp)).row (.inr ⟨_, rfl, H39.out.ne 0 9 rfl rfl (by decide) rfl rfl⟩)).mono ?_
   rintro e w42 ⟨x41, rfl, hx41, htn, hgn, hsn⟩
   have H43 := hid (H39.out.next 9 rfl htn hgn)
   clear htn hgn hsn
   obtain ⟨x41a, x41b⟩ : (-1 : Int) ≤ x41 ∧ x41 ≤ 16 := by simp at hx41; omega
   clear hx41
   have H44 := hid (show St B W (.cells D38 #[.int .i64 (-1), .int .i64 0, .int .i64 1, .int .i64 2, .int .i64 15, .int .i64 16] 3 :: .cells (D1 + 1) #[.int .i64 0, .int .i64 0, .int .i64 0, .bool false, .int .i64 0, .int .i64 0, .int .i64 0, .int .i64 0, .slice none 0 0, .slice none 0 0, .slice none 0 0, .int .i64 0, .int .i64 0, .slice none 0 0, .slice none 0 0, .int .i64 0, .slice none 0 0, .int .i64 0] 33 :: .cells D1 #[.int .i64 kd, .int .i64 sa, .int .i64 sb, .bool bar, .int .i64 ep, .int .i64 ef, .int .i64 kw, .int .i64 kh, .slice wa wl.length wc, .slice ra rl.length rc, .slice ca cl.length cc, .int .i64 sh, .int .i64 sh2, .slice xa xn xc, .slice ya yn yc, .int .i64 bins, .slice oa on oc, .int .i64 mx] 33 :: .arr (68) 2 (.slice xa xn xc) xn (tapV xp) :: .arr (68) 2 (.slice ya yn yc) yn (tapV yp) :: .own (.slice wa wl.length wc) wl :: .own (.slice ra rl.length rc) rl :: .own (.slice ca cl.length cc) cl :: .arr (70) 2 (.slice oa on oc) on (prV ol) :: .tape k :: l) rs w42 from by have h9 := H43.out; rw [HA.out] at h9; exact h9)
   have z45 := H44.out.cell 2 rfl 1 rfl
   have z46 := H44.out.free 2 rfl 1
   go_upto_region 31 with fail
   clear z45 z46
   have H47 := hid (show St B W (.cells D38 #[.int .i64 (-1), .int .i64 0, .int .i64 1, .int .i64 2, .int .i64 15, .int .i64 16] 3 :: .cells (D1 + 1) #[.int .i64 0, .int .i64 0, .int .i64 0, .bool false, .int .i64 0, .int .i64 0, .int .i64 0, .int .i64 0, .slice none 0 0, .slice none 0 0, .slice none 0 0, .int .i64 0, .int .i64 0, .slice none 0 0, .slice none 0 0, .int .i64 0, .slice none 0 0, .int .i64 0] 33 :: .cells D1 #[.int .i64 kd, .int .i64 x41, .int .i64 sb, .bool bar, .int .i64 ep, .int .i64 ef, .int .i64 kw, .int .i64 kh, .slice wa wl.length wc, .slice ra rl.length rc, .slice ca cl.length cc, .int .i64 sh, .int .i64 sh2, .slice xa xn xc, .slice ya yn yc, .int .i64 bins, .slice oa on oc, .int .i64 mx] 33 :: .arr (68) 2 (.slice xa xn xc) xn (tapV xp) :: .arr (68) 2 (.slice ya yn yc) yn (tapV yp) :: .own (.slice wa wl.length wc) wl :: .own (.slice ra rl.length rc) rl :: .own (.slice ca cl.length cc) cl :: .arr (70) 2 (.slice oa on oc) on (prV ol) :: .tape k :: l) rs (w42.setCell ⟨D1, 1, none⟩ (.int .i64 x41)) from (H44.out.set 2 rfl 1 (.int .i64 x41)))
   first | refine gen_code H47.out ?_ | refine gen_list H47.out ?_ | refine gen_calls H47.out ?_
   intro w48 hG
   clear H47
   have H47 := hid hG
   clear hG
   obtain ⟨A9, hA9⟩ : ∃ z : Array Value, #[.int .i64 kd, .int .i64 x41, .int .i64 sb, .bool bar, .int .i64 ep, .int .i64 ef, .int .i64 kw, .int .i64 kh, .slice wa wl.length wc, .slice ra rl.length rc, .slice ca cl.length cc, .int .i64 sh, .int .i64 sh2, .slice xa xn xc, .slice ya yn yc, .int .i64 bins, .slice oa on oc, .int .i64 mx] = z := ⟨_, rfl⟩
   have H49 := hid (show St B W (.cells D38 #[.int .i64 (-1), .int .i64 0, .int .i64 1, .int .i64 2, .int .i64 15, .int .i64 16] 3 :: .cells (D1 + 1) #[.int .i64 0, .int .i64 0, .int .i64 0, .bool false, .int .i64 0, .int .i64 0, .int .i64 0, .int .i64 0, .slice none 0 0, .slice none 0 0, .slice none 0 0, .int .i64 0, .int .i64 0, .slice none 0 0, .slice none 0 0, .int .i64 0, .slice none 0 0, .int .i64 0] 33 :: .cells D1 A9 33 :: .arr (68) 2 (.slice xa xn xc) xn (tapV xp) :: .arr (68) 2 (.slice ya yn yc) yn (tapV yp) :: .own (.slice wa wl.length wc) wl :: .own (.slice ra rl.length rc) rl :: .own (.slice ca cl.length cc) cl :: .arr (70) 2 (.slice oa on oc) on (prV ol) :: .tape k :: l) rs w48 from by have h9 := H47.out; rw [hA9] at h9; exact h9)
   have HA9 := hid hA9.symm
   clear hA9
   obtain ⟨z50, z51, z52, z53, z54, z55, z56, z57, z58, z59, z60, z61, z62, z63, z64, z65, z66, z67⟩ := cs18 H49.out 1 rfl
   have z68 := H49.out.loadStg 2 rfl (by rw [HA9.out]; rfl)
   go_wp2_with (first | (refine loadArm z68 (by rfl) (by rfl) ?_) | (refine storeArm (H49.out.rowAt 1 rfl) (cs' := A9) (by rw [HA9.out]; first | rfl | kernel_rfl) (by rw [HA9.out]; first | rfl | kernel_rfl) (by rw [HA9.out]; first | rfl | kernel_rfl) (by rfl) (by rfl) (by rfl) ?_))
   clear z50 z51 z52 z53 z54 z55 z56 z57 z58 z59 z60 z61 z62 z63 z64 z65 z66 z67 z68
   have H69 := hid (show St B W (.cells D38 #[.int .i64 (-1), .int .i64 0, .int .i64 1, .int .i64 2, .int .i64 15, .int .i64 16] 3 :: .cells (D1 + 1) A9 33 :: .cells D1 A9 33 :: .arr (68) 2 (.slice xa xn xc) xn (tapV xp) :: .arr (68) 2 (.slice ya yn yc) yn (tapV yp) :: .own (.slice wa wl.length wc) wl :: .own (.slice ra rl.length rc) rl :: .own (.slice ca cl.length cc) cl :: .arr (70) 2 (.slice oa on oc) on (prV ol) :: .tape k :: l) rs (w48.setRow (D1 + 1) A9) from (H49.out.setRow 1 rfl A9))
   have hfin := St.pickT (l0 := [.cells D38 #[.int .i64 (-1), .int .i64 0, .int .i64 1, .int .i64 2, .int .i64 15, .int .i64 16] 3, .cells (D1 + 1) A9 33, .cells D1 A9 33, .arr (68) 2 (.slice xa xn xc) xn (tapV xp), .arr (68) 2 (.slice ya yn yc) yn (tapV yp), .own (.slice wa wl.length wc) wl, .own (.slice ra rl.length rc) rl, .own (.slice ca cl.length cc) cl, .arr (70) 2 (.slice oa on oc) on (prV ol), .tape k]) (T := l) (l' := [.arr (68) 2 (.slice xa xn xc) xn (tapV xp), .arr (68) 2 (.slice ya yn yc) yn (tapV yp), .own (.slice wa wl.length wc) wl, .own (.slice ra rl.length rc) rl, .own (.slice ca cl.length cc) cl, .arr (70) 2 (.slice oa on oc) on (prV ol), .tape k]) H69.out [3, 4, 5, 6, 7, 8, 9] rfl (by decide)
   refine bodyPost_ret (v := .agg A9) ?_ rfl ⟨⟨kd, x41, sb, bar, ep, ef, kw, kh, wa, wc, wl, ra, rc, rl, ca, cc, cl, sh, sh2, xa, xn, xc, xp, ya, yn, yc, yp, bins, oa, on, oc, ol, mx⟩, rs, by rw [HA9.out]; rfl, ⟨by (try simp only [List.length_nil]); first | omega | (simp; omega), by (try simp only [List.length_nil]); first | omega | (simp; omega), by (try simp only [List.length_nil]); first | omega | (simp; omega), by (try simp only [List.length_nil]); first | omega | (simp; omega), by (try simp only [List.length_nil]); first | omega | (simp; omega), by (try simp only [List.length_nil]); first | omega | (simp; omega)⟩, HQX.out, HQY.out, hfin⟩
   exact results_cell_row rfl _ _ (D1 + 1) 33 _ (0, 0) _ (by rfl) (H69.out.rowAt 1 rfl) Try.underlying33 rfl (by have hz : (Try.prog.info? 33).map (·.size) = some 18 := (by kernel_rfl); rw [hz, HA9.out]; rfl)
  ·
   have c37a : ((x4 : Int) == (1)) = false := by simpa using c37
   have c37b : ((x4 : Int) != (1)) = true := by simpa using c37
   have c37h := hid c37
   clear c37
   by_cases c70 : (x4 : Int) = 2
   ·
    obtain ⟨c70c, c70d⟩ : (x4 : Int) ≤ 2 ∧ (2 : Int) ≤ x4 := by omega
    have c70a : ((x4 : Int) == (2)) = true := by simpa using c70
    have c70b : ((x4 : Int) != (2)) = false := by simpa using c70
    have c70h := hid c70
    clear c70
    obtain ⟨D71, hD71⟩ : ∃ D, w5.heap.size = D := ⟨_, rfl⟩
    go_wp2_with fail
    have H72 := hid (show St B W (.cells D71 #[.int .i64 (-2), .int .i64 (-1), .int .i64 0, .int .i64 1, .int .i64 16] 3 :: .cells (D1 + 1) #[.int .i64 0, .int .i64 0, .int .i64 0, .bool false, .int .i64 0, .int .i64 0, .int .i64 0, .int .i64 0, .slice none 0 0, .slice none 0 0, .slice none 0 0, .int .i64 0, .int .i64 0, .slice none 0 0, .slice none 0 0, .int .i64 0, .slice none 0 0, .int .i64 0] 33 :: .cells D1 A 33 :: .arr (68) 2 (.slice xa xn xc) xn (tapV xp) :: .arr (68) 2 (.slice ya yn yc) yn (tapV yp) :: .own (.slice wa wl.length wc) wl :: .own (.slice ra rl.length rc) rl :: .own (.slice ca cl.length cc) cl :: .arr (70) 2 (.slice oa on oc) on (prV ol) :: .tape k :: l) rs (w5.alloc (.cells #[.int .i64 (-2), .int .i64 (-1), .int .i64 0, .int .i64 1, .int .i64 16] 3)) from (H6.out.alloc #[.int .i64 (-2), .int .i64 (-1), .int .i64 0, .int .i64 1, .int .i64 16] 3 hD71))
    first | refine gen_code H72.out ?_ | refine gen_list H72.out ?_ | refine gen_calls H72.out ?_
    intro w73 hG
    clear H72
    have H72 := hid hG
    clear hG
    clear hD71
    refine (pickB_any B k _ 5 5 [(-2), (-1), 0, 1, 16] _ (by omega) (by omega) (H72.out.tapeAt 9 rfl) (H72.out.lit 0 [(-2), (-1), 0, 1, 16] rfl (by simp)).row (.inr ⟨_, rfl, H72.out.ne 0 9 rfl rfl (by decide) rfl rfl⟩)).mono ?_
    rintro e w75 ⟨x74, rfl, hx74, htn, hgn, hsn⟩
    have H76 := hid (H72.out.next 9 rfl htn hgn)
    clear htn hgn hsn
    obtain ⟨x74a, x74b⟩ : (-2 : Int) ≤ x74 ∧ x74 ≤ 16 := by simp at hx74; omega
    clear hx74
    have H77 := hid (show St B W (.cells D71 #[.int .i64 (-2), .int .i64 (-1), .int .i64 0, .int .i64 1, .int .i64 16] 3 :: .cells (D1 + 1) #[.int .i64 0, .int .i64 0, .int .i64 0, .bool false, .int .i64 0, .int .i64 0, .int .i64 0, .int .i64 0, .slice none 0 0, .slice none 0 0, .slice none 0 0, .int .i64 0, .int .i64 0, .slice none 0 0, .slice none 0 0, .int .i64 0, .slice none 0 0, .int .i64 0] 33 :: .cells D1 #[.int .i64 kd, .int .i64 sa, .int .i64 sb, .bool bar, .int .i64 ep, .int .i64 ef, .int .i64 kw, .int .i64 kh, .slice wa wl.length wc, .slice ra rl.length rc, .slice ca cl.length cc, .int .i64 sh, .int .i64 sh2, .slice xa xn xc, .slice ya yn yc, .int .i64 bins, .slice oa on oc, .int .i64 mx] 33 :: .arr (68) 2 (.slice xa xn xc) xn (tapV xp) :: .arr (68) 2 (.slice ya yn yc) yn (tapV yp) :: .own (.slice wa wl.length wc) wl :: .own (.slice ra rl.length rc) rl :: .own (.slice ca cl.length cc) cl :: .arr (70) 2 (.slice oa on oc) on (prV ol) :: .tape k :: l) rs w75 from by have h9 := H76.out; rw [HA.out] at h9; exact h9)
    have z78 := H77.out.cell 2 rfl 2 rfl
    have z79 := H77.out.free 2 rfl 2
    go_upto_region 31 with fail
    clear z78 z79
    have H80 := hid (show St B W (.cells D71 #[.int .i64 (-2), .int .i64 (-1), .int .i64 0, .int .i64 1, .int .i64 16] 3 :: .cells (D1 + 1) #[.int .i64 0, .int .i64 0, .int .i64 0, .bool false, .int .i64 0, .int .i64 0, .int .i64 0, .int .i64 0, .slice none 0 0, .slice none 0 0, .slice none 0 0, .int .i64 0, .int .i64 0, .slice none 0 0, .slice none 0 0, .int .i64 0, .slice none 0 0, .int .i64 0] 33 :: .cells D1 #[.int .i64 kd, .int .i64 sa, .int .i64 x74, .bool bar, .int .i64 ep, .int .i64 ef, .int .i64 kw, .int .i64 kh, .slice wa wl.length wc, .slice ra rl.length rc, .slice ca cl.length cc, .int .i64 sh, .int .i64 sh2, .slice xa xn xc, .slice ya yn yc, .int .i64 bins, .slice oa on oc, .int .i64 mx] 33 :: .arr (68) 2 (.slice xa xn xc) xn (tapV xp) :: .arr (68) 2 (.slice ya yn yc) yn (tapV yp) :: .own (.slice wa wl.length wc) wl :: .own (.slice ra rl.length rc) rl :: .own (.slice ca cl.length cc) cl :: .arr (70) 2 (.slice oa on oc) on (prV ol) :: .tape k :: l) rs (w75.setCell ⟨D1, 2, none⟩ (.int .i64 x74)) from (H77.out.set 2 rfl 2 (.int .i64 x74)))
    first | refine gen_code H80.out ?_ | refine gen_list H80.out ?_ | refine gen_calls H80.out ?_
    intro w81 hG
    clear H80
    have H80 := hid hG
    clear hG
    obtain ⟨A9, hA9⟩ : ∃ z : Array Value, #[.int .i64 kd, .int .i64 sa, .int .i64 x74, .bool bar, .int .i64 ep, .int .i64 ef, .int .i64 kw, .int .i64 kh, .slice wa wl.length wc, .slice ra rl.length rc, .slice ca cl.length cc, .int .i64 sh, .int .i64 sh2, .slice xa xn xc, .slice ya yn yc, .int .i64 bins, .slice oa on oc, .int .i64 mx] = z := ⟨_, rfl⟩
    have H82 := hid (show St B W (.cells D71 #[.int .i64 (-2), .int .i64 (-1), .int .i64 0, .int .i64 1, .int .i64 16] 3 :: .cells (D1 + 1) #[.int .i64 0, .int .i64 0, .int .i64 0, .bool false, .int .i64 0, .int .i64 0, .int .i64 0, .int .i64 0, .slice none 0 0, .slice none 0 0, .slice none 0 0, .int .i64 0, .int .i64 0, .slice none 0 0, .slice none 0 0, .int .i64 0, .slice none 0 0, .int .i64 0] 33 :: .cells D1 A9 33 :: .arr (68) 2 (.slice xa xn xc) xn (tapV xp) :: .arr (68) 2 (.slice ya yn yc) yn (tapV yp) :: .own (.slice wa wl.length wc) wl :: .own (.slice ra rl.length rc) rl :: .own (.slice ca cl.length cc) cl :: .arr (70) 2 (.slice oa on oc) on (prV ol) :: .tape k :: l) rs w81 from by have h9 := H80.out; rw [hA9] at h9; exact h9)
    have HA9 := hid hA9.symm
    clear hA9
    obtain ⟨z83, z84, z85, z86, z87, z88, z89, z90, z91, z92, z93, z94, z95, z96, z97, z98, z99, z100⟩ := cs18 H82.out 1 rfl
    have z101 := H82.out.loadStg 2 rfl (by rw [HA9.out]; rfl)
    go_wp2_with (first | (refine loadArm z101 (by rfl) (by rfl) ?_) | (refine storeArm (H82.out.rowAt 1 rfl) (cs' := A9) (by rw [HA9.out]; first | rfl | kernel_rfl) (by rw [HA9.out]; first | rfl | kernel_rfl) (by rw [HA9.out]; first | rfl | kernel_rfl) (by rfl) (by rfl) (by rfl) ?_))
    clear z83 z84 z85 z86 z87 z88 z89 z90 z91 z92 z93 z94 z95 z96 z97 z98 z99 z100 z101
    have H102 := hid (show St B W (.cells D71 #[.int .i64 (-2), .int .i64 (-1), .int .i64 0, .int .i64 1, .int .i64 16] 3 :: .cells (D1 + 1) A9 33 :: .cells D1 A9 33 :: .arr (68) 2 (.slice xa xn xc) xn (tapV xp) :: .arr (68) 2 (.slice ya yn yc) yn (tapV yp) :: .own (.slice wa wl.length wc) wl :: .own (.slice ra rl.length rc) rl :: .own (.slice ca cl.length cc) cl :: .arr (70) 2 (.slice oa on oc) on (prV ol) :: .tape k :: l) rs (w81.setRow (D1 + 1) A9) from (H82.out.setRow 1 rfl A9))
    have hfin := St.pickT (l0 := [.cells D71 #[.int .i64 (-2), .int .i64 (-1), .int .i64 0, .int .i64 1, .int .i64 16] 3, .cells (D1 + 1) A9 33, .cells D1 A9 33, .arr (68) 2 (.slice xa xn xc) xn (tapV xp), .arr (68) 2 (.slice ya yn yc) yn (tapV yp), .own (.slice wa wl.length wc) wl, .own (.slice ra rl.length rc) rl, .own (.slice ca cl.length cc) cl, .arr (70) 2 (.slice oa on oc) on (prV ol), .tape k]) (T := l) (l' := [.arr (68) 2 (.slice xa xn xc) xn (tapV xp), .arr (68) 2 (.slice ya yn yc) yn (tapV yp), .own (.slice wa wl.length wc) wl, .own (.slice ra rl.length rc) rl, .own (.slice ca cl.length cc) cl, .arr (70) 2 (.slice oa on oc) on (prV ol), .tape k]) H102.out [3, 4, 5, 6, 7, 8, 9] rfl (by decide)
    refine bodyPost_ret (v := .agg A9) ?_ rfl ⟨⟨kd, sa, x74, bar, ep, ef, kw, kh, wa, wc, wl, ra, rc, rl, ca, cc, cl, sh, sh2, xa, xn, xc, xp, ya, yn, yc, yp, bins, oa, on, oc, ol, mx⟩, rs, by rw [HA9.out]; rfl, ⟨by (try simp only [List.length_nil]); first | omega | (simp; omega), by (try simp only [List.length_nil]); first | omega | (simp; omega), by (try simp only [List.length_nil]); first | omega | (simp; omega), by (try simp only [List.length_nil]); first | omega | (simp; omega), by (try simp only [List.length_nil]); first | omega | (simp; omega), by (try simp only [List.length_nil]); first | omega | (simp; omega)⟩, HQX.out, HQY.out, hfin⟩
    exact results_cell_row rfl _ _ (D1 + 1) 33 _ (0, 0) _ (by rfl) (H102.out.rowAt 1 rfl) Try.underlying33 rfl (by have hz : (Try.prog.info? 33).map (·.size) = some 18 := (by kernel_rfl); rw [hz, HA9.out]; rfl)
   ·
    have c70a : ((x4 : Int) == (2)) = false := by simpa using c70
    have c70b : ((x4 : Int) != (2)) = true := by simpa using c70
    have c70h := hid c70
    clear c70
    by_cases c103 : (x4 : Int) = 3
    ·
     obtain ⟨c103c, c103d⟩ : (x4 : Int) ≤ 3 ∧ (3 : Int) ≤ x4 := by omega
     have c103a : ((x4 : Int) == (3)) = true := by simpa using c103
     have c103b : ((x4 : Int) != (3)) = false := by simpa using c103
     have c103h := hid c103
     clear c103
     go_wp2_with fail
     refine (nextB_any B k _ _ (by omega) (H6.out.tapeAt 8 rfl)).mono ?_
     rintro e w105 ⟨x104, rfl, x104a, x104b, htn, hgn, hsn⟩
     have H106 := hid (H6.out.next 8 rfl htn hgn)
     clear htn hgn hsn
     obtain ⟨D107, hD107⟩ : ∃ D, w105.heap.size = D := ⟨_, rfl⟩
     go_wp2_with fail
     have H108 := hid (show St B W (.cells D107 #[.int .i64 0, .int .i64 5, .int .i64 (-1), .int .i64 70000] 3 :: .cells (D1 + 1) #[.int .i64 0, .int .i64 0, .int .i64 0, .bool false, .int .i64 0, .int .i64 0, .int .i64 0, .int .i64 0, .slice none 0 0, .slice none 0 0, .slice none 0 0, .int .i64 0, .int .i64 0, .slice none 0 0, .slice none 0 0, .int .i64 0, .slice none 0 0, .int .i64 0] 33 :: .cells D1 A 33 :: .arr (68) 2 (.slice xa xn xc) xn (tapV xp) :: .arr (68) 2 (.slice ya yn yc) yn (tapV yp) :: .own (.slice wa wl.length wc) wl :: .own (.slice ra rl.length rc) rl :: .own (.slice ca cl.length cc) cl :: .arr (70) 2 (.slice oa on oc) on (prV ol) :: .tape k :: l) rs (w105.alloc (.cells #[.int .i64 0, .int .i64 5, .int .i64 (-1), .int .i64 70000] 3)) from (H106.out.alloc #[.int .i64 0, .int .i64 5, .int .i64 (-1), .int .i64 70000] 3 hD107))
     first | refine gen_code H108.out ?_ | refine gen_list H108.out ?_ | refine gen_calls H108.out ?_
     intro w109 hG
     clear H108
     have H108 := hid hG
     clear hG
     clear hD107
     refine (pickB_any B k _ 4 4 [0, 5, (-1), 70000] _ (by omega) (by omega) (H108.out.tapeAt 9 rfl) (H108.out.lit 0 [0, 5, (-1), 70000] rfl (by simp)).row (.inr ⟨_, rfl, H108.out.ne 0 9 rfl rfl (by decide) rfl rfl⟩)).mono ?_
     rintro e w111 ⟨x110, rfl, hx110, htn, hgn, hsn⟩
     have H112 := hid (H108.out.next 9 rfl htn hgn)
     clear htn hgn hsn
     obtain ⟨x110a, x110b⟩ : (-1 : Int) ≤ x110 ∧ x110 ≤ 70000 := by simp at hx110; omega
     clear hx110
     have H113 := hid (show St B W (.cells D107 #[.int .i64 0, .int .i64 5, .int .i64 (-1), .int .i64 70000] 3 :: .cells (D1 + 1) #[.int .i64 0, .int .i64 0, .int .i64 0, .bool false, .int .i64 0, .int .i64 0, .int .i64 0, .int .i64 0, .slice none 0 0, .slice none 0 0, .slice none 0 0, .int .i64 0, .int .i64 0, .slice none 0 0, .slice none 0 0, .int .i64 0, .slice none 0 0, .int .i64 0] 33 :: .cells D1 #[.int .i64 kd, .int .i64 sa, .int .i64 sb, .bool bar, .int .i64 ep, .int .i64 ef, .int .i64 kw, .int .i64 kh, .slice wa wl.length wc, .slice ra rl.length rc, .slice ca cl.length cc, .int .i64 sh, .int .i64 sh2, .slice xa xn xc, .slice ya yn yc, .int .i64 bins, .slice oa on oc, .int .i64 mx] 33 :: .arr (68) 2 (.slice xa xn xc) xn (tapV xp) :: .arr (68) 2 (.slice ya yn yc) yn (tapV yp) :: .own (.slice wa wl.length wc) wl :: .own (.slice ra rl.length rc) rl :: .own (.slice ca cl.length cc) cl :: .arr (70) 2 (.slice oa on oc) on (prV ol) :: .tape k :: l) rs w111 from by have h9 := H112.out; rw [HA.out] at h9; exact h9)
     have z114 := H113.out.cell 2 rfl 4 rfl
     have z115 := H113.out.free 2 rfl 4
     have z116 := H113.out.cell 2 rfl 5 rfl
     have z117 := H113.out.free 2 rfl 5
     go_upto_region 31 with fail
     clear z114 z115 z116 z117
     have H118 := hid (show St B W (.cells D107 #[.int .i64 0, .int .i64 5, .int .i64 (-1), .int .i64 70000] 3 :: .cells (D1 + 1) #[.int .i64 0, .int .i64 0, .int .i64 0, .bool false, .int .i64 0, .int .i64 0, .int .i64 0, .int .i64 0, .slice none 0 0, .slice none 0 0, .slice none 0 0, .int .i64 0, .int .i64 0, .slice none 0 0, .slice none 0 0, .int .i64 0, .slice none 0 0, .int .i64 0] 33 :: .cells D1 #[.int .i64 kd, .int .i64 sa, .int .i64 sb, .bool bar, .int .i64 (x104 - 1), .int .i64 x110, .int .i64 kw, .int .i64 kh, .slice wa wl.length wc, .slice ra rl.length rc, .slice ca cl.length cc, .int .i64 sh, .int .i64 sh2, .slice xa xn xc, .slice ya yn yc, .int .i64 bins, .slice oa on oc, .int .i64 mx] 33 :: .arr (68) 2 (.slice xa xn xc) xn (tapV xp) :: .arr (68) 2 (.slice ya yn yc) yn (tapV yp) :: .own (.slice wa wl.length wc) wl :: .own (.slice ra rl.length rc) rl :: .own (.slice ca cl.length cc) cl :: .arr (70) 2 (.slice oa on oc) on (prV ol) :: .tape k :: l) rs ((w111.setCell ⟨D1, 4, none⟩ (.int .i64 (x104 - 1))).setCell ⟨D1, 5, none⟩ (.int .i64 x110)) from ((H113.out.set 2 rfl 4 (.int .i64 (x104 - 1))).set 2 rfl 5 (.int .i64 x110)))
     first | refine gen_code H118.out ?_ | refine gen_list H118.out ?_ | refine gen_calls H118.out ?_
     intro w119 hG
     clear H118
     have H118 := hid hG
     clear hG
     obtain ⟨A9, hA9⟩ : ∃ z : Array Value, #[.int .i64 kd, .int .i64 sa, .int .i64 sb, .bool bar, .int .i64 (x104 - 1), .int .i64 x110, .int .i64 kw, .int .i64 kh, .slice wa wl.length wc, .slice ra rl.length rc, .slice ca cl.length cc, .int .i64 sh, .int .i64 sh2, .slice xa xn xc, .slice ya yn yc, .int .i64 bins, .slice oa on oc, .int .i64 mx] = z := ⟨_, rfl⟩
     have H120 := hid (show St B W (.cells D107 #[.int .i64 0, .int .i64 5, .int .i64 (-1), .int .i64 70000] 3 :: .cells (D1 + 1) #[.int .i64 0, .int .i64 0, .int .i64 0, .bool false, .int .i64 0, .int .i64 0, .int .i64 0, .int .i64 0, .slice none 0 0, .slice none 0 0, .slice none 0 0, .int .i64 0, .int .i64 0, .slice none 0 0, .slice none 0 0, .int .i64 0, .slice none 0 0, .int .i64 0] 33 :: .cells D1 A9 33 :: .arr (68) 2 (.slice xa xn xc) xn (tapV xp) :: .arr (68) 2 (.slice ya yn yc) yn (tapV yp) :: .own (.slice wa wl.length wc) wl :: .own (.slice ra rl.length rc) rl :: .own (.slice ca cl.length cc) cl :: .arr (70) 2 (.slice oa on oc) on (prV ol) :: .tape k :: l) rs w119 from by have h9 := H118.out; rw [hA9] at h9; exact h9)
     have HA9 := hid hA9.symm
     clear hA9
     obtain ⟨z121, z122, z123, z124, z125, z126, z127, z128, z129, z130, z131, z132, z133, z134, z135, z136, z137, z138⟩ := cs18 H120.out 1 rfl
     have z139 := H120.out.loadStg 2 rfl (by rw [HA9.out]; rfl)
     go_wp2_with (first | (refine loadArm z139 (by rfl) (by rfl) ?_) | (refine storeArm (H120.out.rowAt 1 rfl) (cs' := A9) (by rw [HA9.out]; first | rfl | kernel_rfl) (by rw [HA9.out]; first | rfl | kernel_rfl) (by rw [HA9.out]; first | rfl | kernel_rfl) (by rfl) (by rfl) (by rfl) ?_))
     clear z121 z122 z123 z124 z125 z126 z127 z128 z129 z130 z131 z132 z133 z134 z135 z136 z137 z138 z139
     have H140 := hid (show St B W (.cells D107 #[.int .i64 0, .int .i64 5, .int .i64 (-1), .int .i64 70000] 3 :: .cells (D1 + 1) A9 33 :: .cells D1 A9 33 :: .arr (68) 2 (.slice xa xn xc) xn (tapV xp) :: .arr (68) 2 (.slice ya yn yc) yn (tapV yp) :: .own (.slice wa wl.length wc) wl :: .own (.slice ra rl.length rc) rl :: .own (.slice ca cl.length cc) cl :: .arr (70) 2 (.slice oa on oc) on (prV ol) :: .tape k :: l) rs (w119.setRow (D1 + 1) A9) from (H120.out.setRow 1 rfl A9))
     have hfin := St.pickT (l0 := [.cells D107 #[.int .i64 0, .int .i64 5, .int .i64 (-1), .int .i64 70000] 3, .cells (D1 + 1) A9 33, .cells D1 A9 33, .arr (68) 2 (.slice xa xn xc) xn (tapV xp), .arr (68) 2 (.slice ya yn yc) yn (tapV yp), .own (.slice wa wl.length wc) wl, .own (.slice ra rl.length rc) rl, .own (.slice ca cl.length cc) cl, .arr (70) 2 (.slice oa on oc) on (prV ol), .tape k]) (T := l) (l' := [.arr (68) 2 (.slice xa xn xc) xn (tapV xp), .arr (68) 2 (.slice ya yn yc) yn (tapV yp), .own (.slice wa wl.length wc) wl, .own (.slice ra rl.length rc) rl, .own (.slice ca cl.length cc) cl, .arr (70) 2 (.slice oa on oc) on (prV ol), .tape k]) H140.out [3, 4, 5, 6, 7, 8, 9] rfl (by decide)
     refine bodyPost_ret (v := .agg A9) ?_ rfl ⟨⟨kd, sa, sb, bar, (x104 - 1), x110, kw, kh, wa, wc, wl, ra, rc, rl, ca, cc, cl, sh, sh2, xa, xn, xc, xp, ya, yn, yc, yp, bins, oa, on, oc, ol, mx⟩, rs, by rw [HA9.out]; rfl, ⟨by (try simp only [List.length_nil]); first | omega | (simp; omega), by (try simp only [List.length_nil]); first | omega | (simp; omega), by (try simp only [List.length_nil]); first | omega | (simp; omega), by (try simp only [List.length_nil]); first | omega | (simp; omega), by (try simp only [List.length_nil]); first | omega | (simp; omega), by (try simp only [List.length_nil]); first | omega | (simp; omega)⟩, HQX.out, HQY.out, hfin⟩
     exact results_cell_row rfl _ _ (D1 + 1) 33 _ (0, 0) _ (by rfl) (H140.out.rowAt 1 rfl) Try.underlying33 rfl (by have hz : (Try.prog.info? 33).map (·.size) = some 18 := (by kernel_rfl); rw [hz, HA9.out]; rfl)
    ·
     have c103a : ((x4 : Int) == (3)) = false := by simpa using c103
     have c103b : ((x4 : Int) != (3)) = true := by simpa using c103
     have c103h := hid c103
     clear c103
     by_cases c141 : (x4 : Int) = 4
     ·
      obtain ⟨c141c, c141d⟩ : (x4 : Int) ≤ 4 ∧ (4 : Int) ≤ x4 := by omega
      have c141a : ((x4 : Int) == (4)) = true := by simpa using c141
      have c141b : ((x4 : Int) != (4)) = false := by simpa using c141
      have c141h := hid c141
      clear c141
      obtain ⟨D142, hD142⟩ : ∃ D, w5.heap.size = D := ⟨_, rfl⟩
      go_wp2_with fail
      have H143 := hid (show St B W (.cells D142 #[.int .i64 0, .int .i64 1, .int .i64 3, .int .i64 10, .int .i64 4611686018427387904] 3 :: .cells (D1 + 1) #[.int .i64 0, .int .i64 0, .int .i64 0, .bool false, .int .i64 0, .int .i64 0, .int .i64 0, .int .i64 0, .slice none 0 0, .slice none 0 0, .slice none 0 0, .int .i64 0, .int .i64 0, .slice none 0 0, .slice none 0 0, .int .i64 0, .slice none 0 0, .int .i64 0] 33 :: .cells D1 A 33 :: .arr (68) 2 (.slice xa xn xc) xn (tapV xp) :: .arr (68) 2 (.slice ya yn yc) yn (tapV yp) :: .own (.slice wa wl.length wc) wl :: .own (.slice ra rl.length rc) rl :: .own (.slice ca cl.length cc) cl :: .arr (70) 2 (.slice oa on oc) on (prV ol) :: .tape k :: l) rs (w5.alloc (.cells #[.int .i64 0, .int .i64 1, .int .i64 3, .int .i64 10, .int .i64 4611686018427387904] 3)) from (H6.out.alloc #[.int .i64 0, .int .i64 1, .int .i64 3, .int .i64 10, .int .i64 4611686018427387904] 3 hD142))
      first | refine gen_code H143.out ?_ | refine gen_list H143.out ?_ | refine gen_calls H143.out ?_
      intro w144 hG
      clear H143
      have H143 := hid hG
      clear hG
      clear hD142
      refine (pickB_any B k _ 5 5 [0, 1, 3, 10, 4611686018427387904] _ (by omega) (by omega) (H143.out.tapeAt 9 rfl) (H143.out.lit 0 [0, 1, 3, 10, 4611686018427387904] rfl (by simp)).row (.inr ⟨_, rfl, H143.out.ne 0 9 rfl rfl (by decide) rfl rfl⟩)).mono ?_
      rintro e w146 ⟨x145, rfl, hx145, htn, hgn, hsn⟩
      have H147 := hid (H143.out.next 9 rfl htn hgn)
      clear htn hgn hsn
      obtain ⟨x145a, x145b⟩ : (0 : Int) ≤ x145 ∧ x145 ≤ 4611686018427387904 := by simp at hx145; omega
      clear hx145
      have H148 := hid (show St B W (.cells D142 #[.int .i64 0, .int .i64 1, .int .i64 3, .int .i64 10, .int .i64 4611686018427387904] 3 :: .cells (D1 + 1) #[.int .i64 0, .int .i64 0, .int .i64 0, .bool false, .int .i64 0, .int .i64 0, .int .i64 0, .int .i64 0, .slice none 0 0, .slice none 0 0, .slice none 0 0, .int .i64 0, .int .i64 0, .slice none 0 0, .slice none 0 0, .int .i64 0, .slice none 0 0, .int .i64 0] 33 :: .cells D1 #[.int .i64 kd, .int .i64 sa, .int .i64 sb, .bool bar, .int .i64 ep, .int .i64 ef, .int .i64 kw, .int .i64 kh, .slice wa wl.length wc, .slice ra rl.length rc, .slice ca cl.length cc, .int .i64 sh, .int .i64 sh2, .slice xa xn xc, .slice ya yn yc, .int .i64 bins, .slice oa on oc, .int .i64 mx] 33 :: .arr (68) 2 (.slice xa xn xc) xn (tapV xp) :: .arr (68) 2 (.slice ya yn yc) yn (tapV yp) :: .own (.slice wa wl.length wc) wl :: .own (.slice ra rl.length rc) rl :: .own (.slice ca cl.length cc) cl :: .arr (70) 2 (.slice oa on oc) on (prV ol) :: .tape k :: l) rs w146 from by have h9 := H147.out; rw [HA.out] at h9; exact h9)
      have z149 := H148.out.cell 2 rfl 6 rfl
      have z150 := H148.out.free 2 rfl 6
      go_upto_region 31 with fail
      clear z149 z150
      have H151 := hid (show St B W (.cells D142 #[.int .i64 0, .int .i64 1, .int .i64 3, .int .i64 10, .int .i64 4611686018427387904] 3 :: .cells (D1 + 1) #[.int .i64 0, .int .i64 0, .int .i64 0, .bool false, .int .i64 0, .int .i64 0, .int .i64 0, .int .i64 0, .slice none 0 0, .slice none 0 0, .slice none 0 0, .int .i64 0, .int .i64 0, .slice none 0 0, .slice none 0 0, .int .i64 0, .slice none 0 0, .int .i64 0] 33 :: .cells D1 #[.int .i64 kd, .int .i64 sa, .int .i64 sb, .bool bar, .int .i64 ep, .int .i64 ef, .int .i64 x145, .int .i64 kh, .slice wa wl.length wc, .slice ra rl.length rc, .slice ca cl.length cc, .int .i64 sh, .int .i64 sh2, .slice xa xn xc, .slice ya yn yc, .int .i64 bins, .slice oa on oc, .int .i64 mx] 33 :: .arr (68) 2 (.slice xa xn xc) xn (tapV xp) :: .arr (68) 2 (.slice ya yn yc) yn (tapV yp) :: .own (.slice wa wl.length wc) wl :: .own (.slice ra rl.length rc) rl :: .own (.slice ca cl.length cc) cl :: .arr (70) 2 (.slice oa on oc) on (prV ol) :: .tape k :: l) rs (w146.setCell ⟨D1, 6, none⟩ (.int .i64 x145)) from (H148.out.set 2 rfl 6 (.int .i64 x145)))
      first | refine gen_code H151.out ?_ | refine gen_list H151.out ?_ | refine gen_calls H151.out ?_
      intro w152 hG
      clear H151
      have H151 := hid hG
      clear hG
      obtain ⟨A9, hA9⟩ : ∃ z : Array Value, #[.int .i64 kd, .int .i64 sa, .int .i64 sb, .bool bar, .int .i64 ep, .int .i64 ef, .int .i64 x145, .int .i64 kh, .slice wa wl.length wc, .slice ra rl.length rc, .slice ca cl.length cc, .int .i64 sh, .int .i64 sh2, .slice xa xn xc, .slice ya yn yc, .int .i64 bins, .slice oa on oc, .int .i64 mx] = z := ⟨_, rfl⟩
      have H153 := hid (show St B W (.cells D142 #[.int .i64 0, .int .i64 1, .int .i64 3, .int .i64 10, .int .i64 4611686018427387904] 3 :: .cells (D1 + 1) #[.int .i64 0, .int .i64 0, .int .i64 0, .bool false, .int .i64 0, .int .i64 0, .int .i64 0, .int .i64 0, .slice none 0 0, .slice none 0 0, .slice none 0 0, .int .i64 0, .int .i64 0, .slice none 0 0, .slice none 0 0, .int .i64 0, .slice none 0 0, .int .i64 0] 33 :: .cells D1 A9 33 :: .arr (68) 2 (.slice xa xn xc) xn (tapV xp) :: .arr (68) 2 (.slice ya yn yc) yn (tapV yp) :: .own (.slice wa wl.length wc) wl :: .own (.slice ra rl.length rc) rl :: .own (.slice ca cl.length cc) cl :: .arr (70) 2 (.slice oa on oc) on (prV ol) :: .tape k :: l) rs w152 from by have h9 := H151.out; rw [hA9] at h9; exact h9)
      have HA9 := hid hA9.symm
      clear hA9
      obtain ⟨z154, z155, z156, z157, z158, z159, z160, z161, z162, z163, z164, z165, z166, z167, z168, z169, z170, z171⟩ := cs18 H153.out 1 rfl
      have z172 := H153.out.loadStg 2 rfl (by rw [HA9.out]; rfl)
      go_wp2_with (first | (refine loadArm z172 (by rfl) (by rfl) ?_) | (refine storeArm (H153.out.rowAt 1 rfl) (cs' := A9) (by rw [HA9.out]; first | rfl | kernel_rfl) (by rw [HA9.out]; first | rfl | kernel_rfl) (by rw [HA9.out]; first | rfl | kernel_rfl) (by rfl) (by rfl) (by rfl) ?_))
      clear z154 z155 z156 z157 z158 z159 z160 z161 z162 z163 z164 z165 z166 z167 z168 z169 z170 z171 z172
      have H173 := hid (show St B W (.cells D142 #[.int .i64 0, .int .i64 1, .int .i64 3, .int .i64 10, .int .i64 4611686018427387904] 3 :: .cells (D1 + 1) A9 33 :: .cells D1 A9 33 :: .arr (68) 2 (.slice xa xn xc) xn (tapV xp) :: .arr (68) 2 (.slice ya yn yc) yn (tapV yp) :: .own (.slice wa wl.length wc) wl :: .own (.slice ra rl.length rc) rl :: .own (.slice ca cl.length cc) cl :: .arr (70) 2 (.slice oa on oc) on (prV ol) :: .tape k :: l) rs (w152.setRow (D1 + 1) A9) from (H153.out.setRow 1 rfl A9))
      have hfin := St.pickT (l0 := [.cells D142 #[.int .i64 0, .int .i64 1, .int .i64 3, .int .i64 10, .int .i64 4611686018427387904] 3, .cells (D1 + 1) A9 33, .cells D1 A9 33, .arr (68) 2 (.slice xa xn xc) xn (tapV xp), .arr (68) 2 (.slice ya yn yc) yn (tapV yp), .own (.slice wa wl.length wc) wl, .own (.slice ra rl.length rc) rl, .own (.slice ca cl.length cc) cl, .arr (70) 2 (.slice oa on oc) on (prV ol), .tape k]) (T := l) (l' := [.arr (68) 2 (.slice xa xn xc) xn (tapV xp), .arr (68) 2 (.slice ya yn yc) yn (tapV yp), .own (.slice wa wl.length wc) wl, .own (.slice ra rl.length rc) rl, .own (.slice ca cl.length cc) cl, .arr (70) 2 (.slice oa on oc) on (prV ol), .tape k]) H173.out [3, 4, 5, 6, 7, 8, 9] rfl (by decide)
      refine bodyPost_ret (v := .agg A9) ?_ rfl ⟨⟨kd, sa, sb, bar, ep, ef, x145, kh, wa, wc, wl, ra, rc, rl, ca, cc, cl, sh, sh2, xa, xn, xc, xp, ya, yn, yc, yp, bins, oa, on, oc, ol, mx⟩, rs, by rw [HA9.out]; rfl, ⟨by (try simp only [List.length_nil]); first | omega | (simp; omega), by (try simp only [List.length_nil]); first | omega | (simp; omega), by (try simp only [List.length_nil]); first | omega | (simp; omega), by (try simp only [List.length_nil]); first | omega | (simp; omega), by (try simp only [List.length_nil]); first | omega | (simp; omega), by (try simp only [List.length_nil]); first | omega | (simp; omega)⟩, HQX.out, HQY.out, hfin⟩
      exact results_cell_row rfl _ _ (D1 + 1) 33 _ (0, 0) _ (by rfl) (H173.out.rowAt 1 rfl) Try.underlying33 rfl (by have hz : (Try.prog.info? 33).map (·.size) = some 18 := (by kernel_rfl); rw [hz, HA9.out]; rfl)
     ·
      have c141a : ((x4 : Int) == (4)) = false := by simpa using c141
      have c141b : ((x4 : Int) != (4)) = true := by simpa using c141
      have c141h := hid c141
      clear c141
      by_cases c174 : (x4 : Int) = 5
      ·
       obtain ⟨c174c, c174d⟩ : (x4 : Int) ≤ 5 ∧ (5 : Int) ≤ x4 := by omega
       have c174a : ((x4 : Int) == (5)) = true := by simpa using c174
       have c174b : ((x4 : Int) != (5)) = false := by simpa using c174
       have c174h := hid c174
       clear c174
       go_wp2_with fail
       refine (nextB_any B k _ _ (by omega) (H6.out.tapeAt 8 rfl)).mono ?_
       rintro e w176 ⟨x175, rfl, x175a, x175b, htn, hgn, hsn⟩
       have H177 := hid (H6.out.next 8 rfl htn hgn)
       clear htn hgn hsn
       go_wp2_with fail
       refine (weights_any B k _ _ (by omega) (H177.out.tapeAt 8 rfl)).mono ?_
       rintro e w178 ⟨wv179, wl180, rfl, hlen, hin, ho, ht, hg⟩
       have H181 := hid (H177.out.add (H177.out.next 8 rfl ht hg) ho)
       have HWLwl180 := hid hlen
       have HWBwl180 := hid hin
       obtain ⟨wv179a, wv179c, rfl, -⟩ := ho.slc
       clear hlen hin ho ht hg
       have H182 := hid (show St B W (.own (.slice wv179a wl180.length wv179c) wl180 :: .cells (D1 + 1) #[.int .i64 0, .int .i64 0, .int .i64 0, .bool false, .int .i64 0, .int .i64 0, .int .i64 0, .int .i64 0, .slice none 0 0, .slice none 0 0, .slice none 0 0, .int .i64 0, .int .i64 0, .slice none 0 0, .slice none 0 0, .int .i64 0, .slice none 0 0, .int .i64 0] 33 :: .cells D1 #[.int .i64 kd, .int .i64 sa, .int .i64 sb, .bool bar, .int .i64 ep, .int .i64 ef, .int .i64 kw, .int .i64 kh, .slice wa wl.length wc, .slice ra rl.length rc, .slice ca cl.length cc, .int .i64 sh, .int .i64 sh2, .slice xa xn xc, .slice ya yn yc, .int .i64 bins, .slice oa on oc, .int .i64 mx] 33 :: .arr (68) 2 (.slice xa xn xc) xn (tapV xp) :: .arr (68) 2 (.slice ya yn yc) yn (tapV yp) :: .own (.slice wa wl.length wc) wl :: .own (.slice ra rl.length rc) rl :: .own (.slice ca cl.length cc) cl :: .arr (70) 2 (.slice oa on oc) on (prV ol) :: .tape k :: l) rs w178 from by have h9 := H181.out; rw [HA.out] at h9; exact h9)
       have z183 := H182.out.cell 2 rfl 8 rfl
       have z184 := H182.out.free 2 rfl 8
       go_upto_region 31 with fail
       clear z183 z184
       have H185 := hid (show St B W (.own (.slice wv179a wl180.length wv179c) wl180 :: .cells (D1 + 1) #[.int .i64 0, .int .i64 0, .int .i64 0, .bool false, .int .i64 0, .int .i64 0, .int .i64 0, .int .i64 0, .slice none 0 0, .slice none 0 0, .slice none 0 0, .int .i64 0, .int .i64 0, .slice none 0 0, .slice none 0 0, .int .i64 0, .slice none 0 0, .int .i64 0] 33 :: .cells D1 #[.int .i64 kd, .int .i64 sa, .int .i64 sb, .bool bar, .int .i64 ep, .int .i64 ef, .int .i64 kw, .int .i64 kh, .slice wv179a wl180.length wv179c, .slice ra rl.length rc, .slice ca cl.length cc, .int .i64 sh, .int .i64 sh2, .slice xa xn xc, .slice ya yn yc, .int .i64 bins, .slice oa on oc, .int .i64 mx] 33 :: .arr (68) 2 (.slice xa xn xc) xn (tapV xp) :: .arr (68) 2 (.slice ya yn yc) yn (tapV yp) :: .own (.slice wa wl.length wc) wl :: .own (.slice ra rl.length rc) rl :: .own (.slice ca cl.length cc) cl :: .arr (70) 2 (.slice oa on oc) on (prV ol) :: .tape k :: l) rs (w178.setCell ⟨D1, 8, none⟩ (.slice wv179a wl180.length wv179c)) from (H182.out.set 2 rfl 8 (.slice wv179a wl180.length wv179c)))
       first | refine gen_code H185.out ?_ | refine gen_list H185.out ?_ | refine gen_calls H185.out ?_
       intro w186 hG
       clear H185
       have H185 := hid hG
       clear hG
       obtain ⟨A9, hA9⟩ : ∃ z : Array Value, #[.int .i64 kd, .int .i64 sa, .int .i64 sb, .bool bar, .int .i64 ep, .int .i64 ef, .int .i64 kw, .int .i64 kh, .slice wv179a wl180.length wv179c, .slice ra rl.length rc, .slice ca cl.length cc, .int .i64 sh, .int .i64 sh2, .slice xa xn xc, .slice ya yn yc, .int .i64 bins, .slice oa on oc, .int .i64 mx] = z := ⟨_, rfl⟩
       have H187 := hid (show St B W (.own (.slice wv179a wl180.length wv179c) wl180 :: .cells (D1 + 1) #[.int .i64 0, .int .i64 0, .int .i64 0, .bool false, .int .i64 0, .int .i64 0, .int .i64 0, .int .i64 0, .slice none 0 0, .slice none 0 0, .slice none 0 0, .int .i64 0, .int .i64 0, .slice none 0 0, .slice none 0 0, .int .i64 0, .slice none 0 0, .int .i64 0] 33 :: .cells D1 A9 33 :: .arr (68) 2 (.slice xa xn xc) xn (tapV xp) :: .arr (68) 2 (.slice ya yn yc) yn (tapV yp) :: .own (.slice wa wl.length wc) wl :: .own (.slice ra rl.length rc) rl :: .own (.slice ca cl.length cc) cl :: .arr (70) 2 (.slice oa on oc) on (prV ol) :: .tape k :: l) rs w186 from by have h9 := H185.out; rw [hA9] at h9; exact h9)
       have HA9 := hid hA9.symm
       clear hA9
       obtain ⟨z188, z189, z190, z191, z192, z193, z194, z195, z196, z197, z198, z199, z200, z201, z202, z203, z204, z205⟩ := cs18 H187.out 1 rfl
       have z206 := H187.out.loadStg 2 rfl (by rw [HA9.out]; rfl)
       go_wp2_with (first | (refine loadArm z206 (by rfl) (by rfl) ?_) | (refine storeArm (H187.out.rowAt 1 rfl) (cs' := A9) (by rw [HA9.out]; first | rfl | kernel_rfl) (by rw [HA9.out]; first | rfl | kernel_rfl) (by rw [HA9.out]; first | rfl | kernel_rfl) (by rfl) (by rfl) (by rfl) ?_))
       clear z188 z189 z190 z191 z192 z193 z194 z195 z196 z197 z198 z199 z200 z201 z202 z203 z204 z205 z206
       have H207 := hid (show St B W (.own (.slice wv179a wl180.length wv179c) wl180 :: .cells (D1 + 1) A9 33 :: .cells D1 A9 33 :: .arr (68) 2 (.slice xa xn xc) xn (tapV xp) :: .arr (68) 2 (.slice ya yn yc) yn (tapV yp) :: .own (.slice wa wl.length wc) wl :: .own (.slice ra rl.length rc) rl :: .own (.slice ca cl.length cc) cl :: .arr (70) 2 (.slice oa on oc) on (prV ol) :: .tape k :: l) rs (w186.setRow (D1 + 1) A9) from (H187.out.setRow 1 rfl A9))
       have hfin := St.pickT (l0 := [.own (.slice wv179a wl180.length wv179c) wl180, .cells (D1 + 1) A9 33, .cells D1 A9 33, .arr (68) 2 (.slice xa xn xc) xn (tapV xp), .arr (68) 2 (.slice ya yn yc) yn (tapV yp), .own (.slice wa wl.length wc) wl, .own (.slice ra rl.length rc) rl, .own (.slice ca cl.length cc) cl, .arr (70) 2 (.slice oa on oc) on (prV ol), .tape k]) (T := l) (l' := [.arr (68) 2 (.slice xa xn xc) xn (tapV xp), .arr (68) 2 (.slice ya yn yc) yn (tapV yp), .own (.slice wv179a wl180.length wv179c) wl180, .own (.slice ra rl.length rc) rl, .own (.slice ca cl.length cc) cl, .arr (70) 2 (.slice oa on oc) on (prV ol), .tape k]) H207.out [3, 4, 0, 6, 7, 8, 9] rfl (by decide)
       refine bodyPost_ret (v := .agg A9) ?_ rfl ⟨⟨kd, sa, sb, bar, ep, ef, kw, kh, wv179a, wv179c, wl180, ra, rc, rl, ca, cc, cl, sh, sh2, xa, xn, xc, xp, ya, yn, yc, yp, bins, oa, on, oc, ol, mx⟩, rs, by rw [HA9.out]; rfl, ⟨by (try simp only [List.length_nil]); have := HWLwl180.out; first | omega | (simp; omega), by (try simp only [List.length_nil]); have := HWLwl180.out; first | omega | (simp; omega), by (try simp only [List.length_nil]); have := HWLwl180.out; first | omega | (simp; omega), by (try simp only [List.length_nil]); have := HWLwl180.out; first | omega | (simp; omega), by (try simp only [List.length_nil]); have := HWLwl180.out; first | omega | (simp; omega), by (try simp only [List.length_nil]); have := HWLwl180.out; first | omega | (simp; omega)⟩, HQX.out, HQY.out, hfin⟩
       exact results_cell_row rfl _ _ (D1 + 1) 33 _ (0, 0) _ (by rfl) (H207.out.rowAt 1 rfl) Try.underlying33 rfl (by have hz : (Try.prog.info? 33).map (·.size) = some 18 := (by kernel_rfl); rw [hz, HA9.out]; rfl)
      ·
       have c174a : ((x4 : Int) == (5)) = false := by simpa using c174
       have c174b : ((x4 : Int) != (5)) = true := by simpa using c174
       have c174h := hid c174
       clear c174
       by_cases c208 : (x4 : Int) = 6
       ·
        obtain ⟨c208c, c208d⟩ : (x4 : Int) ≤ 6 ∧ (6 : Int) ≤ x4 := by omega
        have c208a : ((x4 : Int) == (6)) = true := by simpa using c208
        have c208b : ((x4 : Int) != (6)) = false := by simpa using c208
        have c208h := hid c208
        clear c208
        go_wp2_with fail
        refine (nextB_any B k _ _ (by omega) (H6.out.tapeAt 8 rfl)).mono ?_
        rintro e w210 ⟨x209, rfl, x209a, x209b, htn, hgn, hsn⟩
        have H211 := hid (H6.out.next 8 rfl htn hgn)
        clear htn hgn hsn
        go_wp2_with fail
        refine (weights_any B k _ _ (by omega) (H211.out.tapeAt 8 rfl)).mono ?_
        rintro e w212 ⟨wv213, wl214, rfl, hlen, hin, ho, ht, hg⟩
        have H215 := hid (H211.out.add (H211.out.next 8 rfl ht hg) ho)
        have HWLwl214 := hid hlen
        have HWBwl214 := hid hin
        obtain ⟨wv213a, wv213c, rfl, -⟩ := ho.slc
        clear hlen hin ho ht hg
        have H216 := hid (show St B W (.own (.slice wv213a wl214.length wv213c) wl214 :: .cells (D1 + 1) #[.int .i64 0, .int .i64 0, .int .i64 0, .bool false, .int .i64 0, .int .i64 0, .int .i64 0, .int .i64 0, .slice none 0 0, .slice none 0 0, .slice none 0 0, .int .i64 0, .int .i64 0, .slice none 0 0, .slice none 0 0, .int .i64 0, .slice none 0 0, .int .i64 0] 33 :: .cells D1 #[.int .i64 kd, .int .i64 sa, .int .i64 sb, .bool bar, .int .i64 ep, .int .i64 ef, .int .i64 kw, .int .i64 kh, .slice wa wl.length wc, .slice ra rl.length rc, .slice ca cl.length cc, .int .i64 sh, .int .i64 sh2, .slice xa xn xc, .slice ya yn yc, .int .i64 bins, .slice oa on oc, .int .i64 mx] 33 :: .arr (68) 2 (.slice xa xn xc) xn (tapV xp) :: .arr (68) 2 (.slice ya yn yc) yn (tapV yp) :: .own (.slice wa wl.length wc) wl :: .own (.slice ra rl.length rc) rl :: .own (.slice ca cl.length cc) cl :: .arr (70) 2 (.slice oa on oc) on (prV ol) :: .tape k :: l) rs w212 from by have h9 := H215.out; rw [HA.out] at h9; exact h9)
        have z217 := H216.out.cell 2 rfl 9 rfl
        have z218 := H216.out.free 2 rfl 9
        go_upto_region 31 with fail
        clear z217 z218
        have H219 := hid (show St B W (.own (.slice wv213a wl214.length wv213c) wl214 :: .cells (D1 + 1) #[.int .i64 0, .int .i64 0, .int .i64 0, .bool false, .int .i64 0, .int .i64 0, .int .i64 0, .int .i64 0, .slice none 0 0, .slice none 0 0, .slice none 0 0, .int .i64 0, .int .i64 0, .slice none 0 0, .slice none 0 0, .int .i64 0, .slice none 0 0, .int .i64 0] 33 :: .cells D1 #[.int .i64 kd, .int .i64 sa, .int .i64 sb, .bool bar, .int .i64 ep, .int .i64 ef, .int .i64 kw, .int .i64 kh, .slice wa wl.length wc, .slice wv213a wl214.length wv213c, .slice ca cl.length cc, .int .i64 sh, .int .i64 sh2, .slice xa xn xc, .slice ya yn yc, .int .i64 bins, .slice oa on oc, .int .i64 mx] 33 :: .arr (68) 2 (.slice xa xn xc) xn (tapV xp) :: .arr (68) 2 (.slice ya yn yc) yn (tapV yp) :: .own (.slice wa wl.length wc) wl :: .own (.slice ra rl.length rc) rl :: .own (.slice ca cl.length cc) cl :: .arr (70) 2 (.slice oa on oc) on (prV ol) :: .tape k :: l) rs (w212.setCell ⟨D1, 9, none⟩ (.slice wv213a wl214.length wv213c)) from (H216.out.set 2 rfl 9 (.slice wv213a wl214.length wv213c)))
        first | refine gen_code H219.out ?_ | refine gen_list H219.out ?_ | refine gen_calls H219.out ?_
        intro w220 hG
        clear H219
        have H219 := hid hG
        clear hG
        obtain ⟨A9, hA9⟩ : ∃ z : Array Value, #[.int .i64 kd, .int .i64 sa, .int .i64 sb, .bool bar, .int .i64 ep, .int .i64 ef, .int .i64 kw, .int .i64 kh, .slice wa wl.length wc, .slice wv213a wl214.length wv213c, .slice ca cl.length cc, .int .i64 sh, .int .i64 sh2, .slice xa xn xc, .slice ya yn yc, .int .i64 bins, .slice oa on oc, .int .i64 mx] = z := ⟨_, rfl⟩
        have H221 := hid (show St B W (.own (.slice wv213a wl214.length wv213c) wl214 :: .cells (D1 + 1) #[.int .i64 0, .int .i64 0, .int .i64 0, .bool false, .int .i64 0, .int .i64 0, .int .i64 0, .int .i64 0, .slice none 0 0, .slice none 0 0, .slice none 0 0, .int .i64 0, .int .i64 0, .slice none 0 0, .slice none 0 0, .int .i64 0, .slice none 0 0, .int .i64 0] 33 :: .cells D1 A9 33 :: .arr (68) 2 (.slice xa xn xc) xn (tapV xp) :: .arr (68) 2 (.slice ya yn yc) yn (tapV yp) :: .own (.slice wa wl.length wc) wl :: .own (.slice ra rl.length rc) rl :: .own (.slice ca cl.length cc) cl :: .arr (70) 2 (.slice oa on oc) on (prV ol) :: .tape k :: l) rs w220 from by have h9 := H219.out; rw [hA9] at h9; exact h9)
        have HA9 := hid hA9.symm
        clear hA9
        obtain ⟨z222, z223, z224, z225, z226, z227, z228, z229, z230, z231, z232, z233, z234, z235, z236, z237, z238, z239⟩ := cs18 H221.out 1 rfl
        have z240 := H221.out.loadStg 2 rfl (by rw [HA9.out]; rfl)
        go_wp2_with (first | (refine loadArm z240 (by rfl) (by rfl) ?_) | (refine storeArm (H221.out.rowAt 1 rfl) (cs' := A9) (by rw [HA9.out]; first | rfl | kernel_rfl) (by rw [HA9.out]; first | rfl | kernel_rfl) (by rw [HA9.out]; first | rfl | kernel_rfl) (by rfl) (by rfl) (by rfl) ?_))
        clear z222 z223 z224 z225 z226 z227 z228 z229 z230 z231 z232 z233 z234 z235 z236 z237 z238 z239 z240
        have H241 := hid (show St B W (.own (.slice wv213a wl214.length wv213c) wl214 :: .cells (D1 + 1) A9 33 :: .cells D1 A9 33 :: .arr (68) 2 (.slice xa xn xc) xn (tapV xp) :: .arr (68) 2 (.slice ya yn yc) yn (tapV yp) :: .own (.slice wa wl.length wc) wl :: .own (.slice ra rl.length rc) rl :: .own (.slice ca cl.length cc) cl :: .arr (70) 2 (.slice oa on oc) on (prV ol) :: .tape k :: l) rs (w220.setRow (D1 + 1) A9) from (H221.out.setRow 1 rfl A9))
        have hfin := St.pickT (l0 := [.own (.slice wv213a wl214.length wv213c) wl214, .cells (D1 + 1) A9 33, .cells D1 A9 33, .arr (68) 2 (.slice xa xn xc) xn (tapV xp), .arr (68) 2 (.slice ya yn yc) yn (tapV yp), .own (.slice wa wl.length wc) wl, .own (.slice ra rl.length rc) rl, .own (.slice ca cl.length cc) cl, .arr (70) 2 (.slice oa on oc) on (prV ol), .tape k]) (T := l) (l' := [.arr (68) 2 (.slice xa xn xc) xn (tapV xp), .arr (68) 2 (.slice ya yn yc) yn (tapV yp), .own (.slice wa wl.length wc) wl, .own (.slice wv213a wl214.length wv213c) wl214, .own (.slice ca cl.length cc) cl, .arr (70) 2 (.slice oa on oc) on (prV ol), .tape k]) H241.out [3, 4, 5, 0, 7, 8, 9] rfl (by decide)
        refine bodyPost_ret (v := .agg A9) ?_ rfl ⟨⟨kd, sa, sb, bar, ep, ef, kw, kh, wa, wc, wl, wv213a, wv213c, wl214, ca, cc, cl, sh, sh2, xa, xn, xc, xp, ya, yn, yc, yp, bins, oa, on, oc, ol, mx⟩, rs, by rw [HA9.out]; rfl, ⟨by (try simp only [List.length_nil]); have := HWLwl214.out; first | omega | (simp; omega), by (try simp only [List.length_nil]); have := HWLwl214.out; first | omega | (simp; omega), by (try simp only [List.length_nil]); have := HWLwl214.out; first | omega | (simp; omega), by (try simp only [List.length_nil]); have := HWLwl214.out; first | omega | (simp; omega), by (try simp only [List.length_nil]); have := HWLwl214.out; first | omega | (simp; omega), by (try simp only [List.length_nil]); have := HWLwl214.out; first | omega | (simp; omega)⟩, HQX.out, HQY.out, hfin⟩
        exact results_cell_row rfl _ _ (D1 + 1) 33 _ (0, 0) _ (by rfl) (H241.out.rowAt 1 rfl) Try.underlying33 rfl (by have hz : (Try.prog.info? 33).map (·.size) = some 18 := (by kernel_rfl); rw [hz, HA9.out]; rfl)
       ·
        have c208a : ((x4 : Int) == (6)) = false := by simpa using c208
        have c208b : ((x4 : Int) != (6)) = true := by simpa using c208
        have c208h := hid c208
        clear c208
        by_cases c242 : (x4 : Int) = 7
        ·
         obtain ⟨c242c, c242d⟩ : (x4 : Int) ≤ 7 ∧ (7 : Int) ≤ x4 := by omega
         have c242a : ((x4 : Int) == (7)) = true := by simpa using c242
         have c242b : ((x4 : Int) != (7)) = false := by simpa using c242
         have c242h := hid c242
         clear c242
         obtain ⟨D243, hD243⟩ : ∃ D, w5.heap.size = D := ⟨_, rfl⟩
         go_wp2_with fail
         have H244 := hid (show St B W (.cells D243 #[.int .i64 0, .int .i64 (-1), .int .i64 25, .int .i64 24] 3 :: .cells (D1 + 1) #[.int .i64 0, .int .i64 0, .int .i64 0, .bool false, .int .i64 0, .int .i64 0, .int .i64 0, .int .i64 0, .slice none 0 0, .slice none 0 0, .slice none 0 0, .int .i64 0, .int .i64 0, .slice none 0 0, .slice none 0 0, .int .i64 0, .slice none 0 0, .int .i64 0] 33 :: .cells D1 A 33 :: .arr (68) 2 (.slice xa xn xc) xn (tapV xp) :: .arr (68) 2 (.slice ya yn yc) yn (tapV yp) :: .own (.slice wa wl.length wc) wl :: .own (.slice ra rl.length rc) rl :: .own (.slice ca cl.length cc) cl :: .arr (70) 2 (.slice oa on oc) on (prV ol) :: .tape k :: l) rs (w5.alloc (.cells #[.int .i64 0, .int .i64 (-1), .int .i64 25, .int .i64 24] 3)) from (H6.out.alloc #[.int .i64 0, .int .i64 (-1), .int .i64 25, .int .i64 24] 3 hD243))
         first | refine gen_code H244.out ?_ | refine gen_list H244.out ?_ | refine gen_calls H244.out ?_
         intro w245 hG
         clear H244
         have H244 := hid hG
         clear hG
         clear hD243
         refine (pickB_any B k _ 4 4 [0, (-1), 25, 24] _ (by omega) (by omega) (H244.out.tapeAt 9 rfl) (H244.out.lit 0 [0, (-1), 25, 24] rfl (by simp)).row (.inr ⟨_, rfl, H244.out.ne 0 9 rfl rfl (by decide) rfl rfl⟩)).mono ?_
         rintro e w247 ⟨x246, rfl, hx246, htn, hgn, hsn⟩
         have H248 := hid (H244.out.next 9 rfl htn hgn)
         clear htn hgn hsn
         obtain ⟨x246a, x246b⟩ : (-1 : Int) ≤ x246 ∧ x246 ≤ 25 := by simp at hx246; omega
         clear hx246
         obtain ⟨D249, hD249⟩ : ∃ D, w247.heap.size = D := ⟨_, rfl⟩
         go_wp2_with fail
         have H250 := hid (show St B W (.cells D249 #[.int .i64 0, .int .i64 25, .int .i64 3] 3 :: .cells D243 #[.int .i64 0, .int .i64 (-1), .int .i64 25, .int .i64 24] 3 :: .cells (D1 + 1) #[.int .i64 0, .int .i64 0, .int .i64 0, .bool false, .int .i64 0, .int .i64 0, .int .i64 0, .int .i64 0, .slice none 0 0, .slice none 0 0, .slice none 0 0, .int .i64 0, .int .i64 0, .slice none 0 0, .slice none 0 0, .int .i64 0, .slice none 0 0, .int .i64 0] 33 :: .cells D1 A 33 :: .arr (68) 2 (.slice xa xn xc) xn (tapV xp) :: .arr (68) 2 (.slice ya yn yc) yn (tapV yp) :: .own (.slice wa wl.length wc) wl :: .own (.slice ra rl.length rc) rl :: .own (.slice ca cl.length cc) cl :: .arr (70) 2 (.slice oa on oc) on (prV ol) :: .tape k :: l) rs (w247.alloc (.cells #[.int .i64 0, .int .i64 25, .int .i64 3] 3)) from (H248.out.alloc #[.int .i64 0, .int .i64 25, .int .i64 3] 3 hD249))
         first | refine gen_code H250.out ?_ | refine gen_list H250.out ?_ | refine gen_calls H250.out ?_
         intro w251 hG
         clear H250
         have H250 := hid hG
         clear hG
         clear hD249
         refine (pickB_any B k _ 3 3 [0, 25, 3] _ (by omega) (by omega) (H250.out.tapeAt 10 rfl) (H250.out.lit 0 [0, 25, 3] rfl (by simp)).row (.inr ⟨_, rfl, H250.out.ne 0 10 rfl rfl (by decide) rfl rfl⟩)).mono ?_
         rintro e w253 ⟨x252, rfl, hx252, htn, hgn, hsn⟩
         have H254 := hid (H250.out.next 10 rfl htn hgn)
         clear htn hgn hsn
         obtain ⟨x252a, x252b⟩ : (0 : Int) ≤ x252 ∧ x252 ≤ 25 := by simp at hx252; omega
         clear hx252
         have H255 := hid (show St B W (.cells D249 #[.int .i64 0, .int .i64 25, .int .i64 3] 3 :: .cells D243 #[.int .i64 0, .int .i64 (-1), .int .i64 25, .int .i64 24] 3 :: .cells (D1 + 1) #[.int .i64 0, .int .i64 0, .int .i64 0, .bool false, .int .i64 0, .int .i64 0, .int .i64 0, .int .i64 0, .slice none 0 0, .slice none 0 0, .slice none 0 0, .int .i64 0, .int .i64 0, .slice none 0 0, .slice none 0 0, .int .i64 0, .slice none 0 0, .int .i64 0] 33 :: .cells D1 #[.int .i64 kd, .int .i64 sa, .int .i64 sb, .bool bar, .int .i64 ep, .int .i64 ef, .int .i64 kw, .int .i64 kh, .slice wa wl.length wc, .slice ra rl.length rc, .slice ca cl.length cc, .int .i64 sh, .int .i64 sh2, .slice xa xn xc, .slice ya yn yc, .int .i64 bins, .slice oa on oc, .int .i64 mx] 33 :: .arr (68) 2 (.slice xa xn xc) xn (tapV xp) :: .arr (68) 2 (.slice ya yn yc) yn (tapV yp) :: .own (.slice wa wl.length wc) wl :: .own (.slice ra rl.length rc) rl :: .own (.slice ca cl.length cc) cl :: .arr (70) 2 (.slice oa on oc) on (prV ol) :: .tape k :: l) rs w253 from by have h9 := H254.out; rw [HA.out] at h9; exact h9)
         have z256 := H255.out.cell 3 rfl 11 rfl
         have z257 := H255.out.free 3 rfl 11
         have z258 := H255.out.cell 3 rfl 12 rfl
         have z259 := H255.out.free 3 rfl 12
         go_upto_region 31 with fail
         clear z256 z257 z258 z259
         have H260 := hid (show St B W (.cells D249 #[.int .i64 0, .int .i64 25, .int .i64 3] 3 :: .cells D243 #[.int .i64 0, .int .i64 (-1), .int .i64 25, .int .i64 24] 3 :: .cells (D1 + 1) #[.int .i64 0, .int .i64 0, .int .i64 0, .bool false, .int .i64 0, .int .i64 0, .int .i64 0, .int .i64 0, .slice none 0 0, .slice none 0 0, .slice none 0 0, .int .i64 0, .int .i64 0, .slice none 0 0, .slice none 0 0, .int .i64 0, .slice none 0 0, .int .i64 0] 33 :: .cells D1 #[.int .i64 kd, .int .i64 sa, .int .i64 sb, .bool bar, .int .i64 ep, .int .i64 ef, .int .i64 kw, .int .i64 kh, .slice wa wl.length wc, .slice ra rl.length rc, .slice ca cl.length cc, .int .i64 x246, .int .i64 x252, .slice xa xn xc, .slice ya yn yc, .int .i64 bins, .slice oa on oc, .int .i64 mx] 33 :: .arr (68) 2 (.slice xa xn xc) xn (tapV xp) :: .arr (68) 2 (.slice ya yn yc) yn (tapV yp) :: .own (.slice wa wl.length wc) wl :: .own (.slice ra rl.length rc) rl :: .own (.slice ca cl.length cc) cl :: .arr (70) 2 (.slice oa on oc) on (prV ol) :: .tape k :: l) rs ((w253.setCell ⟨D1, 11, none⟩ (.int .i64 x246)).setCell ⟨D1, 12, none⟩ (.int .i64 x252)) from ((H255.out.set 3 rfl 11 (.int .i64 x246)).set 3 rfl 12 (.int .i64 x252)))
         first | refine gen_code H260.out ?_ | refine gen_list H260.out ?_ | refine gen_calls H260.out ?_
         intro w261 hG
         clear H260
         have H260 := hid hG
         clear hG
         obtain ⟨A9, hA9⟩ : ∃ z : Array Value, #[.int .i64 kd, .int .i64 sa, .int .i64 sb, .bool bar, .int .i64 ep, .int .i64 ef, .int .i64 kw, .int .i64 kh, .slice wa wl.length wc, .slice ra rl.length rc, .slice ca cl.length cc, .int .i64 x246, .int .i64 x252, .slice xa xn xc, .slice ya yn yc, .int .i64 bins, .slice oa on oc, .int .i64 mx] = z := ⟨_, rfl⟩
         have H262 := hid (show St B W (.cells D249 #[.int .i64 0, .int .i64 25, .int .i64 3] 3 :: .cells D243 #[.int .i64 0, .int .i64 (-1), .int .i64 25, .int .i64 24] 3 :: .cells (D1 + 1) #[.int .i64 0, .int .i64 0, .int .i64 0, .bool false, .int .i64 0, .int .i64 0, .int .i64 0, .int .i64 0, .slice none 0 0, .slice none 0 0, .slice none 0 0, .int .i64 0, .int .i64 0, .slice none 0 0, .slice none 0 0, .int .i64 0, .slice none 0 0, .int .i64 0] 33 :: .cells D1 A9 33 :: .arr (68) 2 (.slice xa xn xc) xn (tapV xp) :: .arr (68) 2 (.slice ya yn yc) yn (tapV yp) :: .own (.slice wa wl.length wc) wl :: .own (.slice ra rl.length rc) rl :: .own (.slice ca cl.length cc) cl :: .arr (70) 2 (.slice oa on oc) on (prV ol) :: .tape k :: l) rs w261 from by have h9 := H260.out; rw [hA9] at h9; exact h9)
         have HA9 := hid hA9.symm
         clear hA9
         obtain ⟨z263, z264, z265, z266, z267, z268, z269, z270, z271, z272, z273, z274, z275, z276, z277, z278, z279, z280⟩ := cs18 H262.out 2 rfl
         have z281 := H262.out.loadStg 3 rfl (by rw [HA9.out]; rfl)
         go_wp2_with (first | (refine loadArm z281 (by rfl) (by rfl) ?_) | (refine storeArm (H262.out.rowAt 2 rfl) (cs' := A9) (by rw [HA9.out]; first | rfl | kernel_rfl) (by rw [HA9.out]; first | rfl | kernel_rfl) (by rw [HA9.out]; first | rfl | kernel_rfl) (by rfl) (by rfl) (by rfl) ?_))
         clear z263 z264 z265 z266 z267 z268 z269 z270 z271 z272 z273 z274 z275 z276 z277 z278 z279 z280 z281
         have H282 := hid (show St B W (.cells D249 #[.int .i64 0, .int .i64 25, .int .i64 3] 3 :: .cells D243 #[.int .i64 0, .int .i64 (-1), .int .i64 25, .int .i64 24] 3 :: .cells (D1 + 1) A9 33 :: .cells D1 A9 33 :: .arr (68) 2 (.slice xa xn xc) xn (tapV xp) :: .arr (68) 2 (.slice ya yn yc) yn (tapV yp) :: .own (.slice wa wl.length wc) wl :: .own (.slice ra rl.length rc) rl :: .own (.slice ca cl.length cc) cl :: .arr (70) 2 (.slice oa on oc) on (prV ol) :: .tape k :: l) rs (w261.setRow (D1 + 1) A9) from (H262.out.setRow 2 rfl A9))
         have hfin := St.pickT (l0 := [.cells D249 #[.int .i64 0, .int .i64 25, .int .i64 3] 3, .cells D243 #[.int .i64 0, .int .i64 (-1), .int .i64 25, .int .i64 24] 3, .cells (D1 + 1) A9 33, .cells D1 A9 33, .arr (68) 2 (.slice xa xn xc) xn (tapV xp), .arr (68) 2 (.slice ya yn yc) yn (tapV yp), .own (.slice wa wl.length wc) wl, .own (.slice ra rl.length rc) rl, .own (.slice ca cl.length cc) cl, .arr (70) 2 (.slice oa on oc) on (prV ol), .tape k]) (T := l) (l' := [.arr (68) 2 (.slice xa xn xc) xn (tapV xp), .arr (68) 2 (.slice ya yn yc) yn (tapV yp), .own (.slice wa wl.length wc) wl, .own (.slice ra rl.length rc) rl, .own (.slice ca cl.length cc) cl, .arr (70) 2 (.slice oa on oc) on (prV ol), .tape k]) H282.out [4, 5, 6, 7, 8, 9, 10] rfl (by decide)
         refine bodyPost_ret (v := .agg A9) ?_ rfl ⟨⟨kd, sa, sb, bar, ep, ef, kw, kh, wa, wc, wl, ra, rc, rl, ca, cc, cl, x246, x252, xa, xn, xc, xp, ya, yn, yc, yp, bins, oa, on, oc, ol, mx⟩, rs, by rw [HA9.out]; rfl, ⟨by (try simp only [List.length_nil]); first | omega | (simp; omega), by (try simp only [List.length_nil]); first | omega | (simp; omega), by (try simp only [List.length_nil]); first | omega | (simp; omega), by (try simp only [List.length_nil]); first | omega | (simp; omega), by (try simp only [List.length_nil]); first | omega | (simp; omega), by (try simp only [List.length_nil]); first | omega | (simp; omega)⟩, HQX.out, HQY.out, hfin⟩
         exact results_cell_row rfl _ _ (D1 + 1) 33 _ (0, 0) _ (by rfl) (H282.out.rowAt 2 rfl) Try.underlying33 rfl (by have hz : (Try.prog.info? 33).map (·.size) = some 18 := (by kernel_rfl); rw [hz, HA9.out]; rfl)
        ·
         have c242a : ((x4 : Int) == (7)) = false := by simpa using c242
         have c242b : ((x4 : Int) != (7)) = true := by simpa using c242
         have c242h := hid c242
         clear c242
         by_cases c283 : (x4 : Int) = 8
         ·
          obtain ⟨c283c, c283d⟩ : (x4 : Int) ≤ 8 ∧ (8 : Int) ≤ x4 := by omega
          have c283a : ((x4 : Int) == (8)) = true := by simpa using c283
          have c283b : ((x4 : Int) != (8)) = false := by simpa using c283
          have c283h := hid c283
          clear c283
          go_upto_region 20 with fail
          have zq20 : ∀ ob, (w5.alloc ob).cell? ⟨D1, 13, none⟩ = some (.slice xa xn xc) := fun ob => (H6.out.call (below_self _ _)).cell 1 rfl 13 (show A[13]? = some _ from by rw [HA.out]; rfl)
          obtain ⟨D284, hD284⟩ : ∃ D, w5.heap.size = D := ⟨_, rfl⟩
          have H285 := hid (show St B W (.cells D284 #[] 68 :: .cells (D1 + 1) #[.int .i64 0, .int .i64 0, .int .i64 0, .bool false, .int .i64 0, .int .i64 0, .int .i64 0, .int .i64 0, .slice none 0 0, .slice none 0 0, .slice none 0 0, .int .i64 0, .int .i64 0, .slice none 0 0, .slice none 0 0, .int .i64 0, .slice none 0 0, .int .i64 0] 33 :: .cells D1 A 33 :: .arr (68) 2 (.slice xa xn xc) xn (tapV xp) :: .arr (68) 2 (.slice ya yn yc) yn (tapV yp) :: .own (.slice wa wl.length wc) wl :: .own (.slice ra rl.length rc) rl :: .own (.slice ca cl.length cc) cl :: .arr (70) 2 (.slice oa on oc) on (prV ol) :: .tape k :: l) rs (w5.alloc (.cells #[] 68)) from (H6.out.alloc #[] 68 hD284))
          have H286 := hid (show St B W (.arr (68) 2 (.slice (some ⟨D284, 0, none⟩) 0 0) 0 ([]) :: .cells (D1 + 1) #[.int .i64 0, .int .i64 0, .int .i64 0, .bool false, .int .i64 0, .int .i64 0, .int .i64 0, .int .i64 0, .slice none 0 0, .slice none 0 0, .slice none 0 0, .int .i64 0, .int .i64 0, .slice none 0 0, .slice none 0 0, .int .i64 0, .slice none 0 0, .int .i64 0] 33 :: .cells D1 A 33 :: .arr (68) 2 (.slice xa xn xc) xn (tapV xp) :: .arr (68) 2 (.slice ya yn yc) yn (tapV yp) :: .own (.slice wa wl.length wc) wl :: .own (.slice ra rl.length rc) rl :: .own (.slice ca cl.length cc) cl :: .arr (70) 2 (.slice oa on oc) on (prV ol) :: .tape k :: l) rs (w5.alloc (.cells #[] 68)) from H285.out.litArr2 0 2 0 [] rfl rfl (by decide))
          have z290 := H6.out.cell 1 rfl 13 (show A[13]? = some (.slice xa xn xc) from by rw [HA.out]; rfl)
          go_wp2_with (at_builtin; refine append_any rfl _ _ 30 68 2 32 (.agg #[.int .i64 0, .slice none 0 0]) Try.underlying30 info_tap rfl (by decide) (by decide) rfl B _ 0 [] B _ _ _ _ (tapV xp) rfl rfl (H286.out.arrE 0 rfl) (H286.out.arrE 3 rfl) (tapV_one _) (by omega) H286.out.size ?_; intro v288 w289 ho hg hv; have H287 := hid (H286.out.appendE 0 rfl ho hg hv); clear ho hg hv; refine wL_to ?_)
          clear z290
          clear H285 H286
          obtain ⟨v288a, v288c, hva⟩ := arr_slc (H287.out.arrE 0 rfl)
          subst hva
          have H291 := hid (show St B W (.arr (68) 2 (.slice v288a xn v288c) xn (tapV xp) :: .cells (D1 + 1) #[.int .i64 0, .int .i64 0, .int .i64 0, .bool false, .int .i64 0, .int .i64 0, .int .i64 0, .int .i64 0, .slice none 0 0, .slice none 0 0, .slice none 0 0, .int .i64 0, .int .i64 0, .slice none 0 0, .slice none 0 0, .int .i64 0, .slice none 0 0, .int .i64 0] 33 :: .cells D1 A 33 :: .arr (68) 2 (.slice xa xn xc) xn (tapV xp) :: .arr (68) 2 (.slice ya yn yc) yn (tapV yp) :: .own (.slice wa wl.length wc) wl :: .own (.slice ra rl.length rc) rl :: .own (.slice ca cl.length cc) cl :: .arr (70) 2 (.slice oa on oc) on (prV ol) :: .tape k :: l) rs w289 from by have h9 := H287.out; simp only [Nat.zero_add, List.nil_append] at h9; exact h9)
          clear H287
          try simp only [Nat.zero_add]
          clear hD284
          refine wL_of ?_
          try simp only [Act.put, p1, p2, p3, p4, p5, p6]
          obtain ⟨D292, hD292⟩ : ∃ D, w289.heap.size = D := ⟨_, rfl⟩
          go_wp2_with fail
          have H293 := hid (show St B W (.cells D292 #[.int .i64 (-129), .int .i64 0, .int .i64 256, .int .i64 257] 3 :: .arr (68) 2 (.slice v288a xn v288c) xn (tapV xp) :: .cells (D1 + 1) #[.int .i64 0, .int .i64 0, .int .i64 0, .bool false, .int .i64 0, .int .i64 0, .int .i64 0, .int .i64 0, .slice none 0 0, .slice none 0 0, .slice none 0 0, .int .i64 0, .int .i64 0, .slice none 0 0, .slice none 0 0, .int .i64 0, .slice none 0 0, .int .i64 0] 33 :: .cells D1 A 33 :: .arr (68) 2 (.slice xa xn xc) xn (tapV xp) :: .arr (68) 2 (.slice ya yn yc) yn (tapV yp) :: .own (.slice wa wl.length wc) wl :: .own (.slice ra rl.length rc) rl :: .own (.slice ca cl.length cc) cl :: .arr (70) 2 (.slice oa on oc) on (prV ol) :: .tape k :: l) rs (w289.alloc (.cells #[.int .i64 (-129), .int .i64 0, .int .i64 256, .int .i64 257] 3)) from (H291.out.alloc #[.int .i64 (-129), .int .i64 0, .int .i64 256, .int .i64 257] 3 hD292))
          first | refine gen_code H293.out ?_ | refine gen_list H293.out ?_ | refine gen_calls H293.out ?_
          intro w294 hG
          clear H293
          have H293 := hid hG
          clear hG
          clear hD292
          refine (pickB_any B k _ 4 4 [(-129), 0, 256, 257] _ (by omega) (by omega) (H293.out.tapeAt 10 rfl) (H293.out.lit 0 [(-129), 0, 256, 257] rfl (by simp)).row (.inr ⟨_, rfl, H293.out.ne 0 10 rfl rfl (by decide) rfl rfl⟩)).mono ?_
          rintro e w296 ⟨x295, rfl, hx295, htn, hgn, hsn⟩
          have H297 := hid (H293.out.next 10 rfl htn hgn)
          clear htn hgn hsn
          obtain ⟨x295a, x295b⟩ : (-129 : Int) ≤ x295 ∧ x295 ≤ 257 := by simp at hx295; omega
          clear hx295
          obtain ⟨D298, hD298⟩ : ∃ D, w296.heap.size = D := ⟨_, rfl⟩
          go_wp2_with fail
          have H299 := hid (show St B W (.cells D298 #[.int .i64 0, .int .i64 1, .int .i64 8, .int .i64 9] 3 :: .cells D292 #[.int .i64 (-129), .int .i64 0, .int .i64 256, .int .i64 257] 3 :: .arr (68) 2 (.slice v288a xn v288c) xn (tapV xp) :: .cells (D1 + 1) #[.int .i64 0, .int .i64 0, .int .i64 0, .bool false, .int .i64 0, .int .i64 0, .int .i64 0, .int .i64 0, .slice none 0 0, .slice none 0 0, .slice none 0 0, .int .i64 0, .int .i64 0, .slice none 0 0, .slice none 0 0, .int .i64 0, .slice none 0 0, .int .i64 0] 33 :: .cells D1 A 33 :: .arr (68) 2 (.slice xa xn xc) xn (tapV xp) :: .arr (68) 2 (.slice ya yn yc) yn (tapV yp) :: .own (.slice wa wl.length wc) wl :: .own (.slice ra rl.length rc) rl :: .own (.slice ca cl.length cc) cl :: .arr (70) 2 (.slice oa on oc) on (prV ol) :: .tape k :: l) rs (w296.alloc (.cells #[.int .i64 0, .int .i64 1, .int .i64 8, .int .i64 9] 3)) from (H297.out.alloc #[.int .i64 0, .int .i64 1, .int .i64 8, .int .i64 9] 3 hD298))
          first | refine gen_code H299.out ?_ | refine gen_list H299.out ?_ | refine gen_calls H299.out ?_
          intro w300 hG
          clear H299
          have H299 := hid hG
          clear hG
          clear hD298
          refine (pickB_any B k _ 4 4 [0, 1, 8, 9] _ (by omega) (by omega) (H299.out.tapeAt 11 rfl) (H299.out.lit 0 [0, 1, 8, 9] rfl (by simp)).row (.inr ⟨_, rfl, H299.out.ne 0 11 rfl rfl (by decide) rfl rfl⟩)).mono ?_
          rintro e w302 ⟨x301, rfl, hx301, htn, hgn, hsn⟩
          have H303 := hid (H299.out.next 11 rfl htn hgn)
          clear htn hgn hsn
          obtain ⟨x301a, x301b⟩ : (0 : Int) ≤ x301 ∧ x301 ≤ 9 := by simp at hx301; omega
          clear hx301
          go_wp2_with fail
          refine (weights_any B k _ _ (by omega) (H303.out.tapeAt 11 rfl)).mono ?_
          rintro e w304 ⟨wv305, wl306, rfl, hlen, hin, ho, ht, hg⟩
          have H307 := hid (H303.out.add (H303.out.next 11 rfl ht hg) ho)
          have HWLwl306 := hid hlen
          have HWBwl306 := hid hin
          obtain ⟨wv305a, wv305c, rfl, -⟩ := ho.slc
          clear hlen hin ho ht hg
          obtain ⟨D308, hD308⟩ : ∃ D, w304.heap.size = D := ⟨_, rfl⟩
          have H309 := hid (show St B W (.cells D308 #[.int .i64 x295, .slice wv305a wl306.length wv305c] 68 :: .own (.slice wv305a wl306.length wv305c) wl306 :: .cells D298 #[.int .i64 0, .int .i64 1, .int .i64 8, .int .i64 9] 3 :: .cells D292 #[.int .i64 (-129), .int .i64 0, .int .i64 256, .int .i64 257] 3 :: .arr (68) 2 (.slice v288a xn v288c) xn (tapV xp) :: .cells (D1 + 1) #[.int .i64 0, .int .i64 0, .int .i64 0, .bool false, .int .i64 0, .int .i64 0, .int .i64 0, .int .i64 0, .slice none 0 0, .slice none 0 0, .slice none 0 0, .int .i64 0, .int .i64 0, .slice none 0 0, .slice none 0 0, .int .i64 0, .slice none 0 0, .int .i64 0] 33 :: .cells D1 A 33 :: .arr (68) 2 (.slice xa xn xc) xn (tapV xp) :: .arr (68) 2 (.slice ya yn yc) yn (tapV yp) :: .own (.slice wa wl.length wc) wl :: .own (.slice ra rl.length rc) rl :: .own (.slice ca cl.length cc) cl :: .arr (70) 2 (.slice oa on oc) on (prV ol) :: .tape k :: l) rs (w304.alloc (.cells #[.int .i64 x295, .slice wv305a wl306.length wv305c] 68)) from (H307.out.alloc #[.int .i64 x295, .slice wv305a wl306.length wv305c] 68 hD308))
          go_wp2_with (at_builtin; refine append_vals rfl _ _ 30 68 2 32 (.agg #[.int .i64 0, .slice none 0 0]) Try.underlying30 info_tap rfl (by decide) (by decide) rfl B _ _ _ D308 1 1 [.int .i64 x295, .slice wv305a wl306.length wv305c] rfl rfl rfl (H309.out.arrE 4 rfl) (lit_news H309.out 0 [.int .i64 x295, .slice wv305a wl306.length wv305c] rfl) (by intro u hu; simp at hu; rcases hu with rfl | rfl <;> rfl) (by omega) H309.out.size ?_; intro v311 w312 ho hg hv; have H310 := hid (H309.out.appendE 4 rfl ho hg hv); clear ho hg hv; refine wL_to ?_)
          clear H309
          obtain ⟨g313, c314, hva⟩ := arr_pos (H310.out.arrE 4 rfl) (by omega)
          subst hva
          have H3159 := H310.out.lay 1 rfl
          have H3158 := (show St B W (.cells D308 #[.int .i64 x295, .slice wv305a wl306.length wv305c] 68 :: .cells D298 #[.int .i64 0, .int .i64 1, .int .i64 8, .int .i64 9] 3 :: .cells D292 #[.int .i64 (-129), .int .i64 0, .int .i64 256, .int .i64 257] 3 :: .arr (68) 2 (.slice (some ⟨g313, 0, none⟩) (xn + 1) c314) (xn + 1) (tapV xp ++ [.int .i64 x295, .slice wv305a wl306.length wv305c]) :: .cells (D1 + 1) #[.int .i64 0, .int .i64 0, .int .i64 0, .bool false, .int .i64 0, .int .i64 0, .int .i64 0, .int .i64 0, .slice none 0 0, .slice none 0 0, .slice none 0 0, .int .i64 0, .int .i64 0, .slice none 0 0, .slice none 0 0, .int .i64 0, .slice none 0 0, .int .i64 0] 33 :: .cells D1 A 33 :: .arr (68) 2 (.slice xa xn xc) xn (tapV xp) :: .arr (68) 2 (.slice ya yn yc) yn (tapV yp) :: .own (.slice wa wl.length wc) wl :: .own (.slice ra rl.length rc) rl :: .own (.slice ca cl.length cc) cl :: .arr (70) 2 (.slice oa on oc) on (prV ol) :: .tape k :: l) (⟨wv305a, wl306.length, wv305c, wl306⟩ :: rs) w312 from H310.out.freeze 1 rfl)
          rw [show tapV xp ++ [.int .i64 x295, .slice wv305a wl306.length wv305c] = tapV (xp ++ [(x295, ⟨wv305a, wl306.length, wv305c, wl306⟩)]) from by rw [tapV_app]; rfl] at H3158
          obtain ⟨tp8, htp8⟩ : ∃ t : List (Int × Ro), xp ++ [(x295, ⟨wv305a, wl306.length, wv305c, wl306⟩)] = t := ⟨_, rfl⟩
          have HQ316 := hid (show TQ B (⟨wv305a, wl306.length, wv305c, wl306⟩ :: rs) tp8 from by rw [← htp8]; exact HQX.out.snoc H3159)
          rw [htp8] at H3158
          have HQ317 := hid (HQY.out.cons ⟨wv305a, wl306.length, wv305c, wl306⟩)
          have H315 := hid H3158
          clear H3158 H3159 htp8 H310
          clear hD308
          refine wL_of ?_
          try simp only [Act.put, p1, p2, p3, p4, p5, p6]
          have H318 := hid (show St B W (.cells D308 #[.int .i64 x295, .slice wv305a wl306.length wv305c] 68 :: .cells D298 #[.int .i64 0, .int .i64 1, .int .i64 8, .int .i64 9] 3 :: .cells D292 #[.int .i64 (-129), .int .i64 0, .int .i64 256, .int .i64 257] 3 :: .arr (68) 2 (.slice (some ⟨g313, 0, none⟩) (xn + 1) c314) (xn + 1) (tapV tp8) :: .cells (D1 + 1) #[.int .i64 0, .int .i64 0, .int .i64 0, .bool false, .int .i64 0, .int .i64 0, .int .i64 0, .int .i64 0, .slice none 0 0, .slice none 0 0, .slice none 0 0, .int .i64 0, .int .i64 0, .slice none 0 0, .slice none 0 0, .int .i64 0, .slice none 0 0, .int .i64 0] 33 :: .cells D1 #[.int .i64 kd, .int .i64 sa, .int .i64 sb, .bool bar, .int .i64 ep, .int .i64 ef, .int .i64 kw, .int .i64 kh, .slice wa wl.length wc, .slice ra rl.length rc, .slice ca cl.length cc, .int .i64 sh, .int .i64 sh2, .slice xa xn xc, .slice ya yn yc, .int .i64 bins, .slice oa on oc, .int .i64 mx] 33 :: .arr (68) 2 (.slice xa xn xc) xn (tapV xp) :: .arr (68) 2 (.slice ya yn yc) yn (tapV yp) :: .own (.slice wa wl.length wc) wl :: .own (.slice ra rl.length rc) rl :: .own (.slice ca cl.length cc) cl :: .arr (70) 2 (.slice oa on oc) on (prV ol) :: .tape k :: l) (⟨wv305a, wl306.length, wv305c, wl306⟩ :: rs) w312 from by have h9 := H315.out; rw [HA.out] at h9; exact h9)
          have z319 := H318.out.cell 5 rfl 13 rfl
          have z320 := H318.out.free 5 rfl 13
          go_upto_region 31 with fail
          clear z319 z320
          have H321 := hid (show St B W (.cells D308 #[.int .i64 x295, .slice wv305a wl306.length wv305c] 68 :: .cells D298 #[.int .i64 0, .int .i64 1, .int .i64 8, .int .i64 9] 3 :: .cells D292 #[.int .i64 (-129), .int .i64 0, .int .i64 256, .int .i64 257] 3 :: .arr (68) 2 (.slice (some ⟨g313, 0, none⟩) (xn + 1) c314) (xn + 1) (tapV tp8) :: .cells (D1 + 1) #[.int .i64 0, .int .i64 0, .int .i64 0, .bool false, .int .i64 0, .int .i64 0, .int .i64 0, .int .i64 0, .slice none 0 0, .slice none 0 0, .slice none 0 0, .int .i64 0, .int .i64 0, .slice none 0 0, .slice none 0 0, .int .i64 0, .slice none 0 0, .int .i64 0] 33 :: .cells D1 #[.int .i64 kd, .int .i64 sa, .int .i64 sb, .bool bar, .int .i64 ep, .int .i64 ef, .int .i64 kw, .int .i64 kh, .slice wa wl.length wc, .slice ra rl.length rc, .slice ca cl.length cc, .int .i64 sh, .int .i64 sh2, .slice (some ⟨g313, 0, none⟩) (xn + 1) c314, .slice ya yn yc, .int .i64 bins, .slice oa on oc, .int .i64 mx] 33 :: .arr (68) 2 (.slice xa xn xc) xn (tapV xp) :: .arr (68) 2 (.slice ya yn yc) yn (tapV yp) :: .own (.slice wa wl.length wc) wl :: .own (.slice ra rl.length rc) rl :: .own (.slice ca cl.length cc) cl :: .arr (70) 2 (.slice oa on oc) on (prV ol) :: .tape k :: l) (⟨wv305a, wl306.length, wv305c, wl306⟩ :: rs) (w312.setCell ⟨D1, 13, none⟩ (.slice (some ⟨g313, 0, none⟩) (xn + 1) c314)) from (H318.out.set 5 rfl 13 (.slice (some ⟨g313, 0, none⟩) (xn + 1) c314)))
          first | refine gen_code H321.out ?_ | refine gen_list H321.out ?_ | refine gen_calls H321.out ?_
          intro w322 hG
          clear H321
          have H321 := hid hG
          clear hG
          obtain ⟨A9, hA9⟩ : ∃ z : Array Value, #[.int .i64 kd, .int .i64 sa, .int .i64 sb, .bool bar, .int .i64 ep, .int .i64 ef, .int .i64 kw, .int .i64 kh, .slice wa wl.length wc, .slice ra rl.length rc, .slice ca cl.length cc, .int .i64 sh, .int .i64 sh2, .slice (some ⟨g313, 0, none⟩) (xn + 1) c314, .slice ya yn yc, .int .i64 bins, .slice oa on oc, .int .i64 mx] = z := ⟨_, rfl⟩
          have H323 := hid (show St B W (.cells D308 #[.int .i64 x295, .slice wv305a wl306.length wv305c] 68 :: .cells D298 #[.int .i64 0, .int .i64 1, .int .i64 8, .int .i64 9] 3 :: .cells D292 #[.int .i64 (-129), .int .i64 0, .int .i64 256, .int .i64 257] 3 :: .arr (68) 2 (.slice (some ⟨g313, 0, none⟩) (xn + 1) c314) (xn + 1) (tapV tp8) :: .cells (D1 + 1) #[.int .i64 0, .int .i64 0, .int .i64 0, .bool false, .int .i64 0, .int .i64 0, .int .i64 0, .int .i64 0, .slice none 0 0, .slice none 0 0, .slice none 0 0, .int .i64 0, .int .i64 0, .slice none 0 0, .slice none 0 0, .int .i64 0, .slice none 0 0, .int .i64 0] 33 :: .cells D1 A9 33 :: .arr (68) 2 (.slice xa xn xc) xn (tapV xp) :: .arr (68) 2 (.slice ya yn yc) yn (tapV yp) :: .own (.slice wa wl.length wc) wl :: .own (.slice ra rl.length rc) rl :: .own (.slice ca cl.length cc) cl :: .arr (70) 2 (.slice oa on oc) on (prV ol) :: .tape k :: l) (⟨wv305a, wl306.length, wv305c, wl306⟩ :: rs) w322 from by have h9 := H321.out; rw [hA9] at h9; exact h9)
          have HA9 := hid hA9.symm
          clear hA9
          obtain ⟨z324, z325, z326, z327, z328, z329, z330, z331, z332, z333, z334, z335, z336, z337, z338, z339, z340, z341⟩ := cs18 H323.out 4 rfl
          have z342 := H323.out.loadStg 5 rfl (by rw [HA9.out]; rfl)
          go_wp2_with (first | (refine loadArm z342 (by rfl) (by rfl) ?_) | (refine storeArm (H323.out.rowAt 4 rfl) (cs' := A9) (by rw [HA9.out]; first | rfl | kernel_rfl) (by rw [HA9.out]; first | rfl | kernel_rfl) (by rw [HA9.out]; first | rfl | kernel_rfl) (by rfl) (by rfl) (by rfl) ?_))
          clear z324 z325 z326 z327 z328 z329 z330 z331 z332 z333 z334 z335 z336 z337 z338 z339 z340 z341 z342
          have H343 := hid (show St B W (.cells D308 #[.int .i64 x295, .slice wv305a wl306.length wv305c] 68 :: .cells D298 #[.int .i64 0, .int .i64 1, .int .i64 8, .int .i64 9] 3 :: .cells D292 #[.int .i64 (-129), .int .i64 0, .int .i64 256, .int .i64 257] 3 :: .arr (68) 2 (.slice (some ⟨g313, 0, none⟩) (xn + 1) c314) (xn + 1) (tapV tp8) :: .cells (D1 + 1) A9 33 :: .cells D1 A9 33 :: .arr (68) 2 (.slice xa xn xc) xn (tapV xp) :: .arr (68) 2 (.slice ya yn yc) yn (tapV yp) :: .own (.slice wa wl.length wc) wl :: .own (.slice ra rl.length rc) rl :: .own (.slice ca cl.length cc) cl :: .arr (70) 2 (.slice oa on oc) on (prV ol) :: .tape k :: l) (⟨wv305a, wl306.length, wv305c, wl306⟩ :: rs) (w322.setRow (D1 + 1) A9) from (H323.out.setRow 4 rfl A9))
          have hfin := St.pickT (l0 := [.cells D308 #[.int .i64 x295, .slice wv305a wl306.length wv305c] 68, .cells D298 #[.int .i64 0, .int .i64 1, .int .i64 8, .int .i64 9] 3, .cells D292 #[.int .i64 (-129), .int .i64 0, .int .i64 256, .int .i64 257] 3, .arr (68) 2 (.slice (some ⟨g313, 0, none⟩) (xn + 1) c314) (xn + 1) (tapV tp8), .cells (D1 + 1) A9 33, .cells D1 A9 33, .arr (68) 2 (.slice xa xn xc) xn (tapV xp), .arr (68) 2 (.slice ya yn yc) yn (tapV yp), .own (.slice wa wl.length wc) wl, .own (.slice ra rl.length rc) rl, .own (.slice ca cl.length cc) cl, .arr (70) 2 (.slice oa on oc) on (prV ol), .tape k]) (T := l) (l' := [.arr (68) 2 (.slice (some ⟨g313, 0, none⟩) (xn + 1) c314) (xn + 1) (tapV tp8), .arr (68) 2 (.slice ya yn yc) yn (tapV yp), .own (.slice wa wl.length wc) wl, .own (.slice ra rl.length rc) rl, .own (.slice ca cl.length cc) cl, .arr (70) 2 (.slice oa on oc) on (prV ol), .tape k]) H343.out [3, 7, 8, 9, 10, 11, 12] rfl (by decide)
          refine bodyPost_ret (v := .agg A9) ?_ rfl ⟨⟨kd, sa, sb, bar, ep, ef, kw, kh, wa, wc, wl, ra, rc, rl, ca, cc, cl, sh, sh2, (some ⟨g313, 0, none⟩), xn + 1, c314, tp8, ya, yn, yc, yp, bins, oa, on, oc, ol, mx⟩, (⟨wv305a, wl306.length, wv305c, wl306⟩ :: rs), by rw [HA9.out]; rfl, ⟨by (try simp only [List.length_nil]); have := HWLwl306.out; first | omega | (simp; omega), by (try simp only [List.length_nil]); have := HWLwl306.out; first | omega | (simp; omega), by (try simp only [List.length_nil]); have := HWLwl306.out; first | omega | (simp; omega), by (try simp only [List.length_nil]); have := HWLwl306.out; first | omega | (simp; omega), by (try simp only [List.length_nil]); have := HWLwl306.out; first | omega | (simp; omega), by (try simp only [List.length_nil]); have := HWLwl306.out; first | omega | (simp; omega)⟩, HQ316.out, HQ317.out, hfin⟩
          exact results_cell_row rfl _ _ (D1 + 1) 33 _ (0, 0) _ (by rfl) (H343.out.rowAt 4 rfl) Try.underlying33 rfl (by have hz : (Try.prog.info? 33).map (·.size) = some 18 := (by kernel_rfl); rw [hz, HA9.out]; rfl)
         ·
          have c283a : ((x4 : Int) == (8)) = false := by simpa using c283
          have c283b : ((x4 : Int) != (8)) = true := by simpa using c283
          have c283h := hid c283
          clear c283
          by_cases c344 : (x4 : Int) = 9
          ·
           obtain ⟨c344c, c344d⟩ : (x4 : Int) ≤ 9 ∧ (9 : Int) ≤ x4 := by omega
           have c344a : ((x4 : Int) == (9)) = true := by simpa using c344
           have c344b : ((x4 : Int) != (9)) = false := by simpa using c344
           have c344h := hid c344
           clear c344
           obtain ⟨D345, hD345⟩ : ∃ D, w5.heap.size = D := ⟨_, rfl⟩
           go_wp2_with fail
           have H346 := hid (show St B W (.cells D345 #[.int .i64 0, .int .i64 1, .int .i64 128, .int .i64 129] 3 :: .cells (D1 + 1) #[.int .i64 0, .int .i64 0, .int .i64 0, .bool false, .int .i64 0, .int .i64 0, .int .i64 0, .int .i64 0, .slice none 0 0, .slice none 0 0, .slice none 0 0, .int .i64 0, .int .i64 0, .slice none 0 0, .slice none 0 0, .int .i64 0, .slice none 0 0, .int .i64 0] 33 :: .cells D1 A 33 :: .arr (68) 2 (.slice xa xn xc) xn (tapV xp) :: .arr (68) 2 (.slice ya yn yc) yn (tapV yp) :: .own (.slice wa wl.length wc) wl :: .own (.slice ra rl.length rc) rl :: .own (.slice ca cl.length cc) cl :: .arr (70) 2 (.slice oa on oc) on (prV ol) :: .tape k :: l) rs (w5.alloc (.cells #[.int .i64 0, .int .i64 1, .int .i64 128, .int .i64 129] 3)) from (H6.out.alloc #[.int .i64 0, .int .i64 1, .int .i64 128, .int .i64 129] 3 hD345))
           first | refine gen_code H346.out ?_ | refine gen_list H346.out ?_ | refine gen_calls H346.out ?_
           intro w347 hG
           clear H346
           have H346 := hid hG
           clear hG
           clear hD345
           refine (pickB_any B k _ 4 4 [0, 1, 128, 129] _ (by omega) (by omega) (H346.out.tapeAt 9 rfl) (H346.out.lit 0 [0, 1, 128, 129] rfl (by simp)).row (.inr ⟨_, rfl, H346.out.ne 0 9 rfl rfl (by decide) rfl rfl⟩)).mono ?_
           rintro e w349 ⟨x348, rfl, hx348, htn, hgn, hsn⟩
           have H350 := hid (H346.out.next 9 rfl htn hgn)
           clear htn hgn hsn
           obtain ⟨x348a, x348b⟩ : (0 : Int) ≤ x348 ∧ x348 ≤ 129 := by simp at hx348; omega
           clear hx348
           have H351 := hid (show St B W (.cells D345 #[.int .i64 0, .int .i64 1, .int .i64 128, .int .i64 129] 3 :: .cells (D1 + 1) #[.int .i64 0, .int .i64 0, .int .i64 0, .bool false, .int .i64 0, .int .i64 0, .int .i64 0, .int .i64 0, .slice none 0 0, .slice none 0 0, .slice none 0 0, .int .i64 0, .int .i64 0, .slice none 0 0, .slice none 0 0, .int .i64 0, .slice none 0 0, .int .i64 0] 33 :: .cells D1 #[.int .i64 kd, .int .i64 sa, .int .i64 sb, .bool bar, .int .i64 ep, .int .i64 ef, .int .i64 kw, .int .i64 kh, .slice wa wl.length wc, .slice ra rl.length rc, .slice ca cl.length cc, .int .i64 sh, .int .i64 sh2, .slice xa xn xc, .slice ya yn yc, .int .i64 bins, .slice oa on oc, .int .i64 mx] 33 :: .arr (68) 2 (.slice xa xn xc) xn (tapV xp) :: .arr (68) 2 (.slice ya yn yc) yn (tapV yp) :: .own (.slice wa wl.length wc) wl :: .own (.slice ra rl.length rc) rl :: .own (.slice ca cl.length cc) cl :: .arr (70) 2 (.slice oa on oc) on (prV ol) :: .tape k :: l) rs w349 from by have h9 := H350.out; rw [HA.out] at h9; exact h9)
           have z352 := H351.out.cell 2 rfl 15 rfl
           have z353 := H351.out.free 2 rfl 15
           go_upto_region 31 with fail
           clear z352 z353
           have H354 := hid (show St B W (.cells D345 #[.int .i64 0, .int .i64 1, .int .i64 128, .int .i64 129] 3 :: .cells (D1 + 1) #[.int .i64 0, .int .i64 0, .int .i64 0, .bool false, .int .i64 0, .int .i64 0, .int .i64 0, .int .i64 0, .slice none 0 0, .slice none 0 0, .slice none 0 0, .int .i64 0, .int .i64 0, .slice none 0 0, .slice none 0 0, .int .i64 0, .slice none 0 0, .int .i64 0] 33 :: .cells D1 #[.int .i64 kd, .int .i64 sa, .int .i64 sb, .bool bar, .int .i64 ep, .int .i64 ef, .int .i64 kw, .int .i64 kh, .slice wa wl.length wc, .slice ra rl.length rc, .slice ca cl.length cc, .int .i64 sh, .int .i64 sh2, .slice xa xn xc, .slice ya yn yc, .int .i64 x348, .slice oa on oc, .int .i64 mx] 33 :: .arr (68) 2 (.slice xa xn xc) xn (tapV xp) :: .arr (68) 2 (.slice ya yn yc) yn (tapV yp) :: .own (.slice wa wl.length wc) wl :: .own (.slice ra rl.length rc) rl :: .own (.slice ca cl.length cc) cl :: .arr (70) 2 (.slice oa on oc) on (prV ol) :: .tape k :: l) rs (w349.setCell ⟨D1, 15, none⟩ (.int .i64 x348)) from (H351.out.set 2 rfl 15 (.int .i64 x348)))
           first | refine gen_code H354.out ?_ | refine gen_list H354.out ?_ | refine gen_calls H354.out ?_
           intro w355 hG
           clear H354
           have H354 := hid hG
           clear hG
           obtain ⟨A9, hA9⟩ : ∃ z : Array Value, #[.int .i64 kd, .int .i64 sa, .int .i64 sb, .bool bar, .int .i64 ep, .int .i64 ef, .int .i64 kw, .int .i64 kh, .slice wa wl.length wc, .slice ra rl.length rc, .slice ca cl.length cc, .int .i64 sh, .int .i64 sh2, .slice xa xn xc, .slice ya yn yc, .int .i64 x348, .slice oa on oc, .int .i64 mx] = z := ⟨_, rfl⟩
           have H356 := hid (show St B W (.cells D345 #[.int .i64 0, .int .i64 1, .int .i64 128, .int .i64 129] 3 :: .cells (D1 + 1) #[.int .i64 0, .int .i64 0, .int .i64 0, .bool false, .int .i64 0, .int .i64 0, .int .i64 0, .int .i64 0, .slice none 0 0, .slice none 0 0, .slice none 0 0, .int .i64 0, .int .i64 0, .slice none 0 0, .slice none 0 0, .int .i64 0, .slice none 0 0, .int .i64 0] 33 :: .cells D1 A9 33 :: .arr (68) 2 (.slice xa xn xc) xn (tapV xp) :: .arr (68) 2 (.slice ya yn yc) yn (tapV yp) :: .own (.slice wa wl.length wc) wl :: .own (.slice ra rl.length rc) rl :: .own (.slice ca cl.length cc) cl :: .arr (70) 2 (.slice oa on oc) on (prV ol) :: .tape k :: l) rs w355 from by have h9 := H354.out; rw [hA9] at h9; exact h9)
           have HA9 := hid hA9.symm
           clear hA9
           obtain ⟨z357, z358, z359, z360, z361, z362, z363, z364, z365, z366, z367, z368, z369, z370, z371, z372, z373, z374⟩ := cs18 H356.out 1 rfl
           have z375 := H356.out.loadStg 2 rfl (by rw [HA9.out]; rfl)
           go_wp2_with (first | (refine loadArm z375 (by rfl) (by rfl) ?_) | (refine storeArm (H356.out.rowAt 1 rfl) (cs' := A9) (by rw [HA9.out]; first | rfl | kernel_rfl) (by rw [HA9.out]; first | rfl | kernel_rfl) (by rw [HA9.out]; first | rfl | kernel_rfl) (by rfl) (by rfl) (by rfl) ?_))
           clear z357 z358 z359 z360 z361 z362 z363 z364 z365 z366 z367 z368 z369 z370 z371 z372 z373 z374 z375
           have H376 := hid (show St B W (.cells D345 #[.int .i64 0, .int .i64 1, .int .i64 128, .int .i64 129] 3 :: .cells (D1 + 1) A9 33 :: .cells D1 A9 33 :: .arr (68) 2 (.slice xa xn xc) xn (tapV xp) :: .arr (68) 2 (.slice ya yn yc) yn (tapV yp) :: .own (.slice wa wl.length wc) wl :: .own (.slice ra rl.length rc) rl :: .own (.slice ca cl.length cc) cl :: .arr (70) 2 (.slice oa on oc) on (prV ol) :: .tape k :: l) rs (w355.setRow (D1 + 1) A9) from (H356.out.setRow 1 rfl A9))
           have hfin := St.pickT (l0 := [.cells D345 #[.int .i64 0, .int .i64 1, .int .i64 128, .int .i64 129] 3, .cells (D1 + 1) A9 33, .cells D1 A9 33, .arr (68) 2 (.slice xa xn xc) xn (tapV xp), .arr (68) 2 (.slice ya yn yc) yn (tapV yp), .own (.slice wa wl.length wc) wl, .own (.slice ra rl.length rc) rl, .own (.slice ca cl.length cc) cl, .arr (70) 2 (.slice oa on oc) on (prV ol), .tape k]) (T := l) (l' := [.arr (68) 2 (.slice xa xn xc) xn (tapV xp), .arr (68) 2 (.slice ya yn yc) yn (tapV yp), .own (.slice wa wl.length wc) wl, .own (.slice ra rl.length rc) rl, .own (.slice ca cl.length cc) cl, .arr (70) 2 (.slice oa on oc) on (prV ol), .tape k]) H376.out [3, 4, 5, 6, 7, 8, 9] rfl (by decide)
           refine bodyPost_ret (v := .agg A9) ?_ rfl ⟨⟨kd, sa, sb, bar, ep, ef, kw, kh, wa, wc, wl, ra, rc, rl, ca, cc, cl, sh, sh2, xa, xn, xc, xp, ya, yn, yc, yp, x348, oa, on, oc, ol, mx⟩, rs, by rw [HA9.out]; rfl, ⟨by (try simp only [List.length_nil]); first | omega | (simp; omega), by (try simp only [List.length_nil]); first | omega | (simp; omega), by (try simp only [List.length_nil]); first | omega | (simp; omega), by (try simp only [List.length_nil]); first | omega | (simp; omega), by (try simp only [List.length_nil]); first | omega | (simp; omega), by (try simp only [List.length_nil]); first | omega | (simp; omega)⟩, HQX.out, HQY.out, hfin⟩
           exact results_cell_row rfl _ _ (D1 + 1) 33 _ (0, 0) _ (by rfl) (H376.out.rowAt 1 rfl) Try.underlying33 rfl (by have hz : (Try.prog.info? 33).map (·.size) = some 18 := (by kernel_rfl); rw [hz, HA9.out]; rfl)
          ·
           have c344a : ((x4 : Int) == (9)) = false := by simpa using c344
           have c344b : ((x4 : Int) != (9)) = true := by simpa using c344
           have c344h := hid c344
           clear c344
           by_cases c377 : (x4 : Int) = 10
           ·
            obtain ⟨c377c, c377d⟩ : (x4 : Int) ≤ 10 ∧ (10 : Int) ≤ x4 := by omega
            have c377a : ((x4 : Int) == (10)) = true := by simpa using c377
            have c377b : ((x4 : Int) != (10)) = false := by simpa using c377
            have c377h := hid c377
            clear c377
            go_upto_region 24 with fail
            have zq24 : ∀ ob, (w5.alloc ob).cell? ⟨D1, 16, none⟩ = some (.slice oa on oc) := fun ob => (H6.out.call (below_self _ _)).cell 1 rfl 16 (show A[16]? = some _ from by rw [HA.out]; rfl)
            obtain ⟨D378, hD378⟩ : ∃ D, w5.heap.size = D := ⟨_, rfl⟩
            have H379 := hid (show St B W (.cells D378 #[] 70 :: .cells (D1 + 1) #[.int .i64 0, .int .i64 0, .int .i64 0, .bool false, .int .i64 0, .int .i64 0, .int .i64 0, .int .i64 0, .slice none 0 0, .slice none 0 0, .slice none 0 0, .int .i64 0, .int .i64 0, .slice none 0 0, .slice none 0 0, .int .i64 0, .slice none 0 0, .int .i64 0] 33 :: .cells D1 A 33 :: .arr (68) 2 (.slice xa xn xc) xn (tapV xp) :: .arr (68) 2 (.slice ya yn yc) yn (tapV yp) :: .own (.slice wa wl.length wc) wl :: .own (.slice ra rl.length rc) rl :: .own (.slice ca cl.length cc) cl :: .arr (70) 2 (.slice oa on oc) on (prV ol) :: .tape k :: l) rs (w5.alloc (.cells #[] 70)) from (H6.out.alloc #[] 70 hD378))
            have H380 := hid (show St B W (.arr (70) 2 (.slice (some ⟨D378, 0, none⟩) 0 0) 0 ([]) :: .cells (D1 + 1) #[.int .i64 0, .int .i64 0, .int .i64 0, .bool false, .int .i64 0, .int .i64 0, .int .i64 0, .int .i64 0, .slice none 0 0, .slice none 0 0, .slice none 0 0, .int .i64 0, .int .i64 0, .slice none 0 0, .slice none 0 0, .int .i64 0, .slice none 0 0, .int .i64 0] 33 :: .cells D1 A 33 :: .arr (68) 2 (.slice xa xn xc) xn (tapV xp) :: .arr (68) 2 (.slice ya yn yc) yn (tapV yp) :: .own (.slice wa wl.length wc) wl :: .own (.slice ra rl.length rc) rl :: .own (.slice ca cl.length cc) cl :: .arr (70) 2 (.slice oa on oc) on (prV ol) :: .tape k :: l) rs (w5.alloc (.cells #[] 70)) from H379.out.litArr2 0 2 0 [] rfl rfl (by decide))
            have z384 := H6.out.cell 1 rfl 16 (show A[16]? = some (.slice oa on oc) from by rw [HA.out]; rfl)
            go_wp2_with (at_builtin; refine append_any rfl _ _ 31 70 2 16 (.agg #[.int .i64 0, .int .i64 0]) Try.underlying31 info_op rfl (by decide) (by decide) rfl B _ 0 [] B _ _ _ _ (prV ol) rfl rfl (H380.out.arrE 0 rfl) (H380.out.arrE 8 rfl) (prV_one _) (by omega) H380.out.size ?_; intro v382 w383 ho hg hv; have H381 := hid (H380.out.appendE 0 rfl ho hg hv); clear ho hg hv; refine wL_to ?_)
            clear z384
            clear H379 H380
            obtain ⟨v382a, v382c, hva⟩ := arr_slc (H381.out.arrE 0 rfl)
            subst hva
            have H385 := hid (show St B W (.arr (70) 2 (.slice v382a on v382c) on (prV ol) :: .cells (D1 + 1) #[.int .i64 0, .int .i64 0, .int .i64 0, .bool false, .int .i64 0, .int .i64 0, .int .i64 0, .int .i64 0, .slice none 0 0, .slice none 0 0, .slice none 0 0, .int .i64 0, .int .i64 0, .slice none 0 0, .slice none 0 0, .int .i64 0, .slice none 0 0, .int .i64 0] 33 :: .cells D1 A 33 :: .arr (68) 2 (.slice xa xn xc) xn (tapV xp) :: .arr (68) 2 (.slice ya yn yc) yn (tapV yp) :: .own (.slice wa wl.length wc) wl :: .own (.slice ra rl.length rc) rl :: .own (.slice ca cl.length cc) cl :: .arr (70) 2 (.slice oa on oc) on (prV ol) :: .tape k :: l) rs w383 from by have h9 := H381.out; simp only [Nat.zero_add, List.nil_append] at h9; exact h9)
            clear H381
            try simp only [Nat.zero_add]
            clear hD378
            refine wL_of ?_
            try simp only [Act.put, p1, p2, p3, p4, p5, p6]
            go_wp2_with fail
            refine (nextB_any B k _ _ (by omega) (H385.out.tapeAt 9 rfl)).mono ?_
            rintro e w387 ⟨x386, rfl, x386a, x386b, htn, hgn, hsn⟩
            have H388 := hid (H385.out.next 9 rfl htn hgn)
            clear htn hgn hsn
            obtain ⟨D389, hD389⟩ : ∃ D, w387.heap.size = D := ⟨_, rfl⟩
            go_wp2_with fail
            have H390 := hid (show St B W (.cells D389 #[.int .i64 0, .int .i64 1, .int .i64 25, .int .i64 (-5)] 3 :: .arr (70) 2 (.slice v382a on v382c) on (prV ol) :: .cells (D1 + 1) #[.int .i64 0, .int .i64 0, .int .i64 0, .bool false, .int .i64 0, .int .i64 0, .int .i64 0, .int .i64 0, .slice none 0 0, .slice none 0 0, .slice none 0 0, .int .i64 0, .int .i64 0, .slice none 0 0, .slice none 0 0, .int .i64 0, .slice none 0 0, .int .i64 0] 33 :: .cells D1 A 33 :: .arr (68) 2 (.slice xa xn xc) xn (tapV xp) :: .arr (68) 2 (.slice ya yn yc) yn (tapV yp) :: .own (.slice wa wl.length wc) wl :: .own (.slice ra rl.length rc) rl :: .own (.slice ca cl.length cc) cl :: .arr (70) 2 (.slice oa on oc) on (prV ol) :: .tape k :: l) rs (w387.alloc (.cells #[.int .i64 0, .int .i64 1, .int .i64 25, .int .i64 (-5)] 3)) from (H388.out.alloc #[.int .i64 0, .int .i64 1, .int .i64 25, .int .i64 (-5)] 3 hD389))
            first | refine gen_code H390.out ?_ | refine gen_list H390.out ?_ | refine gen_calls H390.out ?_
            intro w391 hG
            clear H390
            have H390 := hid hG
            clear hG
            clear hD389
            refine (pickB_any B k _ 4 4 [0, 1, 25, (-5)] _ (by omega) (by omega) (H390.out.tapeAt 10 rfl) (H390.out.lit 0 [0, 1, 25, (-5)] rfl (by simp)).row (.inr ⟨_, rfl, H390.out.ne 0 10 rfl rfl (by decide) rfl rfl⟩)).mono ?_
            rintro e w393 ⟨x392, rfl, hx392, htn, hgn, hsn⟩
            have H394 := hid (H390.out.next 10 rfl htn hgn)
            clear htn hgn hsn
            obtain ⟨x392a, x392b⟩ : (-5 : Int) ≤ x392 ∧ x392 ≤ 25 := by simp at hx392; omega
            clear hx392
            obtain ⟨D395, hD395⟩ : ∃ D, w393.heap.size = D := ⟨_, rfl⟩
            have H396 := hid (show St B W (.cells D395 #[.int .i64 (x386 - 1), .int .i64 x392] 70 :: .cells D389 #[.int .i64 0, .int .i64 1, .int .i64 25, .int .i64 (-5)] 3 :: .arr (70) 2 (.slice v382a on v382c) on (prV ol) :: .cells (D1 + 1) #[.int .i64 0, .int .i64 0, .int .i64 0, .bool false, .int .i64 0, .int .i64 0, .int .i64 0, .int .i64 0, .slice none 0 0, .slice none 0 0, .slice none 0 0, .int .i64 0, .int .i64 0, .slice none 0 0, .slice none 0 0, .int .i64 0, .slice none 0 0, .int .i64 0] 33 :: .cells D1 A 33 :: .arr (68) 2 (.slice xa xn xc) xn (tapV xp) :: .arr (68) 2 (.slice ya yn yc) yn (tapV yp) :: .own (.slice wa wl.length wc) wl :: .own (.slice ra rl.length rc) rl :: .own (.slice ca cl.length cc) cl :: .arr (70) 2 (.slice oa on oc) on (prV ol) :: .tape k :: l) rs (w393.alloc (.cells #[.int .i64 (x386 - 1), .int .i64 x392] 70)) from (H394.out.alloc #[.int .i64 (x386 - 1), .int .i64 x392] 70 hD395))
            go_wp2_with (at_builtin; refine append_vals rfl _ _ 31 70 2 16 (.agg #[.int .i64 0, .int .i64 0]) Try.underlying31 info_op rfl (by decide) (by decide) rfl B _ _ _ D395 1 1 [.int .i64 (x386 - 1), .int .i64 x392] rfl rfl rfl (H396.out.arrE 2 rfl) (lit_news H396.out 0 [.int .i64 (x386 - 1), .int .i64 x392] rfl) (by intro u hu; simp at hu; rcases hu with rfl | rfl <;> rfl) (by omega) H396.out.size ?_; intro v399 w400 ho hg hv; have H397 := hid (H396.out.appendE 2 rfl ho hg hv); clear ho hg hv; refine wL_to ?_)
            clear H396
            obtain ⟨g401, c402, hva⟩ := arr_pos (H397.out.arrE 2 rfl) (by omega)
            subst hva
            obtain ⟨ol8, hol8⟩ : ∃ t : List (Int × Int), ol ++ [(x386 - 1, x392)] = t := ⟨_, rfl⟩
            have H398 := hid (show St B W (.cells D395 #[.int .i64 (x386 - 1), .int .i64 x392] 70 :: .cells D389 #[.int .i64 0, .int .i64 1, .int .i64 25, .int .i64 (-5)] 3 :: .arr (70) 2 (.slice (some ⟨g401, 0, none⟩) (on + 1) c402) (on + 1) (prV ol8) :: .cells (D1 + 1) #[.int .i64 0, .int .i64 0, .int .i64 0, .bool false, .int .i64 0, .int .i64 0, .int .i64 0, .int .i64 0, .slice none 0 0, .slice none 0 0, .slice none 0 0, .int .i64 0, .int .i64 0, .slice none 0 0, .slice none 0 0, .int .i64 0, .slice none 0 0, .int .i64 0] 33 :: .cells D1 A 33 :: .arr (68) 2 (.slice xa xn xc) xn (tapV xp) :: .arr (68) 2 (.slice ya yn yc) yn (tapV yp) :: .own (.slice wa wl.length wc) wl :: .own (.slice ra rl.length rc) rl :: .own (.slice ca cl.length cc) cl :: .arr (70) 2 (.slice oa on oc) on (prV ol) :: .tape k :: l) rs w400 from by have h9 := H397.out; rw [show prV ol ++ [.int .i64 (x386 - 1), .int .i64 x392] = prV ol8 from by rw [← hol8, prV_app]; rfl] at h9; exact h9)
            clear hol8 H397
            clear hD395
            refine wL_of ?_
            try simp only [Act.put, p1, p2, p3, p4, p5, p6]
            have H403 := hid (show St B W (.cells D395 #[.int .i64 (x386 - 1), .int .i64 x392] 70 :: .cells D389 #[.int .i64 0, .int .i64 1, .int .i64 25, .int .i64 (-5)] 3 :: .arr (70) 2 (.slice (some ⟨g401, 0, none⟩) (on + 1) c402) (on + 1) (prV ol8) :: .cells (D1 + 1) #[.int .i64 0, .int .i64 0, .int .i64 0, .bool false, .int .i64 0, .int .i64 0, .int .i64 0, .int .i64 0, .slice none 0 0, .slice none 0 0, .slice none 0 0, .int .i64 0, .int .i64 0, .slice none 0 0, .slice none 0 0, .int .i64 0, .slice none 0 0, .int .i64 0] 33 :: .cells D1 #[.int .i64 kd, .int .i64 sa, .int .i64 sb, .bool bar, .int .i64 ep, .int .i64 ef, .int .i64 kw, .int .i64 kh, .slice wa wl.length wc, .slice ra rl.length rc, .slice ca cl.length cc, .int .i64 sh, .int .i64 sh2, .slice xa xn xc, .slice ya yn yc, .int .i64 bins, .slice oa on oc, .int .i64 mx] 33 :: .arr (68) 2 (.slice xa xn xc) xn (tapV xp) :: .arr (68) 2 (.slice ya yn yc) yn (tapV yp) :: .own (.slice wa wl.length wc) wl :: .own (.slice ra rl.length rc) rl :: .own (.slice ca cl.length cc) cl :: .arr (70) 2 (.slice oa on oc) on (prV ol) :: .tape k :: l) rs w400 from by have h9 := H398.out; rw [HA.out] at h9; exact h9)
            have z404 := H403.out.cell 4 rfl 16 rfl
            have z405 := H403.out.free 4 rfl 16
            go_upto_region 31 with fail
            clear z404 z405
            have H406 := hid (show St B W (.cells D395 #[.int .i64 (x386 - 1), .int .i64 x392] 70 :: .cells D389 #[.int .i64 0, .int .i64 1, .int .i64 25, .int .i64 (-5)] 3 :: .arr (70) 2 (.slice (some ⟨g401, 0, none⟩) (on + 1) c402) (on + 1) (prV ol8) :: .cells (D1 + 1) #[.int .i64 0, .int .i64 0, .int .i64 0, .bool false, .int .i64 0, .int .i64 0, .int .i64 0, .int .i64 0, .slice none 0 0, .slice none 0 0, .slice none 0 0, .int .i64 0, .int .i64 0, .slice none 0 0, .slice none 0 0, .int .i64 0, .slice none 0 0, .int .i64 0] 33 :: .cells D1 #[.int .i64 kd, .int .i64 sa, .int .i64 sb, .bool bar, .int .i64 ep, .int .i64 ef, .int .i64 kw, .int .i64 kh, .slice wa wl.length wc, .slice ra rl.length rc, .slice ca cl.length cc, .int .i64 sh, .int .i64 sh2, .slice xa xn xc, .slice ya yn yc, .int .i64 bins, .slice (some ⟨g401, 0, none⟩) (on + 1) c402, .int .i64 mx] 33 :: .arr (68) 2 (.slice xa xn xc) xn (tapV xp) :: .arr (68) 2 (.slice ya yn yc) yn (tapV yp) :: .own (.slice wa wl.length wc) wl :: .own (.slice ra rl.length rc) rl :: .own (.slice ca cl.length cc) cl :: .arr (70) 2 (.slice oa on oc) on (prV ol) :: .tape k :: l) rs (w400.setCell ⟨D1, 16, none⟩ (.slice (some ⟨g401, 0, none⟩) (on + 1) c402)) from (H403.out.set 4 rfl 16 (.slice (some ⟨g401, 0, none⟩) (on + 1) c402)))
            first | refine gen_code H406.out ?_ | refine gen_list H406.out ?_ | refine gen_calls H406.out ?_
            intro w407 hG
            clear H406
            have H406 := hid hG
            clear hG
            obtain ⟨A9, hA9⟩ : ∃ z : Array Value, #[.int .i64 kd, .int .i64 sa, .int .i64 sb, .bool bar, .int .i64 ep, .int .i64 ef, .int .i64 kw, .int .i64 kh, .slice wa wl.length wc, .slice ra rl.length rc, .slice ca cl.length cc, .int .i64 sh, .int .i64 sh2, .slice xa xn xc, .slice ya yn yc, .int .i64 bins, .slice (some ⟨g401, 0, none⟩) (on + 1) c402, .int .i64 mx] = z := ⟨_, rfl⟩
            have H408 := hid (show St B W (.cells D395 #[.int .i64 (x386 - 1), .int .i64 x392] 70 :: .cells D389 #[.int .i64 0, .int .i64 1, .int .i64 25, .int .i64 (-5)] 3 :: .arr (70) 2 (.slice (some ⟨g401, 0, none⟩) (on + 1) c402) (on + 1) (prV ol8) :: .cells (D1 + 1) #[.int .i64 0, .int .i64 0, .int .i64 0, .bool false, .int .i64 0, .int .i64 0, .int .i64 0, .int .i64 0, .slice none 0 0, .slice none 0 0, .slice none 0 0, .int .i64 0, .int .i64 0, .slice none 0 0, .slice none 0 0, .int .i64 0, .slice none 0 0, .int .i64 0] 33 :: .cells D1 A9 33 :: .arr (68) 2 (.slice xa xn xc) xn (tapV xp) :: .arr (68) 2 (.slice ya yn yc) yn (tapV yp) :: .own (.slice wa wl.length wc) wl :: .own (.slice ra rl.length rc) rl :: .own (.slice ca cl.length cc) cl :: .arr (70) 2 (.slice oa on oc) on (prV ol) :: .tape k :: l) rs w407 from by have h9 := H406.out; rw [hA9] at h9; exact h9)
            have HA9 := hid hA9.symm
            clear hA9
            obtain ⟨z409, z410, z411, z412, z413, z414, z415, z416, z417, z418, z419, z420, z421, z422, z423, z424, z425, z426⟩ := cs18 H408.out 3 rfl
            have z427 := H408.out.loadStg 4 rfl (by rw [HA9.out]; rfl)
            go_wp2_with (first | (refine loadArm z427 (by rfl) (by rfl) ?_) | (refine storeArm (H408.out.rowAt 3 rfl) (cs' := A9) (by rw [HA9.out]; first | rfl | kernel_rfl) (by rw [HA9.out]; first | rfl | kernel_rfl) (by rw [HA9.out]; first | rfl | kernel_rfl) (by rfl) (by rfl) (by rfl) ?_))
            clear z409 z410 z411 z412 z413 z414 z415 z416 z417 z418 z419 z420 z421 z422 z423 z424 z425 z426 z427
            have H428 := hid (show St B W (.cells D395 #[.int .i64 (x386 - 1), .int .i64 x392] 70 :: .cells D389 #[.int .i64 0, .int .i64 1, .int .i64 25, .int .i64 (-5)] 3 :: .arr (70) 2 (.slice (some ⟨g401, 0, none⟩) (on + 1) c402) (on + 1) (prV ol8) :: .cells (D1 + 1) A9 33 :: .cells D1 A9 33 :: .arr (68) 2 (.slice xa xn xc) xn (tapV xp) :: .arr (68) 2 (.slice ya yn yc) yn (tapV yp) :: .own (.slice wa wl.length wc) wl :: .own (.slice ra rl.length rc) rl :: .own (.slice ca cl.length cc) cl :: .arr (70) 2 (.slice oa on oc) on (prV ol) :: .tape k :: l) rs (w407.setRow (D1 + 1) A9) from (H408.out.setRow 3 rfl A9))
            have hfin := St.pickT (l0 := [.cells D395 #[.int .i64 (x386 - 1), .int .i64 x392] 70, .cells D389 #[.int .i64 0, .int .i64 1, .int .i64 25, .int .i64 (-5)] 3, .arr (70) 2 (.slice (some ⟨g401, 0, none⟩) (on + 1) c402) (on + 1) (prV ol8), .cells (D1 + 1) A9 33, .cells D1 A9 33, .arr (68) 2 (.slice xa xn xc) xn (tapV xp), .arr (68) 2 (.slice ya yn yc) yn (tapV yp), .own (.slice wa wl.length wc) wl, .own (.slice ra rl.length rc) rl, .own (.slice ca cl.length cc) cl, .arr (70) 2 (.slice oa on oc) on (prV ol), .tape k]) (T := l) (l' := [.arr (68) 2 (.slice xa xn xc) xn (tapV xp), .arr (68) 2 (.slice ya yn yc) yn (tapV yp), .own (.slice wa wl.length wc) wl, .own (.slice ra rl.length rc) rl, .own (.slice ca cl.length cc) cl, .arr (70) 2 (.slice (some ⟨g401, 0, none⟩) (on + 1) c402) (on + 1) (prV ol8), .tape k]) H428.out [5, 6, 7, 8, 9, 2, 11] rfl (by decide)
            refine bodyPost_ret (v := .agg A9) ?_ rfl ⟨⟨kd, sa, sb, bar, ep, ef, kw, kh, wa, wc, wl, ra, rc, rl, ca, cc, cl, sh, sh2, xa, xn, xc, xp, ya, yn, yc, yp, bins, (some ⟨g401, 0, none⟩), on + 1, c402, ol8, mx⟩, rs, by rw [HA9.out]; rfl, ⟨by (try simp only [List.length_nil]); first | omega | (simp; omega), by (try simp only [List.length_nil]); first | omega | (simp; omega), by (try simp only [List.length_nil]); first | omega | (simp; omega), by (try simp only [List.length_nil]); first | omega | (simp; omega), by (try simp only [List.length_nil]); first | omega | (simp; omega), by (try simp only [List.length_nil]); first | omega | (simp; omega)⟩, HQX.out, HQY.out, hfin⟩
            exact results_cell_row rfl _ _ (D1 + 1) 33 _ (0, 0) _ (by rfl) (H428.out.rowAt 3 rfl) Try.underlying33 rfl (by have hz : (Try.prog.info? 33).map (·.size) = some 18 := (by kernel_rfl); rw [hz, HA9.out]; rfl)
           ·
            have c377a : ((x4 : Int) == (10)) = false := by simpa using c377
            have c377b : ((x4 : Int) != (10)) = true := by simpa using c377
            have c377h := hid c377
            clear c377
            by_cases c429 : (x4 : Int) = 11
            ·
             obtain ⟨c429c, c429d⟩ : (x4 : Int) ≤ 11 ∧ (11 : Int) ≤ x4 := by omega
             have c429a : ((x4 : Int) == (11)) = true := by simpa using c429
             have c429b : ((x4 : Int) != (11)) = false := by simpa using c429
             have c429h := hid c429
             clear c429
             obtain ⟨D430, hD430⟩ : ∃ D, w5.heap.size = D := ⟨_, rfl⟩
             go_wp2_with fail
             have H431 := hid (show St B W (.cells D430 #[.int .i64 0, .int .i64 1, .int .i64 4294967296, .int .i64 4294967297] 3 :: .cells (D1 + 1) #[.int .i64 0, .int .i64 0, .int .i64 0, .bool false, .int .i64 0, .int .i64 0, .int .i64 0, .int .i64 0, .slice none 0 0, .slice none 0 0, .slice none 0 0, .int .i64 0, .int .i64 0, .slice none 0 0, .slice none 0 0, .int .i64 0, .slice none 0 0, .int .i64 0] 33 :: .cells D1 A 33 :: .arr (68) 2 (.slice xa xn xc) xn (tapV xp) :: .arr (68) 2 (.slice ya yn yc) yn (tapV yp) :: .own (.slice wa wl.length wc) wl :: .own (.slice ra rl.length rc) rl :: .own (.slice ca cl.length cc) cl :: .arr (70) 2 (.slice oa on oc) on (prV ol) :: .tape k :: l) rs (w5.alloc (.cells #[.int .i64 0, .int .i64 1, .int .i64 4294967296, .int .i64 4294967297] 3)) from (H6.out.alloc #[.int .i64 0, .int .i64 1, .int .i64 4294967296, .int .i64 4294967297] 3 hD430))
             first | refine gen_code H431.out ?_ | refine gen_list H431.out ?_ | refine gen_calls H431.out ?_
             intro w432 hG
             clear H431
             have H431 := hid hG
             clear hG
             clear hD430
             refine (pickB_any B k _ 4 4 [0, 1, 4294967296, 4294967297] _ (by omega) (by omega) (H431.out.tapeAt 9 rfl) (H431.out.lit 0 [0, 1, 4294967296, 4294967297] rfl (by simp)).row (.inr ⟨_, rfl, H431.out.ne 0 9 rfl rfl (by decide) rfl rfl⟩)).mono ?_
             rintro e w434 ⟨x433, rfl, hx433, htn, hgn, hsn⟩
             have H435 := hid (H431.out.next 9 rfl htn hgn)
             clear htn hgn hsn
             obtain ⟨x433a, x433b⟩ : (0 : Int) ≤ x433 ∧ x433 ≤ 4294967297 := by simp at hx433; omega
             clear hx433
             have H436 := hid (show St B W (.cells D430 #[.int .i64 0, .int .i64 1, .int .i64 4294967296, .int .i64 4294967297] 3 :: .cells (D1 + 1) #[.int .i64 0, .int .i64 0, .int .i64 0, .bool false, .int .i64 0, .int .i64 0, .int .i64 0, .int .i64 0, .slice none 0 0, .slice none 0 0, .slice none 0 0, .int .i64 0, .int .i64 0, .slice none 0 0, .slice none 0 0, .int .i64 0, .slice none 0 0, .int .i64 0] 33 :: .cells D1 #[.int .i64 kd, .int .i64 sa, .int .i64 sb, .bool bar, .int .i64 ep, .int .i64 ef, .int .i64 kw, .int .i64 kh, .slice wa wl.length wc, .slice ra rl.length rc, .slice ca cl.length cc, .int .i64 sh, .int .i64 sh2, .slice xa xn xc, .slice ya yn yc, .int .i64 bins, .slice oa on oc, .int .i64 mx] 33 :: .arr (68) 2 (.slice xa xn xc) xn (tapV xp) :: .arr (68) 2 (.slice ya yn yc) yn (tapV yp) :: .own (.slice wa wl.length wc) wl :: .own (.slice ra rl.length rc) rl :: .own (.slice ca cl.length cc) cl :: .arr (70) 2 (.slice oa on oc) on (prV ol) :: .tape k :: l) rs w434 from by have h9 := H435.out; rw [HA.out] at h9; exact h9)
             have z437 := H436.out.cell 2 rfl 17 rfl
             have z438 := H436.out.free 2 rfl 17
             go_upto_region 31 with fail
             clear z437 z438
             have H439 := hid (show St B W (.cells D430 #[.int .i64 0, .int .i64 1, .int .i64 4294967296, .int .i64 4294967297] 3 :: .cells (D1 + 1) #[.int .i64 0, .int .i64 0, .int .i64 0, .bool false, .int .i64 0, .int .i64 0, .int .i64 0, .int .i64 0, .slice none 0 0, .slice none 0 0, .slice none 0 0, .int .i64 0, .int .i64 0, .slice none 0 0, .slice none 0 0, .int .i64 0, .slice none 0 0, .int .i64 0] 33 :: .cells D1 #[.int .i64 kd, .int .i64 sa, .int .i64 sb, .bool bar, .int .i64 ep, .int .i64 ef, .int .i64 kw, .int .i64 kh, .slice wa wl.length wc, .slice ra rl.length rc, .slice ca cl.length cc, .int .i64 sh, .int .i64 sh2, .slice xa xn xc, .slice ya yn yc, .int .i64 bins, .slice oa on oc, .int .i64 x433] 33 :: .arr (68) 2 (.slice xa xn xc) xn (tapV xp) :: .arr (68) 2 (.slice ya yn yc) yn (tapV yp) :: .own (.slice wa wl.length wc) wl :: .own (.slice ra rl.length rc) rl :: .own (.slice ca cl.length cc) cl :: .arr (70) 2 (.slice oa on oc) on (prV ol) :: .tape k :: l) rs (w434.setCell ⟨D1, 17, none⟩ (.int .i64 x433)) from (H436.out.set 2 rfl 17 (.int .i64 x433)))
             first | refine gen_code H439.out ?_ | refine gen_list H439.out ?_ | refine gen_calls H439.out ?_
             intro w440 hG
             clear H439
             have H439 := hid hG
             clear hG
             obtain ⟨A9, hA9⟩ : ∃ z : Array Value, #[.int .i64 kd, .int .i64 sa, .int .i64 sb, .bool bar, .int .i64 ep, .int .i64 ef, .int .i64 kw, .int .i64 kh, .slice wa wl.length wc, .slice ra rl.length rc, .slice ca cl.length cc, .int .i64 sh, .int .i64 sh2, .slice xa xn xc, .slice ya yn yc, .int .i64 bins, .slice oa on oc, .int .i64 x433] = z := ⟨_, rfl⟩
             have H441 := hid (show St B W (.cells D430 #[.int .i64 0, .int .i64 1, .int .i64 4294967296, .int .i64 4294967297] 3 :: .cells (D1 + 1) #[.int .i64 0, .int .i64 0, .int .i64 0, .bool false, .int .i64 0, .int .i64 0, .int .i64 0, .int .i64 0, .slice none 0 0, .slice none 0 0, .slice none 0 0, .int .i64 0, .int .i64 0, .slice none 0 0, .slice none 0 0, .int .i64 0, .slice none 0 0, .int .i64 0] 33 :: .cells D1 A9 33 :: .arr (68) 2 (.slice xa xn xc) xn (tapV xp) :: .arr (68) 2 (.slice ya yn yc) yn (tapV yp) :: .own (.slice wa wl.length wc) wl :: .own (.slice ra rl.length rc) rl :: .own (.slice ca cl.length cc) cl :: .arr (70) 2 (.slice oa on oc) on (prV ol) :: .tape k :: l) rs w440 from by have h9 := H439.out; rw [hA9] at h9; exact h9)
             have HA9 := hid hA9.symm
             clear hA9
             obtain ⟨z442, z443, z444, z445, z446, z447, z448, z449, z450, z451, z452, z453, z454, z455, z456, z457, z458, z459⟩ := cs18 H441.out 1 rfl
             have z460 := H441.out.loadStg 2 rfl (by rw [HA9.out]; rfl)
             go_wp2_with (first | (refine loadArm z460 (by rfl) (by rfl) ?_) | (refine storeArm (H441.out.rowAt 1 rfl) (cs' := A9) (by rw [HA9.out]; first | rfl | kernel_rfl) (by rw [HA9.out]; first | rfl | kernel_rfl) (by rw [HA9.out]; first | rfl | kernel_rfl) (by rfl) (by rfl) (by rfl) ?_))
             clear z442 z443 z444 z445 z446 z447 z448 z449 z450 z451 z452 z453 z454 z455 z456 z457 z458 z459 z460
             have H461 := hid (show St B W (.cells D430 #[.int .i64 0, .int .i64 1, .int .i64 4294967296, .int .i64 4294967297] 3 :: .cells (D1 + 1) A9 33 :: .cells D1 A9 33 :: .arr (68) 2 (.slice xa xn xc) xn (tapV xp) :: .arr (68) 2 (.slice ya yn yc) yn (tapV yp) :: .own (.slice wa wl.length wc) wl :: .own (.slice ra rl.length rc) rl :: .own (.slice ca cl.length cc) cl :: .arr (70) 2 (.slice oa on oc) on (prV ol) :: .tape k :: l) rs (w440.setRow (D1 + 1) A9) from (H441.out.setRow 1 rfl A9))
             have hfin := St.pickT (l0 := [.cells D430 #[.int .i64 0, .int .i64 1, .int .i64 4294967296, .int .i64 4294967297] 3, .cells (D1 + 1) A9 33, .cells D1 A9 33, .arr (68) 2 (.slice xa xn xc) xn (tapV xp), .arr (68) 2 (.slice ya yn yc) yn (tapV yp), .own (.slice wa wl.length wc) wl, .own (.slice ra rl.length rc) rl, .own (.slice ca cl.length cc) cl, .arr (70) 2 (.slice oa on oc) on (prV ol), .tape k]) (T := l) (l' := [.arr (68) 2 (.slice xa xn xc) xn (tapV xp), .arr (68) 2 (.slice ya yn yc) yn (tapV yp), .own (.slice wa wl.length wc) wl, .own (.slice ra rl.length rc) rl, .own (.slice ca cl.length cc) cl, .arr (70) 2 (.slice oa on oc) on (prV ol), .tape k]) H461.out [3, 4, 5, 6, 7, 8, 9] rfl (by decide)
             refine bodyPost_ret (v := .agg A9) ?_ rfl ⟨⟨kd, sa, sb, bar, ep, ef, kw, kh, wa, wc, wl, ra, rc, rl, ca, cc, cl, sh, sh2, xa, xn, xc, xp, ya, yn, yc, yp, bins, oa, on, oc, ol, x433⟩, rs, by rw [HA9.out]; rfl, ⟨by (try simp only [List.length_nil]); first | omega | (simp; omega), by (try simp only [List.length_nil]); first | omega | (simp; omega), by (try simp only [List.length_nil]); first | omega | (simp; omega), by (try simp only [List.length_nil]); first | omega | (simp; omega), by (try simp only [List.length_nil]); first | omega | (simp; omega), by (try simp only [List.length_nil]); first | omega | (simp; omega)⟩, HQX.out, HQY.out, hfin⟩
             exact results_cell_row rfl _ _ (D1 + 1) 33 _ (0, 0) _ (by rfl) (H461.out.rowAt 1 rfl) Try.underlying33 rfl (by have hz : (Try.prog.info? 33).map (·.size) = some 18 := (by kernel_rfl); rw [hz, HA9.out]; rfl)
            ·
             have c429a : ((x4 : Int) == (11)) = false := by simpa using c429
             have c429b : ((x4 : Int) != (11)) = true := by simpa using c429
             have c429h := hid c429
             clear c429
             by_cases c462 : (x4 : Int) = 12
             ·
              obtain ⟨c462c, c462d⟩ : (x4 : Int) ≤ 12 ∧ (12 : Int) ≤ x4 := by omega
              have c462a : ((x4 : Int) == (12)) = true := by simpa using c462
              have c462b : ((x4 : Int) != (12)) = false := by simpa using c462
              have c462h := hid c462
              clear c462
              go_upto_region 28 with fail
              have zq28 : ∀ ob, (w5.alloc ob).cell? ⟨D1, 8, none⟩ = some (.slice wa wl.length wc) := fun ob => (H6.out.call (below_self _ _)).cell 1 rfl 8 (show A[8]? = some _ from by rw [HA.out]; rfl)
              obtain ⟨D463, hD463⟩ : ∃ D, w5.heap.size = D := ⟨_, rfl⟩
              have H464 := hid (show St B W (.cells D463 #[] 3 :: .cells (D1 + 1) #[.int .i64 0, .int .i64 0, .int .i64 0, .bool false, .int .i64 0, .int .i64 0, .int .i64 0, .int .i64 0, .slice none 0 0, .slice none 0 0, .slice none 0 0, .int .i64 0, .int .i64 0, .slice none 0 0, .slice none 0 0, .int .i64 0, .slice none 0 0, .int .i64 0] 33 :: .cells D1 A 33 :: .arr (68) 2 (.slice xa xn xc) xn (tapV xp) :: .arr (68) 2 (.slice ya yn yc) yn (tapV yp) :: .own (.slice wa wl.length wc) wl :: .own (.slice ra rl.length rc) rl :: .own (.slice ca cl.length cc) cl :: .arr (70) 2 (.slice oa on oc) on (prV ol) :: .tape k :: l) rs (w5.alloc (.cells #[] 3)) from (H6.out.alloc #[] 3 hD463))
              have H465 := hid (show St B W (.arr (3) 1 (.slice (some ⟨D463, 0, none⟩) 0 0) 0 ([]) :: .cells (D1 + 1) #[.int .i64 0, .int .i64 0, .int .i64 0, .bool false, .int .i64 0, .int .i64 0, .int .i64 0, .int .i64 0, .slice none 0 0, .slice none 0 0, .slice none 0 0, .int .i64 0, .int .i64 0, .slice none 0 0, .slice none 0 0, .int .i64 0, .slice none 0 0, .int .i64 0] 33 :: .cells D1 A 33 :: .arr (68) 2 (.slice xa xn xc) xn (tapV xp) :: .arr (68) 2 (.slice ya yn yc) yn (tapV yp) :: .own (.slice wa wl.length wc) wl :: .own (.slice ra rl.length rc) rl :: .own (.slice ca cl.length cc) cl :: .arr (70) 2 (.slice oa on oc) on (prV ol) :: .tape k :: l) rs (w5.alloc (.cells #[] 3)) from H464.out.litArr2 0 1 0 [] rfl rfl (by decide))
              have z469 := H6.out.cell 1 rfl 8 (show A[8]? = some (.slice wa wl.length wc) from by rw [HA.out]; rfl)
              go_wp2_with (at_builtin; refine append_any rfl _ _ 22 3 1 8 (.int .i64 0) Try.underlying22 info_int rfl (by decide) (by decide) rfl B _ 0 [] B _ _ _ _ (wl.map (Value.int .i64)) rfl rfl (H465.out.arrE 0 rfl) (show World.ownsRow _ B 3 1 _ _ _ from H465.out.own 5 rfl) (intV_one _) (by omega) H465.out.size ?_; intro v467 w468 ho hg hv; have H466 := hid (H465.out.appendE 0 rfl ho hg hv); clear ho hg hv; refine wL_to ?_)
              clear z469
              clear H464 H465
              obtain ⟨v467a, v467c, hva⟩ := arr_slc (H466.out.arrE 0 rfl)
              subst hva
              have H470 := hid (show St B W (.arr (3) 1 (.slice v467a wl.length v467c) (wl.length) (wl.map (Value.int .i64)) :: .cells (D1 + 1) #[.int .i64 0, .int .i64 0, .int .i64 0, .bool false, .int .i64 0, .int .i64 0, .int .i64 0, .int .i64 0, .slice none 0 0, .slice none 0 0, .slice none 0 0, .int .i64 0, .int .i64 0, .slice none 0 0, .slice none 0 0, .int .i64 0, .slice none 0 0, .int .i64 0] 33 :: .cells D1 A 33 :: .arr (68) 2 (.slice xa xn xc) xn (tapV xp) :: .arr (68) 2 (.slice ya yn yc) yn (tapV yp) :: .own (.slice wa wl.length wc) wl :: .own (.slice ra rl.length rc) rl :: .own (.slice ca cl.length cc) cl :: .arr (70) 2 (.slice oa on oc) on (prV ol) :: .tape k :: l) rs w468 from by have h9 := H466.out; simp only [Nat.zero_add, List.nil_append] at h9; exact h9)
              clear H466
              try simp only [Nat.zero_add]
              have H471 := hid (show St B W (.own (.slice v467a wl.length v467c) wl :: .cells (D1 + 1) #[.int .i64 0, .int .i64 0, .int .i64 0, .bool false, .int .i64 0, .int .i64 0, .int .i64 0, .int .i64 0, .slice none 0 0, .slice none 0 0, .slice none 0 0, .int .i64 0, .int .i64 0, .slice none 0 0, .slice none 0 0, .int .i64 0, .slice none 0 0, .int .i64 0] 33 :: .cells D1 A 33 :: .arr (68) 2 (.slice xa xn xc) xn (tapV xp) :: .arr (68) 2 (.slice ya yn yc) yn (tapV yp) :: .own (.slice wa wl.length wc) wl :: .own (.slice ra rl.length rc) rl :: .own (.slice ca cl.length cc) cl :: .arr (70) 2 (.slice oa on oc) on (prV ol) :: .tape k :: l) rs w468 from H470.out.arrToOwn 0 rfl rfl)
              clear hD463
              refine wL_of ?_
              try simp only [Act.put, p1, p2, p3, p4, p5, p6]
              have H472 := hid (show St B W (.own (.slice v467a wl.length v467c) wl :: .cells (D1 + 1) #[.int .i64 0, .int .i64 0, .int .i64 0, .bool false, .int .i64 0, .int .i64 0, .int .i64 0, .int .i64 0, .slice none 0 0, .slice none 0 0, .slice none 0 0, .int .i64 0, .int .i64 0, .slice none 0 0, .slice none 0 0, .int .i64 0, .slice none 0 0, .int .i64 0] 33 :: .cells D1 #[.int .i64 kd, .int .i64 sa, .int .i64 sb, .bool bar, .int .i64 ep, .int .i64 ef, .int .i64 kw, .int .i64 kh, .slice wa wl.length wc, .slice ra rl.length rc, .slice ca cl.length cc, .int .i64 sh, .int .i64 sh2, .slice xa xn xc, .slice ya yn yc, .int .i64 bins, .slice oa on oc, .int .i64 mx] 33 :: .arr (68) 2 (.slice xa xn xc) xn (tapV xp) :: .arr (68) 2 (.slice ya yn yc) yn (tapV yp) :: .own (.slice wa wl.length wc) wl :: .own (.slice ra rl.length rc) rl :: .own (.slice ca cl.length cc) cl :: .arr (70) 2 (.slice oa on oc) on (prV ol) :: .tape k :: l) rs w468 from by have h9 := H471.out; rw [HA.out] at h9; exact h9)
              have z473 := H472.out.cell 2 rfl 8 rfl
              have z474 := H472.out.free 2 rfl 8
              go_upto_region 29 with fail
              clear z473 z474
              have H475 := hid (show St B W (.own (.slice v467a wl.length v467c) wl :: .cells (D1 + 1) #[.int .i64 0, .int .i64 0, .int .i64 0, .bool false, .int .i64 0, .int .i64 0, .int .i64 0, .int .i64 0, .slice none 0 0, .slice none 0 0, .slice none 0 0, .int .i64 0, .int .i64 0, .slice none 0 0, .slice none 0 0, .int .i64 0, .slice none 0 0, .int .i64 0] 33 :: .cells D1 #[.int .i64 kd, .int .i64 sa, .int .i64 sb, .bool bar, .int .i64 ep, .int .i64 ef, .int .i64 kw, .int .i64 kh, .slice v467a wl.length v467c, .slice ra rl.length rc, .slice ca cl.length cc, .int .i64 sh, .int .i64 sh2, .slice xa xn xc, .slice ya yn yc, .int .i64 bins, .slice oa on oc, .int .i64 mx] 33 :: .arr (68) 2 (.slice xa xn xc) xn (tapV xp) :: .arr (68) 2 (.slice ya yn yc) yn (tapV yp) :: .own (.slice wa wl.length wc) wl :: .own (.slice ra rl.length rc) rl :: .own (.slice ca cl.length cc) cl :: .arr (70) 2 (.slice oa on oc) on (prV ol) :: .tape k :: l) rs (w468.setCell ⟨D1, 8, none⟩ (.slice v467a wl.length v467c)) from (H472.out.set 2 rfl 8 (.slice v467a wl.length v467c)))
              first | refine gen_code H475.out ?_ | refine gen_list H475.out ?_ | refine gen_calls H475.out ?_
              intro w476 hG
              clear H475
              have H475 := hid hG
              clear hG
              by_cases c477 : (0 : Int) < wl.length
              ·
               skip
               have z478 := H475.out.cell 2 rfl 8 rfl
               go_upto_region 30 with fail
               clear z478
               obtain ⟨g9, c9, hva⟩ := (H475.out.own 0 rfl).pos (by omega)
               injection hva with hv1 hv2 hv3
               subst hv1 hv3
               go_upto_region 30 with fail
               have H479 := hid H475.out.drew
               refine wp_region_held_drew (S := (fun w' => w'.cell? ⟨D1, 0, none⟩ = some (.int .i64 kd) ∧ w'.cell? ⟨D1, 1, none⟩ = some (.int .i64 sa) ∧ w'.cell? ⟨D1, 2, none⟩ = some (.int .i64 sb) ∧ w'.cell? ⟨D1, 3, none⟩ = some (.bool bar) ∧ w'.cell? ⟨D1, 4, none⟩ = some (.int .i64 ep) ∧ w'.cell? ⟨D1, 5, none⟩ = some (.int .i64 ef) ∧ w'.cell? ⟨D1, 6, none⟩ = some (.int .i64 kw) ∧ w'.cell? ⟨D1, 7, none⟩ = some (.int .i64 kh) ∧ w'.cell? ⟨D1, 8, none⟩ = some (.slice (some ⟨g9, 0, none⟩) wl.length v467c) ∧ w'.cell? ⟨D1, 9, none⟩ = some (.slice ra rl.length rc) ∧ w'.cell? ⟨D1, 10, none⟩ = some (.slice ca cl.length cc) ∧ w'.cell? ⟨D1, 11, none⟩ = some (.int .i64 sh) ∧ w'.cell? ⟨D1, 12, none⟩ = some (.int .i64 sh2) ∧ w'.cell? ⟨D1, 13, none⟩ = some (.slice xa xn xc) ∧ w'.cell? ⟨D1, 14, none⟩ = some (.slice ya yn yc) ∧ w'.cell? ⟨D1, 15, none⟩ = some (.int .i64 bins) ∧ w'.cell? ⟨D1, 16, none⟩ = some (.slice oa on oc) ∧ w'.cell? ⟨D1, 17, none⟩ = some (.int .i64 mx))) (by kernel_rfl) ⟨H479.out.cell 2 rfl 0 rfl, H479.out.cell 2 rfl 1 rfl, H479.out.cell 2 rfl 2 rfl, H479.out.cell 2 rfl 3 rfl, H479.out.cell 2 rfl 4 rfl, H479.out.cell 2 rfl 5 rfl, H479.out.cell 2 rfl 6 rfl, H479.out.cell 2 rfl 7 rfl, H479.out.cell 2 rfl 8 rfl, H479.out.cell 2 rfl 9 rfl, H479.out.cell 2 rfl 10 rfl, H479.out.cell 2 rfl 11 rfl, H479.out.cell 2 rfl 12 rfl, H479.out.cell 2 rfl 13 rfl, H479.out.cell 2 rfl 14 rfl, H479.out.cell 2 rfl 15 rfl, H479.out.cell 2 rfl 16 rfl, H479.out.cell 2 rfl 17 rfl⟩ (fun hHeld => ?_)
               generalize w476.drew = k480 at *
               refine tkA 0 ?_
               try simp only [Act.put, p1, p2, p3, p4, p5, p6]
               refine tkA 1 ?_
               try simp only [Act.put, p1, p2, p3, p4, p5, p6]
               refine tkA 2 ?_
               try simp only [Act.put, p1, p2, p3, p4, p5, p6]
               refine tkA 3 ?_
               try simp only [Act.put, p1, p2, p3, p4, p5, p6]
               refine tkA 4 ?_
               try simp only [Act.put, p1, p2, p3, p4, p5, p6]
               refine tkA 5 ?_
               try simp only [Act.put, p1, p2, p3, p4, p5, p6]
               refine tkA 7 ?_
               try simp only [Act.put, p1, p2, p3, p4, p5, p6]
               refine wpAnyH_ready (rs := [6, 8]) (by kernel_rfl) (by simp) (AllReadyH.cons (o := _) rfl (fun K hK => ?_) (AllReadyH.cons (o := _) rfl (fun K hK => ?_) AllReadyH.nil))
               ·
                go_simp
                go_at_call 8
                refine (nextB_any B k _ _ (by omega) (H479.out.tapeAt 9 rfl)).mono ?_
                rintro e w482 ⟨x481, rfl, x481a, x481b, htn, hgn, hsn⟩
                have H483 := hid (H479.out.next 9 rfl htn hgn)
                clear htn hgn hsn
                obtain ⟨XN, hXN⟩ : ∃ m : Nat, x481 = m := ⟨x481.toNat, by omega⟩
                subst hXN
                have hXL : XN < wl.length := by omega
                refine hK.out _ _ ?_ (fun hHeld2 => ?_)
                focus ((try dsimp only); (exact ⟨H483.out.cell 2 rfl 0 rfl, H483.out.cell 2 rfl 1 rfl, H483.out.cell 2 rfl 2 rfl, H483.out.cell 2 rfl 3 rfl, H483.out.cell 2 rfl 4 rfl, H483.out.cell 2 rfl 5 rfl, H483.out.cell 2 rfl 6 rfl, H483.out.cell 2 rfl 7 rfl, H483.out.cell 2 rfl 8 rfl, H483.out.cell 2 rfl 9 rfl, H483.out.cell 2 rfl 10 rfl, H483.out.cell 2 rfl 11 rfl, H483.out.cell 2 rfl 12 rfl, H483.out.cell 2 rfl 13 rfl, H483.out.cell 2 rfl 14 rfl, H483.out.cell 2 rfl 15 rfl, H483.out.cell 2 rfl 16 rfl, H483.out.cell 2 rfl 17 rfl⟩))
                clear hK K
                try simp only [Act.put, p1, p2, p3, p4, p5, p6]
                clear hHeld
                have hHeld := hHeld2
                clear hHeld2
                refine wpAnyH_ready (rs := [8]) (by kernel_rfl) (by simp) (AllReadyH.cons (o := _) rfl (fun K hK => ?_) AllReadyH.nil)
                obtain ⟨D484, hD484⟩ : ∃ D, w482.heap.size = D := ⟨_, rfl⟩
                have H485 := hid (H483.out.alloc #[.int .i64 32767, .int .i64 (-32768), .int .i64 0] 3 hD484)
                go_simp
                refine hK.out _ _ ?_ (fun hHeld2 => ?_)
                focus ((try dsimp only); (exact ⟨H485.out.cell 3 rfl 0 rfl, H485.out.cell 3 rfl 1 rfl, H485.out.cell 3 rfl 2 rfl, H485.out.cell 3 rfl 3 rfl, H485.out.cell 3 rfl 4 rfl, H485.out.cell 3 rfl 5 rfl, H485.out.cell 3 rfl 6 rfl, H485.out.cell 3 rfl 7 rfl, H485.out.cell 3 rfl 8 rfl, H485.out.cell 3 rfl 9 rfl, H485.out.cell 3 rfl 10 rfl, H485.out.cell 3 rfl 11 rfl, H485.out.cell 3 rfl 12 rfl, H485.out.cell 3 rfl 13 rfl, H485.out.cell 3 rfl 14 rfl, H485.out.cell 3 rfl 15 rfl, H485.out.cell 3 rfl 16 rfl, H485.out.cell 3 rfl 17 rfl⟩))
                clear hK K hHeld
                try simp only [Act.put, p1, p2, p3, p4, p5, p6]
                clear hD484
                generalize (w482.alloc (.cells #[.int .i64 32767, .int .i64 (-32768), .int .i64 0] 3)) = k486 at *
                have hHeld := hHeld2
                clear hHeld2
                refine wpAnyH_ready (rs := [9]) (by kernel_rfl) (by simp) (AllReadyH.cons (o := _) rfl (fun K hK => ?_) AllReadyH.nil)
                go_simp
                go_at_call 28
                refine (pickB_any B k _ 3 3 [32767, (-32768), 0] _ (by omega) (by omega) (H485.out.tapeAt 10 rfl) (H485.out.lit 0 [32767, (-32768), 0] rfl (by simp)).row (.inr ⟨_, rfl, H485.out.ne 0 10 rfl rfl (by decide) rfl rfl⟩)).mono ?_
                rintro e w488 ⟨x487, rfl, hx487, htn, hgn, hsn⟩
                have H489 := hid (H485.out.next 10 rfl htn hgn)
                clear htn hgn hsn
                obtain ⟨x487a, x487b⟩ : (-32768 : Int) ≤ x487 ∧ x487 ≤ 32767 := by simp at hx487; omega
                clear hx487
                refine hK.out _ _ ?_ (fun hHeld2 => ?_)
                focus ((try dsimp only); (exact ⟨H489.out.cell 3 rfl 0 rfl, H489.out.cell 3 rfl 1 rfl, H489.out.cell 3 rfl 2 rfl, H489.out.cell 3 rfl 3 rfl, H489.out.cell 3 rfl 4 rfl, H489.out.cell 3 rfl 5 rfl, H489.out.cell 3 rfl 6 rfl, H489.out.cell 3 rfl 7 rfl, H489.out.cell 3 rfl 8 rfl, H489.out.cell 3 rfl 9 rfl, H489.out.cell 3 rfl 10 rfl, H489.out.cell 3 rfl 11 rfl, H489.out.cell 3 rfl 12 rfl, H489.out.cell 3 rfl 13 rfl, H489.out.cell 3 rfl 14 rfl, H489.out.cell 3 rfl 15 rfl, H489.out.cell 3 rfl 16 rfl, H489.out.cell 3 rfl 17 rfl⟩))
                clear hK K
                try simp only [Act.put, p1, p2, p3, p4, p5, p6]
                clear hHeld
                have hHeld := hHeld2
                clear hHeld2
                refine tkA 10 ?_
                try simp only [Act.put, p1, p2, p3, p4, p5, p6]
                refine wpAnyH_ready (rs := [11]) (by kernel_rfl) (by simp) (AllReadyH.cons (o := _) rfl (fun K hK => ?_) AllReadyH.nil)
                obtain ⟨s490, s491⟩ := H489.out.get 1 rfl (j := XN) hXL
                have H492 := hid (show St B W (.cells D484 #[.int .i64 32767, .int .i64 (-32768), .int .i64 0] 3 :: .own (.slice (some ⟨g9, 0, none⟩) wl.length v467c) (wl.set XN x487) :: .cells (D1 + 1) #[.int .i64 0, .int .i64 0, .int .i64 0, .bool false, .int .i64 0, .int .i64 0, .int .i64 0, .int .i64 0, .slice none 0 0, .slice none 0 0, .slice none 0 0, .int .i64 0, .int .i64 0, .slice none 0 0, .slice none 0 0, .int .i64 0, .slice none 0 0, .int .i64 0] 33 :: .cells D1 #[.int .i64 kd, .int .i64 sa, .int .i64 sb, .bool bar, .int .i64 ep, .int .i64 ef, .int .i64 kw, .int .i64 kh, .slice (some ⟨g9, 0, none⟩) wl.length v467c, .slice ra rl.length rc, .slice ca cl.length cc, .int .i64 sh, .int .i64 sh2, .slice xa xn xc, .slice ya yn yc, .int .i64 bins, .slice oa on oc, .int .i64 mx] 33 :: .arr (68) 2 (.slice xa xn xc) xn (tapV xp) :: .arr (68) 2 (.slice ya yn yc) yn (tapV yp) :: .own (.slice wa wl.length wc) wl :: .own (.slice ra rl.length rc) rl :: .own (.slice ca cl.length cc) cl :: .arr (70) 2 (.slice oa on oc) on (prV ol) :: .tape k :: l) rs (w488.setCell ⟨g9, XN, none⟩ (.int .i64 x487)) from (H489.out.store 1 rfl XN x487))
                go_simp
                refine hK.out _ _ ?_ (fun hHeld2 => ?_)
                focus ((try dsimp only); (exact ⟨H492.out.cell 3 rfl 0 rfl, H492.out.cell 3 rfl 1 rfl, H492.out.cell 3 rfl 2 rfl, H492.out.cell 3 rfl 3 rfl, H492.out.cell 3 rfl 4 rfl, H492.out.cell 3 rfl 5 rfl, H492.out.cell 3 rfl 6 rfl, H492.out.cell 3 rfl 7 rfl, H492.out.cell 3 rfl 8 rfl, H492.out.cell 3 rfl 9 rfl, H492.out.cell 3 rfl 10 rfl, H492.out.cell 3 rfl 11 rfl, H492.out.cell 3 rfl 12 rfl, H492.out.cell 3 rfl 13 rfl, H492.out.cell 3 rfl 14 rfl, H492.out.cell 3 rfl 15 rfl, H492.out.cell 3 rfl 16 rfl, H492.out.cell 3 rfl 17 rfl⟩))
                clear hK K hHeld
                try simp only [Act.put, p1, p2, p3, p4, p5, p6]
                clear s490 s491
                generalize (w488.setCell ⟨g9, XN, none⟩ (.int .i64 x487)) = k493 at *
                have hHeld := hHeld2
                clear hHeld2
                refine wpAnyH_done (by kernel_rfl) ?_ _
                try clear hHeld
                obtain ⟨wl9, hwl9⟩ : ∃ z, wl.set XN x487 = z := ⟨_, rfl⟩
                have hwln : wl9.length = wl.length := by rw [← hwl9, List.length_set]
                have H494 := hid (show St B W (.cells D484 #[.int .i64 32767, .int .i64 (-32768), .int .i64 0] 3 :: .own (.slice (some ⟨g9, 0, none⟩) wl9.length v467c) wl9 :: .cells (D1 + 1) #[.int .i64 0, .int .i64 0, .int .i64 0, .bool false, .int .i64 0, .int .i64 0, .int .i64 0, .int .i64 0, .slice none 0 0, .slice none 0 0, .slice none 0 0, .int .i64 0, .int .i64 0, .slice none 0 0, .slice none 0 0, .int .i64 0, .slice none 0 0, .int .i64 0] 33 :: .cells D1 #[.int .i64 kd, .int .i64 sa, .int .i64 sb, .bool bar, .int .i64 ep, .int .i64 ef, .int .i64 kw, .int .i64 kh, .slice (some ⟨g9, 0, none⟩) wl9.length v467c, .slice ra rl.length rc, .slice ca cl.length cc, .int .i64 sh, .int .i64 sh2, .slice xa xn xc, .slice ya yn yc, .int .i64 bins, .slice oa on oc, .int .i64 mx] 33 :: .arr (68) 2 (.slice xa xn xc) xn (tapV xp) :: .arr (68) 2 (.slice ya yn yc) yn (tapV yp) :: .own (.slice wa wl.length wc) wl :: .own (.slice ra rl.length rc) rl :: .own (.slice ca cl.length cc) cl :: .arr (70) 2 (.slice oa on oc) on (prV ol) :: .tape k :: l) rs k493 from by have h9 := H492.out; rw [hwl9, show (.slice (some ⟨g9, 0, none⟩) wl.length v467c : Value) = .slice (some ⟨g9, 0, none⟩) wl9.length v467c from by rw [hwln]] at h9; exact h9)
                obtain ⟨A9, hA9⟩ : ∃ z : Array Value, #[.int .i64 kd, .int .i64 sa, .int .i64 sb, .bool bar, .int .i64 ep, .int .i64 ef, .int .i64 kw, .int .i64 kh, .slice (some ⟨g9, 0, none⟩) wl9.length v467c, .slice ra rl.length rc, .slice ca cl.length cc, .int .i64 sh, .int .i64 sh2, .slice xa xn xc, .slice ya yn yc, .int .i64 bins, .slice oa on oc, .int .i64 mx] = z := ⟨_, rfl⟩
                have H495 := hid (show St B W (.cells D484 #[.int .i64 32767, .int .i64 (-32768), .int .i64 0] 3 :: .own (.slice (some ⟨g9, 0, none⟩) wl9.length v467c) wl9 :: .cells (D1 + 1) #[.int .i64 0, .int .i64 0, .int .i64 0, .bool false, .int .i64 0, .int .i64 0, .int .i64 0, .int .i64 0, .slice none 0 0, .slice none 0 0, .slice none 0 0, .int .i64 0, .int .i64 0, .slice none 0 0, .slice none 0 0, .int .i64 0, .slice none 0 0, .int .i64 0] 33 :: .cells D1 A9 33 :: .arr (68) 2 (.slice xa xn xc) xn (tapV xp) :: .arr (68) 2 (.slice ya yn yc) yn (tapV yp) :: .own (.slice wa wl.length wc) wl :: .own (.slice ra rl.length rc) rl :: .own (.slice ca cl.length cc) cl :: .arr (70) 2 (.slice oa on oc) on (prV ol) :: .tape k :: l) rs k493 from by have h9 := H494.out; rw [hA9] at h9; exact h9)
                have HA9 := hid hA9.symm
                clear hA9
                obtain ⟨z496, z497, z498, z499, z500, z501, z502, z503, z504, z505, z506, z507, z508, z509, z510, z511, z512, z513⟩ := cs18 H495.out 2 rfl
                have z514 := H495.out.loadStg 3 rfl (by rw [HA9.out]; rfl)
                go_wp2_with (first | (refine loadArm z514 (by rfl) (by rfl) ?_) | (refine storeArm (H495.out.rowAt 2 rfl) (cs' := A9) (by rw [HA9.out]; first | rfl | kernel_rfl) (by rw [HA9.out]; first | rfl | kernel_rfl) (by rw [HA9.out]; first | rfl | kernel_rfl) (by rfl) (by rfl) (by rfl) ?_))
                clear z496 z497 z498 z499 z500 z501 z502 z503 z504 z505 z506 z507 z508 z509 z510 z511 z512 z513 z514
                have H515 := hid (show St B W (.cells D484 #[.int .i64 32767, .int .i64 (-32768), .int .i64 0] 3 :: .own (.slice (some ⟨g9, 0, none⟩) wl9.length v467c) wl9 :: .cells (D1 + 1) A9 33 :: .cells D1 A9 33 :: .arr (68) 2 (.slice xa xn xc) xn (tapV xp) :: .arr (68) 2 (.slice ya yn yc) yn (tapV yp) :: .own (.slice wa wl.length wc) wl :: .own (.slice ra rl.length rc) rl :: .own (.slice ca cl.length cc) cl :: .arr (70) 2 (.slice oa on oc) on (prV ol) :: .tape k :: l) rs (k493.setRow (D1 + 1) A9) from (H495.out.setRow 2 rfl A9))
                have hfin := St.pickT (l0 := [.cells D484 #[.int .i64 32767, .int .i64 (-32768), .int .i64 0] 3, .own (.slice (some ⟨g9, 0, none⟩) wl9.length v467c) wl9, .cells (D1 + 1) A9 33, .cells D1 A9 33, .arr (68) 2 (.slice xa xn xc) xn (tapV xp), .arr (68) 2 (.slice ya yn yc) yn (tapV yp), .own (.slice wa wl.length wc) wl, .own (.slice ra rl.length rc) rl, .own (.slice ca cl.length cc) cl, .arr (70) 2 (.slice oa on oc) on (prV ol), .tape k]) (T := l) (l' := [.arr (68) 2 (.slice xa xn xc) xn (tapV xp), .arr (68) 2 (.slice ya yn yc) yn (tapV yp), .own (.slice (some ⟨g9, 0, none⟩) wl9.length v467c) wl9, .own (.slice ra rl.length rc) rl, .own (.slice ca cl.length cc) cl, .arr (70) 2 (.slice oa on oc) on (prV ol), .tape k]) H515.out [4, 5, 1, 7, 8, 9, 10] rfl (by decide)
                refine bodyPost_ret (v := .agg A9) ?_ rfl ⟨⟨kd, sa, sb, bar, ep, ef, kw, kh, (some ⟨g9, 0, none⟩), v467c, wl9, ra, rc, rl, ca, cc, cl, sh, sh2, xa, xn, xc, xp, ya, yn, yc, yp, bins, oa, on, oc, ol, mx⟩, rs, by rw [HA9.out]; rfl, ⟨by (try simp only [List.length_nil]); first | omega | (simp; omega), by (try simp only [List.length_nil]); first | omega | (simp; omega), by (try simp only [List.length_nil]); first | omega | (simp; omega), by (try simp only [List.length_nil]); first | omega | (simp; omega), by (try simp only [List.length_nil]); first | omega | (simp; omega), by (try simp only [List.length_nil]); first | omega | (simp; omega)⟩, HQX.out, HQY.out, hfin⟩
                exact results_cell_row rfl _ _ (D1 + 1) 33 _ (0, 0) _ (by rfl) (H515.out.rowAt 2 rfl) Try.underlying33 rfl (by have hz : (Try.prog.info? 33).map (·.size) = some 18 := (by kernel_rfl); rw [hz, HA9.out]; rfl)
               ·
                obtain ⟨D516, hD516⟩ : ∃ D, k480.heap.size = D := ⟨_, rfl⟩
                have H517 := hid (H479.out.alloc #[.int .i64 32767, .int .i64 (-32768), .int .i64 0] 3 hD516)
                go_simp
                refine hK.out _ _ ?_ (fun hHeld2 => ?_)
                focus ((try dsimp only); (exact ⟨H517.out.cell 3 rfl 0 rfl, H517.out.cell 3 rfl 1 rfl, H517.out.cell 3 rfl 2 rfl, H517.out.cell 3 rfl 3 rfl, H517.out.cell 3 rfl 4 rfl, H517.out.cell 3 rfl 5 rfl, H517.out.cell 3 rfl 6 rfl, H517.out.cell 3 rfl 7 rfl, H517.out.cell 3 rfl 8 rfl, H517.out.cell 3 rfl 9 rfl, H517.out.cell 3 rfl 10 rfl, H517.out.cell 3 rfl 11 rfl, H517.out.cell 3 rfl 12 rfl, H517.out.cell 3 rfl 13 rfl, H517.out.cell 3 rfl 14 rfl, H517.out.cell 3 rfl 15 rfl, H517.out.cell 3 rfl 16 rfl, H517.out.cell 3 rfl 17 rfl⟩))
                clear hK K hHeld
                try simp only [Act.put, p1, p2, p3, p4, p5, p6]
                clear hD516
                generalize (k480.alloc (.cells #[.int .i64 32767, .int .i64 (-32768), .int .i64 0] 3)) = k518 at *
                have hHeld := hHeld2
                clear hHeld2
                refine wpAnyH_ready (rs := [6]) (by kernel_rfl) (by simp) (AllReadyH.cons (o := _) rfl (fun K hK => ?_) AllReadyH.nil)
                go_simp
                go_at_call 8
                refine (nextB_any B k _ _ (by omega) (H517.out.tapeAt 10 rfl)).mono ?_
                rintro e w520 ⟨x519, rfl, x519a, x519b, htn, hgn, hsn⟩
                have H521 := hid (H517.out.next 10 rfl htn hgn)
                clear htn hgn hsn
                obtain ⟨XN, hXN⟩ : ∃ m : Nat, x519 = m := ⟨x519.toNat, by omega⟩
                subst hXN
                have hXL : XN < wl.length := by omega
                refine hK.out _ _ ?_ (fun hHeld2 => ?_)
                focus ((try dsimp only); (exact ⟨H521.out.cell 3 rfl 0 rfl, H521.out.cell 3 rfl 1 rfl, H521.out.cell 3 rfl 2 rfl, H521.out.cell 3 rfl 3 rfl, H521.out.cell 3 rfl 4 rfl, H521.out.cell 3 rfl 5 rfl, H521.out.cell 3 rfl 6 rfl, H521.out.cell 3 rfl 7 rfl, H521.out.cell 3 rfl 8 rfl, H521.out.cell 3 rfl 9 rfl, H521.out.cell 3 rfl 10 rfl, H521.out.cell 3 rfl 11 rfl, H521.out.cell 3 rfl 12 rfl, H521.out.cell 3 rfl 13 rfl, H521.out.cell 3 rfl 14 rfl, H521.out.cell 3 rfl 15 rfl, H521.out.cell 3 rfl 16 rfl, H521.out.cell 3 rfl 17 rfl⟩))
                clear hK K
                try simp only [Act.put, p1, p2, p3, p4, p5, p6]
                clear hHeld
                have hHeld := hHeld2
                clear hHeld2
                refine wpAnyH_ready (rs := [9]) (by kernel_rfl) (by simp) (AllReadyH.cons (o := _) rfl (fun K hK => ?_) AllReadyH.nil)
                go_simp
                go_at_call 28
                refine (pickB_any B k _ 3 3 [32767, (-32768), 0] _ (by omega) (by omega) (H521.out.tapeAt 10 rfl) (H521.out.lit 0 [32767, (-32768), 0] rfl (by simp)).row (.inr ⟨_, rfl, H521.out.ne 0 10 rfl rfl (by decide) rfl rfl⟩)).mono ?_
                rintro e w523 ⟨x522, rfl, hx522, htn, hgn, hsn⟩
                have H524 := hid (H521.out.next 10 rfl htn hgn)
                clear htn hgn hsn
                obtain ⟨x522a, x522b⟩ : (-32768 : Int) ≤ x522 ∧ x522 ≤ 32767 := by simp at hx522; omega
                clear hx522
                refine hK.out _ _ ?_ (fun hHeld2 => ?_)
                focus ((try dsimp only); (exact ⟨H524.out.cell 3 rfl 0 rfl, H524.out.cell 3 rfl 1 rfl, H524.out.cell 3 rfl 2 rfl, H524.out.cell 3 rfl 3 rfl, H524.out.cell 3 rfl 4 rfl, H524.out.cell 3 rfl 5 rfl, H524.out.cell 3 rfl 6 rfl, H524.out.cell 3 rfl 7 rfl, H524.out.cell 3 rfl 8 rfl, H524.out.cell 3 rfl 9 rfl, H524.out.cell 3 rfl 10 rfl, H524.out.cell 3 rfl 11 rfl, H524.out.cell 3 rfl 12 rfl, H524.out.cell 3 rfl 13 rfl, H524.out.cell 3 rfl 14 rfl, H524.out.cell 3 rfl 15 rfl, H524.out.cell 3 rfl 16 rfl, H524.out.cell 3 rfl 17 rfl⟩))
                clear hK K
                try simp only [Act.put, p1, p2, p3, p4, p5, p6]
                clear hHeld
                have hHeld := hHeld2
                clear hHeld2
                refine tkA 10 ?_
                try simp only [Act.put, p1, p2, p3, p4, p5, p6]
                refine wpAnyH_ready (rs := [11]) (by kernel_rfl) (by simp) (AllReadyH.cons (o := _) rfl (fun K hK => ?_) AllReadyH.nil)
                obtain ⟨s525, s526⟩ := H524.out.get 1 rfl (j := XN) hXL
                have H527 := hid (show St B W (.cells D516 #[.int .i64 32767, .int .i64 (-32768), .int .i64 0] 3 :: .own (.slice (some ⟨g9, 0, none⟩) wl.length v467c) (wl.set XN x522) :: .cells (D1 + 1) #[.int .i64 0, .int .i64 0, .int .i64 0, .bool false, .int .i64 0, .int .i64 0, .int .i64 0, .int .i64 0, .slice none 0 0, .slice none 0 0, .slice none 0 0, .int .i64 0, .int .i64 0, .slice none 0 0, .slice none 0 0, .int .i64 0, .slice none 0 0, .int .i64 0] 33 :: .cells D1 #[.int .i64 kd, .int .i64 sa, .int .i64 sb, .bool bar, .int .i64 ep, .int .i64 ef, .int .i64 kw, .int .i64 kh, .slice (some ⟨g9, 0, none⟩) wl.length v467c, .slice ra rl.length rc, .slice ca cl.length cc, .int .i64 sh, .int .i64 sh2, .slice xa xn xc, .slice ya yn yc, .int .i64 bins, .slice oa on oc, .int .i64 mx] 33 :: .arr (68) 2 (.slice xa xn xc) xn (tapV xp) :: .arr (68) 2 (.slice ya yn yc) yn (tapV yp) :: .own (.slice wa wl.length wc) wl :: .own (.slice ra rl.length rc) rl :: .own (.slice ca cl.length cc) cl :: .arr (70) 2 (.slice oa on oc) on (prV ol) :: .tape k :: l) rs (w523.setCell ⟨g9, XN, none⟩ (.int .i64 x522)) from (H524.out.store 1 rfl XN x522))
                go_simp
                refine hK.out _ _ ?_ (fun hHeld2 => ?_)
                focus ((try dsimp only); (exact ⟨H527.out.cell 3 rfl 0 rfl, H527.out.cell 3 rfl 1 rfl, H527.out.cell 3 rfl 2 rfl, H527.out.cell 3 rfl 3 rfl, H527.out.cell 3 rfl 4 rfl, H527.out.cell 3 rfl 5 rfl, H527.out.cell 3 rfl 6 rfl, H527.out.cell 3 rfl 7 rfl, H527.out.cell 3 rfl 8 rfl, H527.out.cell 3 rfl 9 rfl, H527.out.cell 3 rfl 10 rfl, H527.out.cell 3 rfl 11 rfl, H527.out.cell 3 rfl 12 rfl, H527.out.cell 3 rfl 13 rfl, H527.out.cell 3 rfl 14 rfl, H527.out.cell 3 rfl 15 rfl, H527.out.cell 3 rfl 16 rfl, H527.out.cell 3 rfl 17 rfl⟩))
                clear hK K hHeld
                try simp only [Act.put, p1, p2, p3, p4, p5, p6]
                clear s525 s526
                generalize (w523.setCell ⟨g9, XN, none⟩ (.int .i64 x522)) = k528 at *
                have hHeld := hHeld2
                clear hHeld2
                refine wpAnyH_done (by kernel_rfl) ?_ _
                try clear hHeld
                obtain ⟨wl9, hwl9⟩ : ∃ z, wl.set XN x522 = z := ⟨_, rfl⟩
                have hwln : wl9.length = wl.length := by rw [← hwl9, List.length_set]
                have H529 := hid (show St B W (.cells D516 #[.int .i64 32767, .int .i64 (-32768), .int .i64 0] 3 :: .own (.slice (some ⟨g9, 0, none⟩) wl9.length v467c) wl9 :: .cells (D1 + 1) #[.int .i64 0, .int .i64 0, .int .i64 0, .bool false, .int .i64 0, .int .i64 0, .int .i64 0, .int .i64 0, .slice none 0 0, .slice none 0 0, .slice none 0 0, .int .i64 0, .int .i64 0, .slice none 0 0, .slice none 0 0, .int .i64 0, .slice none 0 0, .int .i64 0] 33 :: .cells D1 #[.int .i64 kd, .int .i64 sa, .int .i64 sb, .bool bar, .int .i64 ep, .int .i64 ef, .int .i64 kw, .int .i64 kh, .slice (some ⟨g9, 0, none⟩) wl9.length v467c, .slice ra rl.length rc, .slice ca cl.length cc, .int .i64 sh, .int .i64 sh2, .slice xa xn xc, .slice ya yn yc, .int .i64 bins, .slice oa on oc, .int .i64 mx] 33 :: .arr (68) 2 (.slice xa xn xc) xn (tapV xp) :: .arr (68) 2 (.slice ya yn yc) yn (tapV yp) :: .own (.slice wa wl.length wc) wl :: .own (.slice ra rl.length rc) rl :: .own (.slice ca cl.length cc) cl :: .arr (70) 2 (.slice oa on oc) on (prV ol) :: .tape k :: l) rs k528 from by have h9 := H527.out; rw [hwl9, show (.slice (some ⟨g9, 0, none⟩) wl.length v467c : Value) = .slice (some ⟨g9, 0, none⟩) wl9.length v467c from by rw [hwln]] at h9; exact h9)
                obtain ⟨A9, hA9⟩ : ∃ z : Array Value, #[.int .i64 kd, .int .i64 sa, .int .i64 sb, .bool bar, .int .i64 ep, .int .i64 ef, .int .i64 kw, .int .i64 kh, .slice (some ⟨g9, 0, none⟩) wl9.length v467c, .slice ra rl.length rc, .slice ca cl.length cc, .int .i64 sh, .int .i64 sh2, .slice xa xn xc, .slice ya yn yc, .int .i64 bins, .slice oa on oc, .int .i64 mx] = z := ⟨_, rfl⟩
                have H530 := hid (show St B W (.cells D516 #[.int .i64 32767, .int .i64 (-32768), .int .i64 0] 3 :: .own (.slice (some ⟨g9, 0, none⟩) wl9.length v467c) wl9 :: .cells (D1 + 1) #[.int .i64 0, .int .i64 0, .int .i64 0, .bool false, .int .i64 0, .int .i64 0, .int .i64 0, .int .i64 0, .slice none 0 0, .slice none 0 0, .slice none 0 0, .int .i64 0, .int .i64 0, .slice none 0 0, .slice none 0 0, .int .i64 0, .slice none 0 0, .int .i64 0] 33 :: .cells D1 A9 33 :: .arr (68) 2 (.slice xa xn xc) xn (tapV xp) :: .arr (68) 2 (.slice ya yn yc) yn (tapV yp) :: .own (.slice wa wl.length wc) wl :: .own (.slice ra rl.length rc) rl :: .own (.slice ca cl.length cc) cl :: .arr (70) 2 (.slice oa on oc) on (prV ol) :: .tape k :: l) rs k528 from by have h9 := H529.out; rw [hA9] at h9; exact h9)
                have HA9 := hid hA9.symm
                clear hA9
                obtain ⟨z531, z532, z533, z534, z535, z536, z537, z538, z539, z540, z541, z542, z543, z544, z545, z546, z547, z548⟩ := cs18 H530.out 2 rfl
                have z549 := H530.out.loadStg 3 rfl (by rw [HA9.out]; rfl)
                go_wp2_with (first | (refine loadArm z549 (by rfl) (by rfl) ?_) | (refine storeArm (H530.out.rowAt 2 rfl) (cs' := A9) (by rw [HA9.out]; first | rfl | kernel_rfl) (by rw [HA9.out]; first | rfl | kernel_rfl) (by rw [HA9.out]; first | rfl | kernel_rfl) (by rfl) (by rfl) (by rfl) ?_))
                clear z531 z532 z533 z534 z535 z536 z537 z538 z539 z540 z541 z542 z543 z544 z545 z546 z547 z548 z549
                have H550 := hid (show St B W (.cells D516 #[.int .i64 32767, .int .i64 (-32768), .int .i64 0] 3 :: .own (.slice (some ⟨g9, 0, none⟩) wl9.length v467c) wl9 :: .cells (D1 + 1) A9 33 :: .cells D1 A9 33 :: .arr (68) 2 (.slice xa xn xc) xn (tapV xp) :: .arr (68) 2 (.slice ya yn yc) yn (tapV yp) :: .own (.slice wa wl.length wc) wl :: .own (.slice ra rl.length rc) rl :: .own (.slice ca cl.length cc) cl :: .arr (70) 2 (.slice oa on oc) on (prV ol) :: .tape k :: l) rs (k528.setRow (D1 + 1) A9) from (H530.out.setRow 2 rfl A9))
                have hfin := St.pickT (l0 := [.cells D516 #[.int .i64 32767, .int .i64 (-32768), .int .i64 0] 3, .own (.slice (some ⟨g9, 0, none⟩) wl9.length v467c) wl9, .cells (D1 + 1) A9 33, .cells D1 A9 33, .arr (68) 2 (.slice xa xn xc) xn (tapV xp), .arr (68) 2 (.slice ya yn yc) yn (tapV yp), .own (.slice wa wl.length wc) wl, .own (.slice ra rl.length rc) rl, .own (.slice ca cl.length cc) cl, .arr (70) 2 (.slice oa on oc) on (prV ol), .tape k]) (T := l) (l' := [.arr (68) 2 (.slice xa xn xc) xn (tapV xp), .arr (68) 2 (.slice ya yn yc) yn (tapV yp), .own (.slice (some ⟨g9, 0, none⟩) wl9.length v467c) wl9, .own (.slice ra rl.length rc) rl, .own (.slice ca cl.length cc) cl, .arr (70) 2 (.slice oa on oc) on (prV ol), .tape k]) H550.out [4, 5, 1, 7, 8, 9, 10] rfl (by decide)
                refine bodyPost_ret (v := .agg A9) ?_ rfl ⟨⟨kd, sa, sb, bar, ep, ef, kw, kh, (some ⟨g9, 0, none⟩), v467c, wl9, ra, rc, rl, ca, cc, cl, sh, sh2, xa, xn, xc, xp, ya, yn, yc, yp, bins, oa, on, oc, ol, mx⟩, rs, by rw [HA9.out]; rfl, ⟨by (try simp only [List.length_nil]); first | omega | (simp; omega), by (try simp only [List.length_nil]); first | omega | (simp; omega), by (try simp only [List.length_nil]); first | omega | (simp; omega), by (try simp only [List.length_nil]); first | omega | (simp; omega), by (try simp only [List.length_nil]); first | omega | (simp; omega), by (try simp only [List.length_nil]); first | omega | (simp; omega)⟩, HQX.out, HQY.out, hfin⟩
                exact results_cell_row rfl _ _ (D1 + 1) 33 _ (0, 0) _ (by rfl) (H550.out.rowAt 2 rfl) Try.underlying33 rfl (by have hz : (Try.prog.info? 33).map (·.size) = some 18 := (by kernel_rfl); rw [hz, HA9.out]; rfl)
              ·
               skip
               have z551 := H475.out.cell 2 rfl 8 rfl
               go_upto_region 31 with fail
               clear z551
               obtain ⟨A9, hA9⟩ : ∃ z : Array Value, #[.int .i64 kd, .int .i64 sa, .int .i64 sb, .bool bar, .int .i64 ep, .int .i64 ef, .int .i64 kw, .int .i64 kh, .slice v467a wl.length v467c, .slice ra rl.length rc, .slice ca cl.length cc, .int .i64 sh, .int .i64 sh2, .slice xa xn xc, .slice ya yn yc, .int .i64 bins, .slice oa on oc, .int .i64 mx] = z := ⟨_, rfl⟩
               have H552 := hid (show St B W (.own (.slice v467a wl.length v467c) wl :: .cells (D1 + 1) #[.int .i64 0, .int .i64 0, .int .i64 0, .bool false, .int .i64 0, .int .i64 0, .int .i64 0, .int .i64 0, .slice none 0 0, .slice none 0 0, .slice none 0 0, .int .i64 0, .int .i64 0, .slice none 0 0, .slice none 0 0, .int .i64 0, .slice none 0 0, .int .i64 0] 33 :: .cells D1 A9 33 :: .arr (68) 2 (.slice xa xn xc) xn (tapV xp) :: .arr (68) 2 (.slice ya yn yc) yn (tapV yp) :: .own (.slice wa wl.length wc) wl :: .own (.slice ra rl.length rc) rl :: .own (.slice ca cl.length cc) cl :: .arr (70) 2 (.slice oa on oc) on (prV ol) :: .tape k :: l) rs w476 from by have h9 := H475.out; rw [hA9] at h9; exact h9)
               have HA9 := hid hA9.symm
               clear hA9
               obtain ⟨z553, z554, z555, z556, z557, z558, z559, z560, z561, z562, z563, z564, z565, z566, z567, z568, z569, z570⟩ := cs18 H552.out 1 rfl
               have z571 := H552.out.loadStg 2 rfl (by rw [HA9.out]; rfl)
               go_wp2_with (first | (refine loadArm z571 (by rfl) (by rfl) ?_) | (refine storeArm (H552.out.rowAt 1 rfl) (cs' := A9) (by rw [HA9.out]; first | rfl | kernel_rfl) (by rw [HA9.out]; first | rfl | kernel_rfl) (by rw [HA9.out]; first | rfl | kernel_rfl) (by rfl) (by rfl) (by rfl) ?_))
               clear z553 z554 z555 z556 z557 z558 z559 z560 z561 z562 z563 z564 z565 z566 z567 z568 z569 z570 z571
               have H572 := hid (show St B W (.own (.slice v467a wl.length v467c) wl :: .cells (D1 + 1) A9 33 :: .cells D1 A9 33 :: .arr (68) 2 (.slice xa xn xc) xn (tapV xp) :: .arr (68) 2 (.slice ya yn yc) yn (tapV yp) :: .own (.slice wa wl.length wc) wl :: .own (.slice ra rl.length rc) rl :: .own (.slice ca cl.length cc) cl :: .arr (70) 2 (.slice oa on oc) on (prV ol) :: .tape k :: l) rs (w476.setRow (D1 + 1) A9) from (H552.out.setRow 1 rfl A9))
               have hfin := St.pickT (l0 := [.own (.slice v467a wl.length v467c) wl, .cells (D1 + 1) A9 33, .cells D1 A9 33, .arr (68) 2 (.slice xa xn xc) xn (tapV xp), .arr (68) 2 (.slice ya yn yc) yn (tapV yp), .own (.slice wa wl.length wc) wl, .own (.slice ra rl.length rc) rl, .own (.slice ca cl.length cc) cl, .arr (70) 2 (.slice oa on oc) on (prV ol), .tape k]) (T := l) (l' := [.arr (68) 2 (.slice xa xn xc) xn (tapV xp), .arr (68) 2 (.slice ya yn yc) yn (tapV yp), .own (.slice v467a wl.length v467c) wl, .own (.slice ra rl.length rc) rl, .own (.slice ca cl.length cc) cl, .arr (70) 2 (.slice oa on oc) on (prV ol), .tape k]) H572.out [3, 4, 0, 6, 7, 8, 9] rfl (by decide)
               refine bodyPost_ret (v := .agg A9) ?_ rfl ⟨⟨kd, sa, sb, bar, ep, ef, kw, kh, v467a, v467c, wl, ra, rc, rl, ca, cc, cl, sh, sh2, xa, xn, xc, xp, ya, yn, yc, yp, bins, oa, on, oc, ol, mx⟩, rs, by rw [HA9.out]; rfl, ⟨by (try simp only [List.length_nil]); first | omega | (simp; omega), by (try simp only [List.length_nil]); first | omega | (simp; omega), by (try simp only [List.length_nil]); first | omega | (simp; omega), by (try simp only [List.length_nil]); first | omega | (simp; omega), by (try simp only [List.length_nil]); first | omega | (simp; omega), by (try simp only [List.length_nil]); first | omega | (simp; omega)⟩, HQX.out, HQY.out, hfin⟩
               exact results_cell_row rfl _ _ (D1 + 1) 33 _ (0, 0) _ (by rfl) (H572.out.rowAt 1 rfl) Try.underlying33 rfl (by have hz : (Try.prog.info? 33).map (·.size) = some 18 := (by kernel_rfl); rw [hz, HA9.out]; rfl)
             ·
              have c462a : ((x4 : Int) == (12)) = false := by simpa using c462
              have c462b : ((x4 : Int) != (12)) = true := by simpa using c462
              have c462h := hid c462
              clear c462
              have H573 := hid (show St B W (.cells (D1 + 1) #[.int .i64 0, .int .i64 0, .int .i64 0, .bool false, .int .i64 0, .int .i64 0, .int .i64 0, .int .i64 0, .slice none 0 0, .slice none 0 0, .slice none 0 0, .int .i64 0, .int .i64 0, .slice none 0 0, .slice none 0 0, .int .i64 0, .slice none 0 0, .int .i64 0] 33 :: .cells D1 #[.int .i64 kd, .int .i64 sa, .int .i64 sb, .bool bar, .int .i64 ep, .int .i64 ef, .int .i64 kw, .int .i64 kh, .slice wa wl.length wc, .slice ra rl.length rc, .slice ca cl.length cc, .int .i64 sh, .int .i64 sh2, .slice xa xn xc, .slice ya yn yc, .int .i64 bins, .slice oa on oc, .int .i64 mx] 33 :: .arr (68) 2 (.slice xa xn xc) xn (tapV xp) :: .arr (68) 2 (.slice ya yn yc) yn (tapV yp) :: .own (.slice wa wl.length wc) wl :: .own (.slice ra rl.length rc) rl :: .own (.slice ca cl.length cc) cl :: .arr (70) 2 (.slice oa on oc) on (prV ol) :: .tape k :: l) rs w5 from by have h9 := H6.out; rw [HA.out] at h9; exact h9)
              have z574 := H573.out.cell 1 rfl 3 rfl
              have z575 := H573.out.free 1 rfl 3
              have z577 := H573.out.cell 1 rfl 3 rfl
              go_upto_region 31 with fail
              clear z574 z575 z577
              have H578 := hid (show St B W (.cells (D1 + 1) #[.int .i64 0, .int .i64 0, .int .i64 0, .bool false, .int .i64 0, .int .i64 0, .int .i64 0, .int .i64 0, .slice none 0 0, .slice none 0 0, .slice none 0 0, .int .i64 0, .int .i64 0, .slice none 0 0, .slice none 0 0, .int .i64 0, .slice none 0 0, .int .i64 0] 33 :: .cells D1 #[.int .i64 kd, .int .i64 sa, .int .i64 sb, .bool (!bar), .int .i64 ep, .int .i64 ef, .int .i64 kw, .int .i64 kh, .slice wa wl.length wc, .slice ra rl.length rc, .slice ca cl.length cc, .int .i64 sh, .int .i64 sh2, .slice xa xn xc, .slice ya yn yc, .int .i64 bins, .slice oa on oc, .int .i64 mx] 33 :: .arr (68) 2 (.slice xa xn xc) xn (tapV xp) :: .arr (68) 2 (.slice ya yn yc) yn (tapV yp) :: .own (.slice wa wl.length wc) wl :: .own (.slice ra rl.length rc) rl :: .own (.slice ca cl.length cc) cl :: .arr (70) 2 (.slice oa on oc) on (prV ol) :: .tape k :: l) rs (w5.setCell ⟨D1, 3, none⟩ (.bool (!bar))) from (H573.out.set 1 rfl 3 (.bool (!bar))))
              first | refine gen_code H578.out ?_ | refine gen_list H578.out ?_ | refine gen_calls H578.out ?_
              intro w579 hG
              clear H578
              have H578 := hid hG
              clear hG
              obtain ⟨A9, hA9⟩ : ∃ z : Array Value, #[.int .i64 kd, .int .i64 sa, .int .i64 sb, .bool (!bar), .int .i64 ep, .int .i64 ef, .int .i64 kw, .int .i64 kh, .slice wa wl.length wc, .slice ra rl.length rc, .slice ca cl.length cc, .int .i64 sh, .int .i64 sh2, .slice xa xn xc, .slice ya yn yc, .int .i64 bins, .slice oa on oc, .int .i64 mx] = z := ⟨_, rfl⟩
              have H580 := hid (show St B W (.cells (D1 + 1) #[.int .i64 0, .int .i64 0, .int .i64 0, .bool false, .int .i64 0, .int .i64 0, .int .i64 0, .int .i64 0, .slice none 0 0, .slice none 0 0, .slice none 0 0, .int .i64 0, .int .i64 0, .slice none 0 0, .slice none 0 0, .int .i64 0, .slice none 0 0, .int .i64 0] 33 :: .cells D1 A9 33 :: .arr (68) 2 (.slice xa xn xc) xn (tapV xp) :: .arr (68) 2 (.slice ya yn yc) yn (tapV yp) :: .own (.slice wa wl.length wc) wl :: .own (.slice ra rl.length rc) rl :: .own (.slice ca cl.length cc) cl :: .arr (70) 2 (.slice oa on oc) on (prV ol) :: .tape k :: l) rs w579 from by have h9 := H578.out; rw [hA9] at h9; exact h9)
              have HA9 := hid hA9.symm
              clear hA9
              obtain ⟨z581, z582, z583, z584, z585, z586, z587, z588, z589, z590, z591, z592, z593, z594, z595, z596, z597, z598⟩ := cs18 H580.out 0 rfl
              have z599 := H580.out.loadStg 1 rfl (by rw [HA9.out]; rfl)
              go_wp2_with (first | (refine loadArm z599 (by rfl) (by rfl) ?_) | (refine storeArm (H580.out.rowAt 0 rfl) (cs' := A9) (by rw [HA9.out]; first | rfl | kernel_rfl) (by rw [HA9.out]; first | rfl | kernel_rfl) (by rw [HA9.out]; first | rfl | kernel_rfl) (by rfl) (by rfl) (by rfl) ?_))
              clear z581 z582 z583 z584 z585 z586 z587 z588 z589 z590 z591 z592 z593 z594 z595 z596 z597 z598 z599
              have H600 := hid (show St B W (.cells (D1 + 1) A9 33 :: .cells D1 A9 33 :: .arr (68) 2 (.slice xa xn xc) xn (tapV xp) :: .arr (68) 2 (.slice ya yn yc) yn (tapV yp) :: .own (.slice wa wl.length wc) wl :: .own (.slice ra rl.length rc) rl :: .own (.slice ca cl.length cc) cl :: .arr (70) 2 (.slice oa on oc) on (prV ol) :: .tape k :: l) rs (w579.setRow (D1 + 1) A9) from (H580.out.setRow 0 rfl A9))
              have hfin := St.pickT (l0 := [.cells (D1 + 1) A9 33, .cells D1 A9 33, .arr (68) 2 (.slice xa xn xc) xn (tapV xp), .arr (68) 2 (.slice ya yn yc) yn (tapV yp), .own (.slice wa wl.length wc) wl, .own (.slice ra rl.length rc) rl, .own (.slice ca cl.length cc) cl, .arr (70) 2 (.slice oa on oc) on (prV ol), .tape k]) (T := l) (l' := [.arr (68) 2 (.slice xa xn xc) xn (tapV xp), .arr (68) 2 (.slice ya yn yc) yn (tapV yp), .own (.slice wa wl.length wc) wl, .own (.slice ra rl.length rc) rl, .own (.slice ca cl.length cc) cl, .arr (70) 2 (.slice oa on oc) on (prV ol), .tape k]) H600.out [2, 3, 4, 5, 6, 7, 8] rfl (by decide)
              refine bodyPost_ret (v := .agg A9) ?_ rfl ⟨⟨kd, sa, sb, (!bar), ep, ef, kw, kh, wa, wc, wl, ra, rc, rl, ca, cc, cl, sh, sh2, xa, xn, xc, xp, ya, yn, yc, yp, bins, oa, on, oc, ol, mx⟩, rs, by rw [HA9.out]; rfl, ⟨by (try simp only [List.length_nil]); first | omega | (simp; omega), by (try simp only [List.length_nil]); first | omega | (simp; omega), by (try simp only [List.length_nil]); first | omega | (simp; omega), by (try simp only [List.length_nil]); first | omega | (simp; omega), by (try simp only [List.length_nil]); first | omega | (simp; omega), by (try simp only [List.length_nil]); first | omega | (simp; omega)⟩, HQX.out, HQY.out, hfin⟩
              exact results_cell_row rfl _ _ (D1 + 1) 33 _ (0, 0) _ (by rfl) (H600.out.rowAt 0 rfl) Try.underlying33 rfl (by have hz : (Try.prog.info? 33).map (·.size) = some 18 := (by kernel_rfl); rw [hz, HA9.out]; rfl)
end Go.Proofs.Ytlidacfokgdlgaa
