/-
  The walk of HistogramCounts: the functions of the histogram are those of the reference.
-/
import Derived.Test.YtoojiabdgaflgaaSane12
import Derived.Test.YtoojiabdgaflgaaSpoil
import Derived.Test.YtoojiabdgaflgaaFrame
namespace Go.Proofs.Ytoojiabdgaflgaa
open Go.RowKit
attribute [local go_sem ↓] Go.wp_at_zero Go.wp_at_succ
set_option linter.unusedVariables false
set_option linter.unusedSimpArgs false

theorem near_of_row {W : World} {a : Option Addr} {n c : Nat} {zs : List Int} {B : Nat} (h : RowIn .i64 W a n c zs) (hB : W.heap.size = B) : Near a n B := by
  rcases h.row.2 with h0 | ⟨b, o, rfl, hc⟩
  · exact .inl h0
  · rcases Nat.eq_zero_or_pos n with h0 | h0
    · exact .inl h0
    · exact .inr ⟨_, rfl, by have := lt_of_cell (hc 0 h0); simp; omega⟩

set_option maxRecDepth 100000 in
set_option maxHeartbeats 6400000 in
theorem walk_HistogramCounts (a : Option Addr) (n c : Nat) (zs : List Int) (v mx bins r0 r1 r2 r3 : Int) (W : World) (hr : RowIn .i64 W a n c zs) (_ : I64 v) (_ : I64 mx) (_ : I64 bins) (_ : I64 r0) (_ : I64 r1) (_ : I64 r2) (_ : I64 r3) :
    Calls Try.prog 4 #[.slice a n c, .int .i64 v, .int .i64 mx, .int .i64 bins, .agg #[.int .i64 r0, .int .i64 r1, .int .i64 r2, .int .i64 r3]] W fun e w' => e = .returned (.bool true) ∧ Below W.heap.size W w' := by
  obtain ⟨B, hB⟩ : ∃ B, W.heap.size = B := ⟨_, rfl⟩
  have HN := hid (near_of_row hr hB)
  have HR := hid hr
  clear hr
  have H0 := hid ((St.init hB).alloc #[.int .i64 r0, .int .i64 r1, .int .i64 r2, .int .i64 r3] 39 hB)
  go_enter Try.func4, Try.ntmps4
  go_wp2_with fail
  refine (newB_any B a n c zs _ HR.out.len (H0.out.oldRow HR.out.row) HN.out H0.out.size).mono ?_
  rintro e w0 ⟨rfl, ht, hb, hs⟩
  rw [alloc_size _ hB] at *
  have H1 := hid (show St B W [.tape (B + 1), .cells B #[.int .i64 r0, .int .i64 r1, .int .i64 r2, .int .i64 r3] 39] [] w0 from H0.out.newTape ht (by rw [alloc_size _ hB]; exact hb) (alloc_size _ hB))
  clear ht hb hs
  have hm1 : 0 ≤ bins % 128 ∧ bins % 128 < 128 := ⟨Int.emod_nonneg _ (by omega), Int.emod_lt_of_pos _ (by omega)⟩
  have hm2 : 0 ≤ mx % 70000 ∧ mx % 70000 < 70000 := ⟨Int.emod_nonneg _ (by omega), Int.emod_lt_of_pos _ (by omega)⟩
  generalize hbb : bins % 128 = bm at *
  generalize hmm : mx % 70000 = mm at *
  obtain ⟨hm1a, hm1b⟩ := hm1
  obtain ⟨hm2a, hm2b⟩ := hm2
  obtain ⟨L1, hL1⟩ : ∃ D, w0.heap.size = D := ⟨_, rfl⟩
  go_wp2_with (first | (go_at_call 23; refine (mod_any _ _ _ (by omega) (by omega)).mono ?_; rintro e w' ⟨rfl, rfl⟩))
  have H2 := hid (H1.out.alloc #[.int .i64 bins, .int .i64 (1 + bm)] 3 hL1)
  clear hL1
  go_loopw [36] (fun i wr => ∃ j : Nat, j ≤ 2 ∧ i = .int .i64 j ∧ St B W [.cells L1 #[.int .i64 bins, .int .i64 (1 + bm)] 3, .tape (B + 1), .cells B #[.int .i64 r0, .int .i64 r1, .int .i64 r2, .int .i64 r3] 39] [] wr) (fun i _ => 2 - (intOf i).toNat)
  case atStart => exact ⟨0, by omega, rfl, H2.out⟩
  case round =>
    obtain ⟨j, hj, rfl, hst⟩ := hrel
    obtain ⟨u1, rfl⟩ : ∃ u1 : World, u1 = wr := ⟨_, rfl⟩
    have HA := hid hst
    clear hst
    by_cases hjn : j < 2
    · obtain ⟨n0, hn0⟩ := two_ints (HA.out.all 0 _ rfl).2 hjn
      have hjn' : (j : Int) < 2 := by omega
      obtain ⟨L2, hL2⟩ : ∃ D, u1.heap.size = D := ⟨_, rfl⟩
      go_wp2_with (first | (go_at_call 23; refine (mod_any _ _ _ (by omega) (by omega)).mono ?_; rintro e w' ⟨rfl, rfl⟩))
      clear hn0
      have H3 := hid (HA.out.alloc #[.int .i64 mx, .int .i64 (1 + mm)] 3 hL2)
      clear hL2
      go_loopw [46] (fun i wr => ∃ q : Nat, q ≤ 2 ∧ i = .int .i64 q ∧ St B W [.cells L2 #[.int .i64 mx, .int .i64 (1 + mm)] 3, .cells L1 #[.int .i64 bins, .int .i64 (1 + bm)] 3, .tape (B + 1), .cells B #[.int .i64 r0, .int .i64 r1, .int .i64 r2, .int .i64 r3] 39] [] wr) (fun i _ => 2 - (intOf i).toNat)
      case atStart => exact ⟨0, by omega, rfl, H3.out⟩
      case round =>
        obtain ⟨q, hq, rfl, hst⟩ := hrel
        obtain ⟨u2, rfl⟩ : ∃ u2 : World, u2 = wr := ⟨_, rfl⟩
        have HC := hid hst
        clear hst
        by_cases hqn : q < 2
        · obtain ⟨m0, hm0⟩ := two_ints (HC.out.all 0 _ rfl).2 hqn
          have hqn' : (q : Int) < 2 := by omega
          go_wp2_with (first | (go_at_call 23; refine (mod_any _ _ _ (by omega) (by omega)).mono ?_; rintro e w' ⟨rfl, rfl⟩) | (go_at_call 25; refine (bin_any _ _ _ _).mono ?_; rintro e w' ⟨rfl, rfl⟩) | (go_at_call 27; refine (qbin_any _ _ _ _).mono ?_; rintro e w' ⟨rfl, rfl⟩))
          go_roundw
          case rel => exact ⟨q + 1, by omega, by go_num, HC.out⟩
          case measure => simp [intOf]; omega
        · obtain rfl : q = 2 := by omega
          go_wp2_with fail
          go_roundw
          case rel => exact ⟨j + 1, by omega, by go_num, HC.out.pick [1, 2, 3] rfl (by decide)⟩
          case measure => simp [intOf]; omega
    · have hjn' : ¬ ((j : Int) < 2) := by omega
      have H3 := hid (show St B W [.tape (B + 1), .cells B #[.int .i64 r0, .int .i64 r1, .int .i64 r2, .int .i64 r3] 39] [] _ from HA.out.pick [1, 2] rfl (by decide))
      go_wp2_with fail
      clear H0 H1
      go_loopw [16] (fun i wr => ∃ j : Nat, j ≤ 3 ∧ i = .int .i64 j ∧ St B W [.tape (B + 1), .cells B #[.int .i64 r0, .int .i64 r1, .int .i64 r2, .int .i64 r3] 39] [] wr) (fun i _ => 3 - (intOf i).toNat)
      case atStart => exact ⟨0, by omega, rfl, H3.out⟩
      case round =>
        obtain ⟨j, hj, rfl, hst⟩ := hrel
        obtain ⟨u3, rfl⟩ : ∃ u3 : World, u3 = wr := ⟨_, rfl⟩
        have HC := hid hst
        clear hst
        by_cases hjn : j < 3
        · have hjn' : (j : Int) < 3 := by omega
          go_wp2_with fail
          refine (plane_any B (B + 1) _ (HC.out.tapeAt 0 rfl)).mono ?_
          rintro e v1 ⟨pw, ph, pw1, pw2, ph1, ph2, pm, pv, ps, rfl, hv, hm, ho, ht, hg⟩
          have H4 := hid (HC.out.add (HC.out.next 0 rfl ht hg) ho)
          have HV := hid hv
          obtain ⟨pa, pc, rfl, _⟩ := ho.slc
          clear hv ho ht hg
          obtain ⟨D1, hD1⟩ : ∃ D, v1.heap.size = D := ⟨_, rfl⟩
          go_wp2_with fail
          have H5 := hid (H4.out.alloc #[.int .i64 4, .int .i64 1, .int .i64 0, .int .i64 7, .int .i64 128, .int .i64 129] 3 hD1)
          clear hD1
          refine (pickB_any B (B + 1) _ 6 6 [4, 1, 0, 7, 128, 129] _ (by omega) (by omega) (H5.out.tapeAt 2 rfl) (H5.out.lit 0 [4, 1, 0, 7, 128, 129] rfl (by simp)).row (.inr ⟨_, rfl, H5.out.ne 0 2 rfl rfl (by decide) rfl rfl⟩)).mono ?_
          rintro e w6 ⟨pn, rfl, hpn, htn, hgn, hsn⟩
          have H7 := hid (H5.out.next 2 rfl htn hgn)
          clear htn hgn hsn
          clear hpn
          have H8 := hid (show St B W [.own (.slice pa ps.length pc) ps, .tape (B + 1), .cells B #[.int .i64 r0, .int .i64 r1, .int .i64 r2, .int .i64 r3] 39] [] _ from H7.out.pick [1, 2, 3] rfl (by decide))
          obtain ⟨D2, hD2⟩ : ∃ D, w6.heap.size = D := ⟨_, rfl⟩
          go_wp2_with fail
          have H9 := hid (H8.out.alloc #[.int .i64 pw, .int .i64 ph, .int .i64 pm, .slice pa ps.length pc] 26 hD2)
          clear hD2
          refine (within_any B (B + 1) _ _ _ (by omega) (by omega) (by omega) (by omega) (H9.out.tapeAt 2 rfl)).mono ?_
          rintro e v2 ⟨q0, q1, q2, q3, rfl, hq, ht, hg⟩
          have H10 := hid (H9.out.next 2 rfl ht hg)
          clear hq ht hg
          obtain ⟨D3, hD3⟩ : ∃ D, v2.heap.size = D := ⟨_, rfl⟩
          go_upto_if 90 with fail
          have H11 := hid (H10.out.alloc #[.int .i64 q0, .int .i64 q1, .int .i64 q2, .int .i64 q3] 39 hD3)
          clear hD3
          generalize World.alloc v2 _ = v3 at *
          go_cut [16] (fun s wx => ∃ s0 s1 s2 s3 : Int, s = .int .i64 j ∧ St B W [.cells D3 #[.int .i64 s0, .int .i64 s1, .int .i64 s2, .int .i64 s3] 39, .cells D2 #[.int .i64 pw, .int .i64 ph, .int .i64 pm, .slice pa ps.length pc] 26, .own (.slice pa ps.length pc) ps, .tape (B + 1), .cells B #[.int .i64 r0, .int .i64 r1, .int .i64 r2, .int .i64 r3] 39] [] wx)
          case first =>
            by_cases h2 : j = 2
            · subst h2
              have z0_0 := H11.out.cell 0 rfl 0 rfl
              have z0_1 := H11.out.cell 0 rfl 1 rfl
              have z0_2 := H11.out.cell 0 rfl 2 rfl
              have z0_3 := H11.out.cell 0 rfl 3 rfl
              have f0_0 := H11.out.free 0 rfl 0
              have f0_1 := H11.out.free 0 rfl 1
              have f0_2 := H11.out.free 0 rfl 2
              have f0_3 := H11.out.free 0 rfl 3
              have z4_0 := H11.out.cell 4 rfl 0 rfl
              have z4_1 := H11.out.cell 4 rfl 1 rfl
              have z4_2 := H11.out.cell 4 rfl 2 rfl
              have z4_3 := H11.out.cell 4 rfl 3 rfl
              go_wp2_with fail
              go_meet
              have H13 := hid (H11.out.set4 0 rfl (.int .i64 r0) (.int .i64 r1) (.int .i64 r2) (.int .i64 r3))
              exact ⟨_, _, _, _, rfl, H13.out⟩
            · have h2' : ((j : Int) == 2) = false := by simp; omega
              go_wp2_with fail
              go_meet
              exact ⟨_, _, _, _, rfl, H11.out⟩
          case rest =>
            obtain ⟨s0, s1, s2, s3, rfl, hst⟩ := hcut
            have HS := hid hst
            clear hst
            go_wp2_with fail
            refine (nextB_any B (B + 1) _ _ (by omega) (HS.out.tapeAt 3 rfl)).mono ?_
            rintro e w13 ⟨nx, rfl, nxa, nxb, htn, hgn, hsn⟩
            have H14 := hid (HS.out.next 3 rfl htn hgn)
            clear htn hgn hsn
            go_upto_if 94 with fail
            go_cut [16] (fun s wx => ∃ (pw ph pm : Int) (pa : Option Addr) (pc : Nat) (ps : List Int), s = .int .i64 j ∧ St B W [.own (.slice pa ps.length pc) ps, .cells D3 #[.int .i64 s0, .int .i64 s1, .int .i64 s2, .int .i64 s3] 39, .cells D2 #[.int .i64 pw, .int .i64 ph, .int .i64 pm, .slice pa ps.length pc] 26, .tape (B + 1), .cells B #[.int .i64 r0, .int .i64 r1, .int .i64 r2, .int .i64 r3] 39] [] wx)
            case first =>
              by_cases h2 : nx = 7
              · subst h2
                have z1_0 := H14.out.cell 1 rfl 0 rfl
                have z1_1 := H14.out.cell 1 rfl 1 rfl
                have z1_2 := H14.out.cell 1 rfl 2 rfl
                have z1_3 := H14.out.cell 1 rfl 3 rfl
                have f1_0 := H14.out.free 1 rfl 0
                have f1_1 := H14.out.free 1 rfl 1
                have f1_2 := H14.out.free 1 rfl 2
                have f1_3 := H14.out.free 1 rfl 3
                go_wp2_with fail
                refine (spoil_any B (B + 1) _ _ _ _ _ _ _ _ (H14.out.slc 2 rfl) (H14.out.farSlc 2 3 rfl rfl (by decide) rfl) HV.out (H14.out.tapeAt 3 rfl)).mono ?_
                rintro e v6 ⟨ow, oh, om, ov, os, rfl, ho, ht, hg⟩
                have H15 := hid (H14.out.add (H14.out.next 3 rfl ht hg) ho)
                obtain ⟨oa, oc, rfl, _⟩ := ho.slc
                clear ho ht hg
                clear z1_0 z1_1 z1_2 z1_3 f1_0 f1_1 f1_2 f1_3
                have z2_0 := H15.out.cell 2 rfl 0 rfl
                have z2_1 := H15.out.cell 2 rfl 1 rfl
                have z2_2 := H15.out.cell 2 rfl 2 rfl
                have z2_3 := H15.out.cell 2 rfl 3 rfl
                have f2_0 := H15.out.free 2 rfl 0
                have f2_1 := H15.out.free 2 rfl 1
                have f2_2 := H15.out.free 2 rfl 2
                have f2_3 := H15.out.free 2 rfl 3
                go_wp2_with fail
                go_meet
                have H16 := hid (H15.out.set4 2 rfl (.int .i64 ow) (.int .i64 oh) (.int .i64 om) (.slice oa os.length oc))
                exact ⟨ow, oh, om, oa, oc, os, rfl, H16.out.pick [0, 1, 2, 4, 5] rfl (by decide)⟩
              · have h2' : (nx == 7) = false := by simpa using h2
                go_wp2_with fail
                go_meet
                exact ⟨_, _, _, _, _, _, rfl, H14.out.pick [2, 0, 1, 3, 4] rfl (by decide)⟩
            case rest =>
              clear HV
              obtain ⟨pw, ph, pm, pa, pc, ps, rfl, hst⟩ := hcut
              have HT := hid hst
              clear hst
              have z1_0 := HT.out.cell 1 rfl 0 rfl
              have z1_1 := HT.out.cell 1 rfl 1 rfl
              have z1_2 := HT.out.cell 1 rfl 2 rfl
              have z1_3 := HT.out.cell 1 rfl 3 rfl
              have z2_0 := HT.out.cell 2 rfl 0 rfl
              have z2_1 := HT.out.cell 2 rfl 1 rfl
              have z2_2 := HT.out.cell 2 rfl 2 rfl
              have z2_3 := HT.out.cell 2 rfl 3 rfl
              go_wp2_with fail
              refine (partial_any pw ph pm _ _ _ ps pn s0 s1 s2 s3 _ (HT.out.slc 0 rfl)).mono ?_
              rintro e v7 ⟨va, rfl, ho, hb⟩
              have H15 := hid (HT.out.grow hb ho)
              obtain ⟨vaa, vac, rfl, _⟩ := ho.slc
              clear ho hb
              clear z1_0 z1_1 z1_2 z1_3 z2_0 z2_1 z2_2 z2_3
              have z2_0 := H15.out.cell 2 rfl 0 rfl
              have z2_1 := H15.out.cell 2 rfl 1 rfl
              have z2_2 := H15.out.cell 2 rfl 2 rfl
              have z2_3 := H15.out.cell 2 rfl 3 rfl
              have z3_0 := H15.out.cell 3 rfl 0 rfl
              have z3_1 := H15.out.cell 3 rfl 1 rfl
              have z3_2 := H15.out.cell 3 rfl 2 rfl
              have z3_3 := H15.out.cell 3 rfl 3 rfl
              go_wp2_with fail
              refine (qpartial_any pw ph pm _ _ _ ps pn s0 s1 s2 s3 _ (H15.out.slc 1 rfl)).mono ?_
              rintro e v8 ⟨vb, rfl, ho, hb⟩
              have H16 := hid (H15.out.grow hb ho)
              obtain ⟨vba, vbc, rfl, _⟩ := ho.slc
              clear ho hb
              clear z2_0 z2_1 z2_2 z2_3 z3_0 z3_1 z3_2 z3_3
              have HOK := hid (show ∃ cd, hOk pw ph pm ps pn s0 s1 s2 s3 = cd from ⟨_, rfl⟩)
              obtain ⟨cd, hcd⟩ := HOK.out
              rw [hcd]
              clear hcd HOK
              obtain ⟨li, hli⟩ : ∃ li, hList pw ph pm ps pn s0 s1 s2 s3 = li := ⟨_, rfl⟩
              rw [hli] at H16 ⊢
              clear hli
              have z3_0 := H16.out.cell 3 rfl 0 rfl
              have z3_1 := H16.out.cell 3 rfl 1 rfl
              have z3_2 := H16.out.cell 3 rfl 2 rfl
              have z3_3 := H16.out.cell 3 rfl 3 rfl
              have z4_0 := H16.out.cell 4 rfl 0 rfl
              have z4_1 := H16.out.cell 4 rfl 1 rfl
              have z4_2 := H16.out.cell 4 rfl 2 rfl
              have z4_3 := H16.out.cell 4 rfl 3 rfl
              go_wp2_with fail
              refine (whole_any pw ph pm _ _ _ ps pn _ (H16.out.slc 2 rfl)).mono ?_
              rintro e v9 ⟨vc, rfl, ho, hb⟩
              have H17 := hid (H16.out.grow hb ho)
              obtain ⟨vca, vcc, rfl, _⟩ := ho.slc
              clear ho hb
              clear z3_0 z3_1 z3_2 z3_3 z4_0 z4_1 z4_2 z4_3
              obtain ⟨D4, hD4⟩ : ∃ D, v9.heap.size = D := ⟨_, rfl⟩
              obtain ⟨c1, hc1⟩ : ∃ x, wIf pw ph pm ps pn pn = x := ⟨_, rfl⟩
              obtain ⟨c2, hc2⟩ : ∃ x, wIf pw ph pm ps pn 1 = x := ⟨_, rfl⟩
              obtain ⟨c3, hc3⟩ : ∃ x, wIf pw ph pm ps pn (pw * ph) = x := ⟨_, rfl⟩
              obtain ⟨c4, hc4⟩ : ∃ x, wCode pw ph pm ps pn = x := ⟨_, rfl⟩
              obtain ⟨lw, hlw⟩ : ∃ x, hList pw ph pm ps pn 0 0 pw ph = x := ⟨_, rfl⟩
              rw [hc1, hc2, hc3, hc4]
              rw [hlw] at H17 ⊢
              have HWC := hid (And.intro hc1 (And.intro hc2 (And.intro hc3 hc4)))
              have HLW := hid hlw
              clear hc1 hc2 hc3 hc4 hlw
              have H18 := hid (H17.out.alloc #[.int .i64 c1, .int .i64 c2, .int .i64 c3, .slice vca lw.length vcc] 26 hD4)
              have z5_0 := H18.out.cell 5 rfl 0 rfl
              have z5_1 := H18.out.cell 5 rfl 1 rfl
              have z5_2 := H18.out.cell 5 rfl 2 rfl
              have z5_3 := H18.out.cell 5 rfl 3 rfl
              have z6_0 := H18.out.cell 6 rfl 0 rfl
              have z6_1 := H18.out.cell 6 rfl 1 rfl
              have z6_2 := H18.out.cell 6 rfl 2 rfl
              have z6_3 := H18.out.cell 6 rfl 3 rfl
              go_wp2_with fail
              clear z5_0 z5_1 z5_2 z5_3 z6_0 z6_1 z6_2 z6_3
              clear hD4
              refine (qwhole_any pw ph pm _ _ _ ps pn _ (H18.out.slc 4 rfl)).mono ?_
              rintro e v10 ⟨vd, rfl, ho, hb⟩
              rw [HWC.out.1, HWC.out.2.1, HWC.out.2.2.1, HWC.out.2.2.2]
              rw [HLW.out] at ho
              have H19 := hid (H18.out.grow hb ho)
              obtain ⟨vda, vdc, rfl, _⟩ := ho.slc
              clear ho hb
              obtain ⟨D5, hD5⟩ : ∃ D, v10.heap.size = D := ⟨_, rfl⟩
              go_wp2_with fail
              have H20 := hid (H19.out.alloc #[.int .i64 c1, .int .i64 c2, .int .i64 c3, .slice vda lw.length vdc] 26 hD5)
              clear hD5
              refine (qsame_any _ _ _ li _ _ _ li _ (H20.out.slc 5 rfl) (H20.out.slc 4 rfl)).mono ?_
              rintro e w21 ⟨rfl, dm, hdm⟩
              subst hdm
              have H22 := hid (H20.out.drewN dm)
              generalize World.drewN v10 dm = w21 at *
              rw [show lEq li li = true from by simp [lEq]]
              have z0_0 := H22.out.cell 0 rfl 0 rfl
              have z0_1 := H22.out.cell 0 rfl 1 rfl
              have z0_2 := H22.out.cell 0 rfl 2 rfl
              have z0_3 := H22.out.cell 0 rfl 3 rfl
              have z2_0 := H22.out.cell 2 rfl 0 rfl
              have z2_1 := H22.out.cell 2 rfl 1 rfl
              have z2_2 := H22.out.cell 2 rfl 2 rfl
              have z2_3 := H22.out.cell 2 rfl 3 rfl
              go_wp2_with fail
              refine (qequal_any c1 c2 c3 _ _ _ lw c1 c2 c3 _ _ _ lw _ (H22.out.slc 3 rfl) (H22.out.slc 1 rfl)).mono ?_
              rintro e v12 ⟨rfl, hb⟩
              rw [show pEq c1 c2 c3 lw c1 c2 c3 lw = true from by simp [pEq]]
              have H23 := hid (H22.out.call hb)
              clear hb
              clear z0_0 z0_1 z0_2 z0_3 z2_0 z2_1 z2_2 z2_3
              go_wp2_with fail
              go_roundw
              case rel => exact ⟨j + 1, by omega, by go_num, H23.out.pick [9, 10] rfl (by decide)⟩
              case measure => simp [intOf]; omega
        · obtain rfl : j = 3 := by omega
          go_wp2_with (first | (go_at_call 26; refine (sane12 _).mono ?_; rintro e w' ⟨rfl, hbs⟩))
          go_ret
          exact ⟨rfl, (HC.out.call hbs).below⟩
end Go.Proofs.Ytoojiabdgaflgaa
