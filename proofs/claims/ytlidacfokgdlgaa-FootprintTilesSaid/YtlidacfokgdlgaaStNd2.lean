/-
 Contracts: the needed coordinates of a stage in one direction, in the program.
-/
import Derived.Test.YtlidacfokgdlgaaKM
import Derived.Test.YtlidacfokgdlgaaKE
import Derived.Test.YtlidacfokgdlgaaKH
namespace Go.Proofs.Ytlidacfokgdlgaa
open Go.RowKit
attribute [local go_sem ↓] Go.wp_at_zero Go.wp_at_succ
set_option linter.unusedVariables false
set_option linter.unusedSimpArgs false

theorem fine_facts {kd sb ep ef kw kh : Int} {wn rn cn : Nat} {sh sh2 : Int} {xn yn : Nat} {bins : Int} {on : Nat} {mx : Int} {X Y : Tbl} {n f t : Int} (h : stFine kd sb ep ef kw kh wn rn cn sh sh2 xn yn bins on mx X Y n f t = true) :
  1 ≤ n ∧ n ≤ 128 ∧ 0 ≤ f ∧ f ≤ 128 ∧ 0 ≤ t ∧ t ≤ 128 ∧ 1 ≤ kd ∧ kd ≤ 6 := by
 unfold stFine sfOk at h
 simp only [Bool.and_eq_true, decide_eq_true_eq] at h
 obtain ⟨⟨a1, a2, a3, a4, a5, a6⟩, ⟨b1, b2, _⟩, _⟩ := h
 exact ⟨a1, a2, a3, a4, a5, a6, b1, b2⟩
theorem sp_bd {kd i side : Int} {T : Tbl} (hi : 0 ≤ i ∧ i ≤ 128) (hsd : kd = 1 ∨ kd = 2 → 1 ≤ side ∧ side ≤ 9) (hT : kd = 3 → tapsOk T = true) : -200 ≤ spF kd i side T ∧ spF kd i side T ≤ 300 ∧ 0 ≤ spC kd i side T ∧ spC kd i side T ≤ 9 := by
 unfold spF spC
 by_cases h12 : kd = 1 ∨ kd = 2
 ·
  rw [if_pos h12, if_pos h12]
  have := hsd h12
  rw [Int.tdiv_eq_ediv_of_nonneg (by omega)]
  omega
 ·
  rw [if_neg h12, if_neg h12]
  by_cases h3 : kd = 3
  ·
   rw [if_pos h3, if_pos h3]
   by_cases hl : i < (T.length : Int)
   ·
    rw [if_pos hl, if_pos hl]
    have := tapsOk_at (hT h3) (i := i.toNat) (by omega)
    omega
   ·
    rw [if_neg hl, if_neg hl]; omega
  ·
   rw [if_neg h3, if_neg h3]; omega

theorem ownsRow_base {w : World} {B B' : Nat} {e : TypeId} {sz : Nat} {v : Value} {n : Nat} {vs : List Value} (h : w.ownsRow B' e sz v n vs) (hb : B ≤ B') : w.ownsRow B e sz v n vs := by
 refine ⟨h.1, ?_⟩
 rcases h.2 with h' | ⟨g, cap, cur, e1, h1, h2⟩
 ·
  exact .inl h'
 ·
  exact .inr ⟨g, cap, cur, e1, Nat.le_trans hb h1, h2⟩

set_option maxRecDepth 100000 in
set_option maxHeartbeats 6400000 in
theorem needed_any {kd sa sb : Int} {bar : Bool} {ep ef kw kh : Int} {wa : Option Addr} {wn wc : Nat} {ra : Option Addr} {rn rc : Nat} {ca : Option Addr} {cn cc : Nat} {sh sh2 : Int} {xa : Option Addr} {xn xc : Nat} {ya : Option Addr} {yn yc : Nat} {bins : Int} {oa : Option Addr} {on oc : Nat} {mx : Int} {A : Array Value} (hA : A = #[.int .i64 kd, .int .i64 sa, .int .i64 sb, .bool bar, .int .i64 ep, .int .i64 ef, .int .i64 kw, .int .i64 kh, .slice wa wn wc, .slice ra rn rc, .slice ca cn cc, .int .i64 sh, .int .i64 sh2, .slice xa xn xc, .slice ya yn yc, .int .i64 bins, .slice oa on oc, .int .i64 mx]) (X Y : Tbl) (n from' to' side : Int) (ta : Option Addr) (tm tc : Nat) (T : Tbl) (W : World) (hx : Tps W xa xn xc X) (hy : Tps W ya yn yc Y) (ht : Tps W ta tm tc T)
  (hsd : stFine kd sb ep ef kw kh wn rn cn sh sh2 xn yn bins on mx X Y n from' to' = true → kd = 1 ∨ kd = 2 → 1 ≤ side ∧ side ≤ 9) (hT : stFine kd sb ep ef kw kh wn rn cn sh sh2 xn yn bins on mx X Y n from' to' = true → kd = 3 → tapsOk T = true) :
  Calls Try.prog 29 #[.agg A, .int .i64 n, .int .i64 from', .int .i64 to', .int .i64 side, .slice ta tm tc] W fun e w' => ∃ v, e = .returned v ∧ Own W.heap.size w' v (ndL (stFine kd sb ep ef kw kh wn rn cn sh sh2 xn yn bins on mx X Y n from' to') kd ep side n T from' to') ∧ Below W.heap.size W w' := by
 obtain ⟨B, hB⟩ : ∃ B, W.heap.size = B := ⟨_, rfl⟩
 have HI0 := hid (St.init hB)
 have HX := hid hx
 have HA := hid hA
 have HY := hid hy
 have HTT := hid ht
 have HSD := hid hsd
 have HTO := hid hT
 clear hx hy ht hsd hT hA
 go_enter Try.func29, Try.ntmps29
 go_upto_region 1 with fail
 have H1 := hid (show St B W [.cells B A 33] [] (W.alloc (.cells A 33)) from (HI0.out.alloc A 33 hB))
 first | refine gen_code H1.out ?_ | refine gen_list H1.out ?_ | refine gen_calls H1.out ?_
 intro w2 hG
 clear H1
 have H1 := hid hG
 clear hG
 by_cases c3 : (n : Int) < 1
 ·
  skip
  go_wp2_with fail
  have hnl : ndL (stFine kd sb ep ef kw kh wn rn cn sh sh2 xn yn bins on mx X Y n from' to') kd ep side n T from' to' = [] := by unfold ndL stFine; rw [decide_eq_false (by omega)]; rfl
  go_ret
  exact ⟨_, rfl, by rw [hnl]; exact Own.nil _ _, by first | exact H1.out.below | exact H1.out.below'⟩
 ·
  skip
  by_cases c4 : (128 : Int) < n
  ·
   skip
   go_wp2_with fail
   have hnl : ndL (stFine kd sb ep ef kw kh wn rn cn sh sh2 xn yn bins on mx X Y n from' to') kd ep side n T from' to' = [] := by unfold ndL stFine; rw [decide_eq_false (by omega)]; rfl
   go_ret
   exact ⟨_, rfl, by rw [hnl]; exact Own.nil _ _, by first | exact H1.out.below | exact H1.out.below'⟩
  ·
   skip
   by_cases c5 : (from' : Int) < 0
   ·
    skip
    go_wp2_with fail
    have hnl : ndL (stFine kd sb ep ef kw kh wn rn cn sh sh2 xn yn bins on mx X Y n from' to') kd ep side n T from' to' = [] := by unfold ndL stFine; rw [decide_eq_false (by omega)]; rfl
    go_ret
    exact ⟨_, rfl, by rw [hnl]; exact Own.nil _ _, by first | exact H1.out.below | exact H1.out.below'⟩
   ·
    skip
    by_cases c6 : (128 : Int) < from'
    ·
     skip
     go_wp2_with fail
     have hnl : ndL (stFine kd sb ep ef kw kh wn rn cn sh sh2 xn yn bins on mx X Y n from' to') kd ep side n T from' to' = [] := by unfold ndL stFine; rw [decide_eq_false (by omega)]; rfl
     go_ret
     exact ⟨_, rfl, by rw [hnl]; exact Own.nil _ _, by first | exact H1.out.below | exact H1.out.below'⟩
    ·
     skip
     by_cases c7 : (to' : Int) < 0
     ·
      skip
      go_wp2_with fail
      have hnl : ndL (stFine kd sb ep ef kw kh wn rn cn sh sh2 xn yn bins on mx X Y n from' to') kd ep side n T from' to' = [] := by unfold ndL stFine; rw [decide_eq_false (by omega)]; rfl
      go_ret
      exact ⟨_, rfl, by rw [hnl]; exact Own.nil _ _, by first | exact H1.out.below | exact H1.out.below'⟩
     ·
      skip
      by_cases c8 : (128 : Int) < to'
      ·
       skip
       go_wp2_with fail
       have hnl : ndL (stFine kd sb ep ef kw kh wn rn cn sh sh2 xn yn bins on mx X Y n from' to') kd ep side n T from' to' = [] := by unfold ndL stFine; rw [decide_eq_false (by omega)]; rfl
       go_ret
       exact ⟨_, rfl, by rw [hnl]; exact Own.nil _ _, by first | exact H1.out.below | exact H1.out.below'⟩
      ·
       skip
       have z9 := H1.out.loadStg 0 rfl (by rw [HA.out]; rfl)
       go_wp2_with (refine loadArm z9 (by rfl) (by rfl) ?_)
       clear z9
       refine (facc_A HA.out X Y _ (H1.out.oldTps HX.out) (H1.out.oldTps HY.out)).mono ?_
       rintro e w10 ⟨rfl, hb⟩
       have H11 := hid (H1.out.call hb)
       clear hb
       obtain ⟨b12, hb12⟩ : ∃ xx', (sfOk kd sb ep ef kw kh wn rn cn sh sh2 xn yn bins on mx && stAcc kd kw kh rn cn X Y) = xx' := ⟨_, rfl⟩
       rw [hb12]
       have HNb12 := hid hb12
       clear hb12
       cases b12 with
       | true =>
        go_upto_region 3 with fail
        have HF := hid (show stFine kd sb ep ef kw kh wn rn cn sh sh2 xn yn bins on mx X Y n from' to' = true from by unfold stFine; rw [decide_eq_true (show 1 ≤ n ∧ n ≤ 128 ∧ 0 ≤ from' ∧ from' ≤ 128 ∧ 0 ≤ to' ∧ to' ≤ 128 by omega), HNb12.out]; rfl)
        obtain ⟨n1, n2, f1, f2, t1, t2, k1, k6⟩ := fine_facts HF.out
        have HSD2 := hid (HSD.out HF.out)
        have HTO2 := hid (HTO.out HF.out)
        obtain ⟨pol, hpol⟩ : ∃ z, stPol kd ep = z := ⟨_, rfl⟩
        have HPOL := hid hpol
        clear hpol
        have z13 := H11.out.cell 0 rfl 4 (show A[4]? = some (.int .i64 ep) from by rw [HA.out]; rfl)
        have z14 := H11.out.cell 0 rfl 0 (show A[0]? = some (.int .i64 kd) from by rw [HA.out]; rfl)
        go_upto_block 0 with fail
        clear z13 z14
        go_cut [13] (fun s wx => s = .int .i64 pol ∧ St B W [.cells B A 33] [] wx)
        case first =>
         by_cases c15 : (kd : Int) = 4
         ·
          obtain ⟨c15c, c15d⟩ : (kd : Int) ≤ 4 ∧ (4 : Int) ≤ kd := by omega
          have c15a : ((kd : Int) == (4)) = true := by simpa using c15
          have c15b : ((kd : Int) != (4)) = false := by simpa using c15
          have c15h := hid c15
          clear c15
          by_cases c16 : (kd : Int) = 4
          ·
           obtain ⟨c16c, c16d⟩ : (kd : Int) ≤ 4 ∧ (4 : Int) ≤ kd := by omega
           have c16a : ((kd : Int) == (4)) = true := by simpa using c16
           have c16b : ((kd : Int) != (4)) = false := by simpa using c16
           have c16h := hid c16
           clear c16
           go_wp2_with fail
           go_meet
           exact ⟨by first | rfl | (rw [← HPOL.out]; unfold stPol; have := c15h.out; have := c16h.out; first | (rw [if_pos (by omega)]; done) | (rw [if_neg (by omega)]; done)), H11.out⟩
          ·
           have c16a : ((kd : Int) == (4)) = false := by simpa using c16
           have c16b : ((kd : Int) != (4)) = true := by simpa using c16
           have c16h := hid c16
           clear c16
           go_wp2_with fail
           go_meet
           exact ⟨by first | rfl | (rw [← HPOL.out]; unfold stPol; have := c15h.out; have := c16h.out; first | (rw [if_pos (by omega)]; done) | (rw [if_neg (by omega)]; done)), H11.out⟩
         ·
          have c15a : ((kd : Int) == (4)) = false := by simpa using c15
          have c15b : ((kd : Int) != (4)) = true := by simpa using c15
          have c15h := hid c15
          clear c15
          by_cases c17 : (kd : Int) = 5
          ·
           obtain ⟨c17c, c17d⟩ : (kd : Int) ≤ 5 ∧ (5 : Int) ≤ kd := by omega
           have c17a : ((kd : Int) == (5)) = true := by simpa using c17
           have c17b : ((kd : Int) != (5)) = false := by simpa using c17
           have c17h := hid c17
           clear c17
           by_cases c18 : (kd : Int) = 5
           ·
            obtain ⟨c18c, c18d⟩ : (kd : Int) ≤ 5 ∧ (5 : Int) ≤ kd := by omega
            have c18a : ((kd : Int) == (5)) = true := by simpa using c18
            have c18b : ((kd : Int) != (5)) = false := by simpa using c18
            have c18h := hid c18
            clear c18
            go_wp2_with fail
            go_meet
            exact ⟨by first | rfl | (rw [← HPOL.out]; unfold stPol; have := c15h.out; have := c17h.out; have := c18h.out; first | (rw [if_pos (by omega)]; done) | (rw [if_neg (by omega)]; done)), H11.out⟩
           ·
            have c18a : ((kd : Int) == (5)) = false := by simpa using c18
            have c18b : ((kd : Int) != (5)) = true := by simpa using c18
            have c18h := hid c18
            clear c18
            go_wp2_with fail
            go_meet
            exact ⟨by first | rfl | (rw [← HPOL.out]; unfold stPol; have := c15h.out; have := c17h.out; have := c18h.out; first | (rw [if_pos (by omega)]; done) | (rw [if_neg (by omega)]; done)), H11.out⟩
          ·
           have c17a : ((kd : Int) == (5)) = false := by simpa using c17
           have c17b : ((kd : Int) != (5)) = true := by simpa using c17
           have c17h := hid c17
           clear c17
           by_cases c19 : (kd : Int) = 6
           ·
            obtain ⟨c19c, c19d⟩ : (kd : Int) ≤ 6 ∧ (6 : Int) ≤ kd := by omega
            have c19a : ((kd : Int) == (6)) = true := by simpa using c19
            have c19b : ((kd : Int) != (6)) = false := by simpa using c19
            have c19h := hid c19
            clear c19
            go_wp2_with fail
            go_meet
            exact ⟨by first | rfl | (rw [← HPOL.out]; unfold stPol; have := c15h.out; have := c17h.out; have := c19h.out; first | (rw [if_pos (by omega)]; done) | (rw [if_neg (by omega)]; done)), H11.out⟩
           ·
            have c19a : ((kd : Int) == (6)) = false := by simpa using c19
            have c19b : ((kd : Int) != (6)) = true := by simpa using c19
            have c19h := hid c19
            clear c19
            go_wp2_with fail
            go_meet
            exact ⟨by first | rfl | (rw [← HPOL.out]; unfold stPol; have := c15h.out; have := c17h.out; have := c19h.out; first | (rw [if_pos (by omega)]; done) | (rw [if_neg (by omega)]; done)), H11.out⟩
        case rest =>
         obtain ⟨rfl, hst⟩ := hcut
         obtain ⟨u20, rfl⟩ : ∃ u20 : World, u20 = wc := ⟨_, rfl⟩
         have H21 := hid hst
         clear hst
         obtain ⟨DA, hDA⟩ : ∃ D, u20.heap.size = D := ⟨_, rfl⟩
         have hz := zero128
         go_upto_region 10 with fail
         clear hz
         have H22 := hid (show St B W [.cells DA (Array.replicate 128 (Value.bool false)) 72, .cells B A 33] [] (u20.alloc (.cells (Array.replicate 128 (Value.bool false)) 72)) from H21.out.alloc (Array.replicate 128 (Value.bool false)) 72 hDA)
         clear hDA
         generalize World.alloc u20 _ = w23 at *
         rw [bvs_zeroA] at H22
         go_wp2_with fail
         obtain ⟨DD, hDD⟩ : ∃ D : Nat, (to' - from').toNat = D := ⟨_, rfl⟩
         have hd1 : to' - from' ≤ (DD : Int) := by omega
         have hd2 : DD = 0 ∨ (DD : Int) ≤ to' - from' := by omega
         have hd3 : DD ≤ 128 := by omega
         have HDD := hid hDD
         clear hDD
         go_loopw [15] (fun i wr => ∃ (y : Int) (d : Nat), d ≤ DD ∧ y ≤ from' + d ∧ from' + d ≤ y ∧ i = .int .i64 y ∧ St B W [.cells DA (bvs 128 (fun m => mkTo kd side n pol T from' m d)).toArray 72, .cells B A 33] [] wr) (fun i _ => (to' - intOf i).toNat)
         case atStart => exact ⟨from', 0, by omega, by omega, by omega, rfl, H22.out⟩
         case round =>
          obtain ⟨y, d, hd, hy1, hy2, rfl, hst⟩ := hrel
          obtain ⟨u24, rfl⟩ : ∃ u24 : World, u24 = wr := ⟨_, rfl⟩
          have H25 := hid hst
          clear hst
          by_cases hyn : y < to'
          ·
           skip
           have hyn' : (y : Int) < to' := by omega
           have z26 := H25.out.loadStg 1 rfl (by rw [HA.out]; rfl)
           go_wp2_with (refine loadArm z26 (by rfl) (by rfl) ?_)
           clear z26
           refine (fspan16_A HA.out _ _ _ _ _ T _ (H25.out.oldTps HTT.out) (by omega) HSD2.out).mono ?_
           rintro e w27 ⟨rfl, hb⟩
           have H28 := hid (H25.out.call hb)
           clear hb
           obtain ⟨ff1, ff2, cc1, cc2⟩ := sp_bd (kd := kd) (i := y) (side := side) (T := T) (by omega) HSD2.out HTO2.out
           obtain ⟨ff, hff⟩ : ∃ z, spF kd y side T = z := ⟨_, rfl⟩
           obtain ⟨cc, hcc9⟩ : ∃ z, spC kd y side T = z := ⟨_, rfl⟩
           rw [hff, hcc9]
           rw [hff] at ff1 ff2
           rw [hcc9] at cc1 cc2
           have HFF := hid hff
           obtain ⟨CC, hCC⟩ : ∃ m : Nat, cc = m := ⟨cc.toNat, by omega⟩
           subst hCC
           have HCC := hid hcc9
           clear hff hcc9
           go_wp2_with fail
           go_loopw [18] (fun i wr => ∃ (z : Int) (c : Nat), c ≤ CC ∧ z ≤ ff + c ∧ ff + c ≤ z ∧ i = .int .i64 z ∧ St B W [.cells DA (bvs 128 (fun m => mkTo kd side n pol T from' m d || mkIn n pol ff m c)).toArray 72, .cells B A 33] [] wr) (fun i _ => (ff + CC - intOf i).toNat)
           case atStart => exact ⟨ff, 0, by omega, by omega, by omega, rfl, by simp only [mkIn, Bool.or_false]; exact H28.out.pick [0, 1] rfl (by decide)⟩
           case round =>
            obtain ⟨z, c, hc, hz1, hz2, rfl, hst⟩ := hrel
            obtain ⟨u29, rfl⟩ : ∃ u29 : World, u29 = wr := ⟨_, rfl⟩
            have H30 := hid hst
            clear hst
            by_cases hzn : z < ff + (CC : Int)
            ·
             skip
             have hzn' : (z : Int) < ff + CC := by omega
             go_wp2_with fail
             refine (index_any _ _ _ _).mono ?_
             rintro e w31 ⟨rfl, hsw⟩
             have hsw2 : u29 = w31 := by first | exact hsw | exact hsw.symm
             clear hsw
             subst hsw2
             obtain ⟨ix, hix⟩ : ∃ xx', bIdx z n pol = xx' := ⟨_, rfl⟩
             rw [hix]
             have HIX := hid hix
             clear hix
             obtain ⟨ox, hox⟩ : ∃ xx', bOk z n pol = xx' := ⟨_, rfl⟩
             rw [hox]
             have HOX := hid hox
             clear hox
             cases ox with
             | true =>
              go_upto_region 19 with fail
              obtain ⟨b1, b2, b3, b4⟩ := bIdx_bd HOX.out
              rw [HIX.out] at b3 b4
              obtain ⟨IX, hIX⟩ : ∃ m : Nat, ix = m := ⟨ix.toNat, by omega⟩
              subst hIX
              have ix1 : IX < 128 := by omega
              have ix2 : (IX : Int) < 128 := by omega
              have z1 := H30.out.cell 0 rfl IX (by simpa using bvs_get _ ix1)
              have z2 := H30.out.free 0 rfl IX
              go_upto_region 16 with fail
              clear z1 z2
              have H32 := hid (H30.out.set 0 rfl IX (.bool true))
              rw [bvs_setA _ ix1] at H32
              simp only [List.set] at H32
              generalize World.setCell u29 _ _ = w33 at *
              have HNX := hid (show bvs 128 (fun m => (mkTo kd side n pol T from' m d || mkIn n pol ff m c) || decide (m = IX)) = bvs 128 (fun m => mkTo kd side n pol T from' m d || mkIn n pol ff m (c + 1)) from bvs_congr fun m => by simp only [mkIn]; rw [show ff + (c : Int) = z by omega, HOX.out, HIX.out, Bool.true_and, Bool.or_assoc, show decide ((IX : Int) = (m : Int)) = decide (m = IX) from decide_eq_decide.2 (by omega)])
              have HNX' := HNX.out
              clear HNX
              have HNX := hid (congrArg List.toArray HNX')
              clear HNX'
              go_wp2_with fail
              go_roundw
              case rel => exact ⟨z + 1, c + 1, by omega, by omega, by omega, by go_num, by rw [← HNX.out]; exact H32.out⟩
              case measure => first | (simp [intOf]; omega) | (simp [intOf]; done)
             | false =>
              go_upto_region 16 with fail
              have HNX := hid (show bvs 128 (fun m => mkTo kd side n pol T from' m d || mkIn n pol ff m c) = bvs 128 (fun m => mkTo kd side n pol T from' m d || mkIn n pol ff m (c + 1)) from bvs_congr fun m => by simp only [mkIn]; rw [show ff + (c : Int) = z by omega, HOX.out]; simp)
              have HNX' := HNX.out
              clear HNX
              have HNX := hid (congrArg List.toArray HNX')
              clear HNX'
              go_wp2_with fail
              go_roundw
              case rel => exact ⟨z + 1, c + 1, by omega, by omega, by omega, by go_num, by rw [← HNX.out]; exact H30.out⟩
              case measure => first | (simp [intOf]; omega) | (simp [intOf]; done)
            ·
             skip
             have hzn' : ¬ ((z : Int) < ff + CC) := by omega
             have hcc : c = CC := by omega
             go_wp2_with fail
             go_roundw
             case rel => exact ⟨y + 1, d + 1, by omega, by omega, by omega, by go_num, by have h9 := H30.out; rw [hcc] at h9; rw [show (fun m => mkTo kd side n pol T from' m (d + 1)) = (fun m => mkTo kd side n pol T from' m d || mkIn n pol ff m CC) from by funext m; show (mkTo kd side n pol T from' m d || mkIn _ _ _ _ _) = _; rw [show from' + (d : Int) = y by omega, HFF.out, HCC.out]; simp]; exact h9⟩
             case measure => first | (simp [intOf]; omega) | (simp [intOf]; done)
          ·
           skip
           have hyn' : ¬ ((y : Int) < to') := by omega
           have hde : d = DD := by omega
           have HDE := hid hde
           clear hde
           go_upto_region 20 with fail
           obtain ⟨P, hP⟩ : ∃ P : Nat → Bool, (fun m => mkTo kd side n pol T from' m DD) = P := ⟨_, rfl⟩
           have HP := hid hP
           have H34 := hid (show St B W [.cells DA (bvs 128 P).toArray 72, .cells B A 33] [] u24 from by have h9 := H25.out; rw [HDE.out, hP] at h9; exact h9)
           clear hP
           go_upto_region 21 with fail
           have hld := H34.out.loadArr 0 rfl
           go_wp2_with (refine loadArm hld (by rfl) (by rfl) ?_)
           have H35 := hid (show St B W [.own (.slice none 0 0) ([]), .cells DA (bvs 128 P).toArray 72, .cells B A 33] [] u24 from H34.out.grow (Below.refl _ _) (Own.nil _ _))
           go_loopw [93, 21] (fun i v wr => ∃ (m : Nat) (oa9 : Option Addr) (ln cp : Nat), m ≤ 128 ∧ i = .int .i64 m ∧ v = .slice oa9 ln cp ∧ (outL P m).length = ln ∧ St B W [.own (.slice oa9 ln cp) (outL P m), .cells DA (bvs 128 P).toArray 72, .cells B A 33] [] wr) (fun i _ _ => 128 - (intOf i).toNat)
           case atStart => exact ⟨0, none, 0, 0, by omega, rfl, rfl, rfl, H35.out⟩
           case round =>
            obtain ⟨m, oa9, ln, cp, hm, rfl, rfl, hln, hst⟩ := hrel
            obtain ⟨u36, rfl⟩ : ∃ u36 : World, u36 = wr := ⟨_, rfl⟩
            have H37 := hid hst
            clear hst
            have HLN := hid hln
            have hlm := outL_len P m
            rw [hln] at hlm
            clear hln
            try clear hld
            by_cases hmn : m < 128
            ·
             skip
             have hmn' : (m : Int) < 128 := by omega
             obtain ⟨pb, hpb⟩ : ∃ x, P m = x := ⟨_, rfl⟩
             have hix := fun w => idx128 P hmn w
             rw [hpb] at hix
             have HPB := hid hpb
             clear hpb
             cases pb with
             | true =>
              obtain ⟨D38, hD38⟩ : ∃ D, u36.heap.size = D := ⟨_, rfl⟩
              have HOUT := hid (show outL P (m + 1) = outL P m ++ [(m : Int)] from by simp only [outL]; rw [if_pos HPB.out])
              have HLN2 := hid (show (outL P m ++ [(m : Int)]).length = ln + 1 from by rw [List.length_append, HLN.out]; rfl)
              have H39 := hid (show St B W [.cells D38 #[.int .i64 m] 3, .own (.slice oa9 ln cp) (outL P m), .cells DA (bvs 128 P).toArray 72, .cells B A 33] [] (u36.alloc (.cells #[.int .i64 m] 3)) from (H37.out.alloc #[.int .i64 m] 3 hD38))
              go_upto_region 26 with (at_builtin; refine append_int rfl _ _ rfl B _ (outL P m) m D38 1 rfl rfl (H39.out.own 1 rfl) (H39.out.cell 0 rfl 0 rfl) (by have := HLN.out; omega) H39.out.size ?_; intro v41 w42 ho hg hv; have H40 := hid (H39.out.append 1 rfl ho hg hv); clear ho hg hv)
              clear H39
              obtain ⟨g9, c9, hva⟩ := (H40.out.own 1 rfl).pos (by rw [HLN2.out]; omega)
              rw [HLN2.out] at hva
              subst hva
              clear hD38
              go_wp2_with fail
              go_roundw
              case rel => exact ⟨m + 1, some ⟨g9, 0, none⟩, ln + 1, c9, by omega, by go_num, by go_num, by rw [HOUT.out]; exact HLN2.out, by rw [HOUT.out]; exact H40.out.pick [1, 2, 3] rfl (by decide)⟩
              case measure => first | (simp [intOf]; omega) | (simp [intOf]; done)
             | false =>
              have HOUT := hid (show outL P (m + 1) = outL P m from by simp only [outL]; rw [if_neg (by rw [HPB.out]; simp)])
              go_wp2_with fail
              go_roundw
              case rel => exact ⟨m + 1, oa9, ln, cp, by omega, by go_num, rfl, by rw [HOUT.out]; exact HLN.out, by rw [HOUT.out]; exact H37.out.pick [0, 1, 2] rfl (by decide)⟩
              case measure => first | (simp [intOf]; omega) | (simp [intOf]; done)
            ·
             skip
             have hmn' : ¬ ((m : Int) < 128) := by omega
             have HME := hid (show m = 128 by omega)
             go_wp2_with fail
             obtain ⟨NM, hNM⟩ : ∃ m : Nat, n = m := ⟨n.toNat, by omega⟩
             have hnl : ndL (stFine kd sb ep ef kw kh wn rn cn sh sh2 xn yn bins on mx X Y n from' to') kd ep side n T from' to' = outL P m := by unfold ndL; rw [if_pos HF.out, HDD.out, HPOL.out, HP.out, HME.out, show 128 = n.toNat + (128 - n.toNat) by omega]; exact (outL_more (fun q hq => by rw [← HP.out]; exact mkTo_out (by omega) (fun i hk => (bIdx_bd hk).2.2.2) _) _).symm
             go_ret
             exact ⟨_, rfl, by (try rw [hB]); rw [hnl]; exact H37.out.own 0 rfl, by first | exact H37.out.below | exact H37.out.below'⟩
       | false =>
        go_wp2_with fail
        have hnl : ndL (stFine kd sb ep ef kw kh wn rn cn sh sh2 xn yn bins on mx X Y n from' to') kd ep side n T from' to' = [] := by unfold ndL stFine; rw [HNb12.out, Bool.and_false]; rfl
        go_ret
        exact ⟨_, rfl, by rw [hnl]; exact Own.nil _ _, by first | exact H11.out.below | exact H11.out.below'⟩
end Go.Proofs.Ytlidacfokgdlgaa
