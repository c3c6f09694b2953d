/-
  Contracts: the needed coordinates of a stage in one direction, in the reference.
-/
import Derived.Test.YtlidacfokgdlgaaStNd2
namespace Go.Proofs.Ytlidacfokgdlgaa
open Go.RowKit
attribute [local go_sem ↓] Go.wp_at_zero Go.wp_at_succ
set_option linter.unusedVariables false
set_option linter.unusedSimpArgs false

set_option maxRecDepth 100000 in
set_option maxHeartbeats 6400000 in
theorem rneeded_any {kd sa sb : Int} {bar : Bool} {ep ef kw kh : Int} {wa : Option Addr} {wn wc : Nat} {ra : Option Addr} {rn rc : Nat} {ca : Option Addr} {cn cc : Nat} {sh sh2 : Int} {xa : Option Addr} {xn xc : Nat} {ya : Option Addr} {yn yc : Nat} {bins : Int} {oa : Option Addr} {on oc : Nat} {mx : Int} {A : Array Value} (hA : A = #[.int .i64 kd, .int .i64 sa, .int .i64 sb, .bool bar, .int .i64 ep, .int .i64 ef, .int .i64 kw, .int .i64 kh, .slice wa wn wc, .slice ra rn rc, .slice ca cn cc, .int .i64 sh, .int .i64 sh2, .slice xa xn xc, .slice ya yn yc, .int .i64 bins, .slice oa on oc, .int .i64 mx]) (X Y : Tbl) (n from' to' side : Int) (ta : Option Addr) (tm tc : Nat) (T : Tbl) (W : World) (hx : Tps W xa xn xc X) (hy : Tps W ya yn yc Y) (ht : Tps W ta tm tc T)
    (hsd : stFine kd sb ep ef kw kh wn rn cn sh sh2 xn yn bins on mx X Y n from' to' = true → kd = 1 ∨ kd = 2 → 1 ≤ side ∧ side ≤ 9) (hT : stFine kd sb ep ef kw kh wn rn cn sh sh2 xn yn bins on mx X Y n from' to' = true → kd = 3 → tapsOk T = true) :
    Calls Try.prog 30 #[.agg A, .int .i64 n, .int .i64 from', .int .i64 to', .int .i64 side, .slice ta tm tc] W fun e w' => ∃ v, e = .returned v ∧ Own W.heap.size w' v (ndL (stFine kd sb ep ef kw kh wn rn cn sh sh2 xn yn bins on mx X Y n from' to') kd ep side n T from' to') ∧ Below W.heap.size W w' := by
  obtain ⟨B, hB⟩ : ∃ B, W.heap.size = B := ⟨_, rfl⟩
  have HI0 := hid (St.init hB)
  have HX := hid hx
  have HA := hid hA
  have HY := hid hy
  have HTT := hid ht
  have HSD := hid hsd
  have HTO := hid hT
  clear hx hy ht hsd hT hA
  go_enter Try.func30, Try.ntmps30
  go_upto_region 1 with fail
  have H43 := hid (show St B W [.cells B A 33] [] (W.alloc (.cells A 33)) from (HI0.out.alloc A 33 hB))
  first | refine gen_code H43.out ?_ | refine gen_list H43.out ?_ | refine gen_calls H43.out ?_
  intro w44 hG
  clear H43
  have H43 := hid hG
  clear hG
  have z45 := H43.out.loadStg 0 rfl (by rw [HA.out]; rfl)
  go_wp2_with (refine loadArm z45 (by rfl) (by rfl) ?_)
  clear z45
  refine (rfine_A HA.out _ _ _ X Y _ (H43.out.oldTps HX.out) (H43.out.oldTps HY.out)).mono ?_
  rintro e w46 ⟨rfl, hb⟩
  have H47 := hid (H43.out.call hb)
  clear hb
  obtain ⟨b48, hb48⟩ : ∃ xx', stFine kd sb ep ef kw kh wn rn cn sh sh2 xn yn bins on mx X Y n from' to' = xx' := ⟨_, rfl⟩
  rw [hb48]
  have HNb48 := hid hb48
  clear hb48
  cases b48 with
  | true =>
    go_upto_region 3 with fail
    have HF := hid HNb48.out
    obtain ⟨n1, n2, f1, f2, t1, t2, k1, k6⟩ := fine_facts HF.out
    have HSD2 := hid (HSD.out HF.out)
    have HTO2 := hid (HTO.out HF.out)
    obtain ⟨pol, hpol⟩ : ∃ z, stPol kd ep = z := ⟨_, rfl⟩
    have HPOL := hid hpol
    clear hpol
    have z49 := H47.out.cell 0 rfl 4 (show A[4]? = some (.int .i64 ep) from by rw [HA.out]; rfl)
    have z50 := H47.out.cell 0 rfl 0 (show A[0]? = some (.int .i64 kd) from by rw [HA.out]; rfl)
    go_upto_if 34 with fail
    clear z49 z50
    go_cut [13] (fun s wx => s = .int .i64 pol ∧ St B W [.cells B A 33] [] wx)
    case first =>
      by_cases c51 : (3 : Int) < kd
      · skip
        go_wp2_with fail
        go_meet
        exact ⟨by first | rfl | (rw [← HPOL.out]; unfold stPol; first | (rw [if_pos (by omega)]; done) | (rw [if_neg (by omega)]; done)), H47.out⟩
      · skip
        go_wp2_with fail
        go_meet
        exact ⟨by first | rfl | (rw [← HPOL.out]; unfold stPol; first | (rw [if_pos (by omega)]; done) | (rw [if_neg (by omega)]; done)), H47.out⟩
    case rest =>
      obtain ⟨rfl, hst⟩ := hcut
      obtain ⟨u52, rfl⟩ : ∃ u52 : World, u52 = wc := ⟨_, rfl⟩
      have H53 := hid hst
      clear hst
      obtain ⟨NN, hNN⟩ : ∃ m : Nat, n = m := ⟨n.toNat, by omega⟩
      subst hNN
      obtain ⟨DA, hDA⟩ : ∃ L, u52.heap.size = L := ⟨_, rfl⟩
      have hBDA : B ≤ DA := by have := H53.out.size; omega
      go_upto_region 7 with (at_make; refine make_bool rfl _ _ rfl DA _ _ NN rfl rfl (by first | rfl | omega) (by first | rfl | omega) (by omega) (by omega) ?_; intro w54 ho hb; rw [hDA] at ho ⊢; have H55 := hid (H53.out.madeB hDA (ownsRow_base ho hBDA) hb); clear ho hb hDA)
      go_wp2_with fail
      obtain ⟨DD, hDD⟩ : ∃ D : Nat, (to' - from').toNat = D := ⟨_, rfl⟩
      have hd1 : to' - from' ≤ (DD : Int) := by omega
      have hd2 : DD = 0 ∨ (DD : Int) ≤ to' - from' := by omega
      have hd3 : DD ≤ 128 := by omega
      have HDD := hid hDD
      clear hDD
      go_loopw [15] (fun i wr => ∃ (y : Int) (d : Nat), d ≤ DD ∧ y ≤ from' + d ∧ from' + d ≤ y ∧ i = .int .i64 y ∧ St B W [.arr (4) 1 (.slice (some ⟨DA, 0, none⟩) NN NN) NN (bvs NN (fun m => mkTo kd side NN pol T from' m d)), .cells B A 33] [] wr) (fun i _ => (to' - intOf i).toNat)
      case atStart => exact ⟨from', 0, by omega, by omega, by omega, rfl, H55.out⟩
      case round =>
        obtain ⟨y, d, hd, hy1, hy2, rfl, hst⟩ := hrel
        obtain ⟨u56, rfl⟩ : ∃ u56 : World, u56 = wr := ⟨_, rfl⟩
        have H57 := hid hst
        clear hst
        by_cases hyn : y < to'
        · skip
          have hyn' : (y : Int) < to' := by omega
          have z58 := H57.out.cell 1 rfl 0 (show A[0]? = some (.int .i64 kd) from by rw [HA.out]; rfl)
          go_wp2_with fail
          clear z58
          refine (rwindow_any _ _ _ _ _ _ T _ (H57.out.oldTps HTT.out) (by omega) HSD2.out).mono ?_
          rintro e w59 ⟨rfl, hb⟩
          have H60 := hid (H57.out.call hb)
          clear hb
          obtain ⟨ff1, ff2, cc1, cc2⟩ := sp_bd (kd := kd) (i := y) (side := side) (T := T) (by omega) HSD2.out HTO2.out
          obtain ⟨ff, hff⟩ : ∃ z, spF kd y side T = z := ⟨_, rfl⟩
          obtain ⟨cc, hcc9⟩ : ∃ z, spC kd y side T = z := ⟨_, rfl⟩
          rw [hff, hcc9]
          rw [hff] at ff1 ff2
          rw [hcc9] at cc1 cc2
          have HFF := hid hff
          obtain ⟨CC, hCC⟩ : ∃ m : Nat, cc = m := ⟨cc.toNat, by omega⟩
          subst hCC
          have HCC := hid hcc9
          clear hff hcc9
          go_wp2_with fail
          go_loopw [18] (fun i wr => ∃ (z : Int) (c : Nat), c ≤ CC ∧ z ≤ ff + c ∧ ff + c ≤ z ∧ i = .int .i64 z ∧ St B W [.arr (4) 1 (.slice (some ⟨DA, 0, none⟩) NN NN) NN (bvs NN (fun m => mkTo kd side NN pol T from' m d || mkIn NN pol ff m c)), .cells B A 33] [] wr) (fun i _ => (ff + CC - intOf i).toNat)
          case atStart => exact ⟨ff, 0, by omega, by omega, by omega, rfl, by simp only [mkIn, Bool.or_false]; exact H60.out.pick [0, 1] rfl (by decide)⟩
          case round =>
            obtain ⟨z, c, hc, hz1, hz2, rfl, hst⟩ := hrel
            obtain ⟨u61, rfl⟩ : ∃ u61 : World, u61 = wr := ⟨_, rfl⟩
            have H62 := hid hst
            clear hst
            by_cases hzn : z < ff + (CC : Int)
            · skip
              have hzn' : (z : Int) < ff + CC := by omega
              go_wp2_with fail
              refine (rindex_any _ _ _ _).mono ?_
              rintro e w63 ⟨rfl, hsw⟩
              have hsw2 : u61 = w63 := by first | exact hsw | exact hsw.symm
              clear hsw
              subst hsw2
              obtain ⟨ix, hix⟩ : ∃ xx', bIdx z (↑NN) pol = xx' := ⟨_, rfl⟩
              rw [hix]
              have HIX := hid hix
              clear hix
              obtain ⟨ox, hox⟩ : ∃ xx', bOk z (↑NN) pol = xx' := ⟨_, rfl⟩
              rw [hox]
              have HOX := hid hox
              clear hox
              cases ox with
              | true =>
                go_upto_region 16 with fail
                obtain ⟨b1, b2, b3, b4⟩ := bIdx_bd HOX.out
                rw [HIX.out] at b3 b4
                obtain ⟨IX, hIX⟩ : ∃ m : Nat, ix = m := ⟨ix.toNat, by omega⟩
                subst hIX
                have ix1 : IX < NN := by omega
                have ix2 : (IX : Int) < NN := by omega
                obtain ⟨z1, z2⟩ := H62.out.arrAt 0 rfl ix1 (bvs_get _ ix1)
                go_upto_region 13 with fail
                clear z1 z2
                have H64 := hid (H62.out.storeArr 0 rfl IX (.bool true))
                rw [bvs_set _ ix1] at H64
                simp only [List.set] at H64
                generalize World.setCell u61 _ _ = w65 at *
                have HNX := hid (show bvs NN (fun m => (mkTo kd side NN pol T from' m d || mkIn NN pol ff m c) || decide (m = IX)) = bvs NN (fun m => mkTo kd side NN pol T from' m d || mkIn NN pol ff m (c + 1)) from bvs_congr fun m => by simp only [mkIn]; rw [show ff + (c : Int) = z by omega, HOX.out, HIX.out, Bool.true_and, Bool.or_assoc, show decide ((IX : Int) = (m : Int)) = decide (m = IX) from decide_eq_decide.2 (by omega)])
                go_wp2_with fail
                go_roundw
                case rel => exact ⟨z + 1, c + 1, by omega, by omega, by omega, by go_num, by rw [← HNX.out]; exact H64.out⟩
                case measure => first | (simp [intOf]; omega) | (simp [intOf]; done)
              | false =>
                go_upto_region 13 with fail
                have HNX := hid (show bvs NN (fun m => mkTo kd side NN pol T from' m d || mkIn NN pol ff m c) = bvs NN (fun m => mkTo kd side NN pol T from' m d || mkIn NN pol ff m (c + 1)) from bvs_congr fun m => by simp only [mkIn]; rw [show ff + (c : Int) = z by omega, HOX.out]; simp)
                go_wp2_with fail
                go_roundw
                case rel => exact ⟨z + 1, c + 1, by omega, by omega, by omega, by go_num, by rw [← HNX.out]; exact H62.out⟩
                case measure => first | (simp [intOf]; omega) | (simp [intOf]; done)
            · skip
              have hzn' : ¬ ((z : Int) < ff + CC) := by omega
              have hcc : c = CC := by omega
              go_wp2_with fail
              go_roundw
              case rel => exact ⟨y + 1, d + 1, by omega, by omega, by omega, by go_num, by have h9 := H62.out; rw [hcc] at h9; rw [show (fun m => mkTo kd side NN pol T from' m (d + 1)) = (fun m => mkTo kd side NN pol T from' m d || mkIn NN pol ff m CC) from by funext m; show (mkTo kd side NN pol T from' m d || mkIn _ _ _ _ _) = _; rw [show from' + (d : Int) = y by omega, HFF.out, HCC.out]; simp]; exact h9⟩
              case measure => first | (simp [intOf]; omega) | (simp [intOf]; done)
        · skip
          have hyn' : ¬ ((y : Int) < to') := by omega
          have hde : d = DD := by omega
          have HDE := hid hde
          clear hde
          go_upto_region 17 with fail
          obtain ⟨P, hP⟩ : ∃ P : Nat → Bool, (fun m => mkTo kd side NN pol T from' m DD) = P := ⟨_, rfl⟩
          have HP := hid hP
          have H66 := hid (show St B W [.arr (4) 1 (.slice (some ⟨DA, 0, none⟩) NN NN) NN (bvs NN P), .cells B A 33] [] u56 from by have h9 := H57.out; rw [HDE.out, hP] at h9; exact h9)
          clear hP
          go_wp2_with fail
          have H67 := hid (show St B W [.own (.slice none 0 0) ([]), .arr (4) 1 (.slice (some ⟨DA, 0, none⟩) NN NN) NN (bvs NN P), .cells B A 33] [] u56 from H66.out.grow (Below.refl _ _) (Own.nil _ _))
          go_loopw [22, 21] (fun i v wr => ∃ (m : Nat) (oa9 : Option Addr) (ln cp : Nat), m ≤ NN ∧ i = .int .i64 m ∧ v = .slice oa9 ln cp ∧ (outL P m).length = ln ∧ St B W [.own (.slice oa9 ln cp) (outL P m), .arr (4) 1 (.slice (some ⟨DA, 0, none⟩) NN NN) NN (bvs NN P), .cells B A 33] [] wr) (fun i _ _ => NN - (intOf i).toNat)
          case atStart => exact ⟨0, none, 0, 0, by omega, rfl, rfl, rfl, H67.out⟩
          case round =>
            obtain ⟨m, oa9, ln, cp, hm, rfl, rfl, hln, hst⟩ := hrel
            obtain ⟨u68, rfl⟩ : ∃ u68 : World, u68 = wr := ⟨_, rfl⟩
            have H69 := hid hst
            clear hst
            have HLN := hid hln
            have hlm := outL_len P m
            rw [hln] at hlm
            clear hln
            try clear hld
            by_cases hmn : m < NN
            · skip
              have hmn' : (m : Int) < NN := by omega
              obtain ⟨pb, hpb⟩ : ∃ x, P m = x := ⟨_, rfl⟩
              have cz := (H69.out.arrAt 1 rfl hmn (bvs_get P hmn)).1
              rw [hpb] at cz
              have HPB := hid hpb
              clear hpb
              cases pb with
              | true =>
                obtain ⟨D70, hD70⟩ : ∃ D, u68.heap.size = D := ⟨_, rfl⟩
                have HOUT := hid (show outL P (m + 1) = outL P m ++ [(m : Int)] from by simp only [outL]; rw [if_pos HPB.out])
                have HLN2 := hid (show (outL P m ++ [(m : Int)]).length = ln + 1 from by rw [List.length_append, HLN.out]; rfl)
                have H71 := hid (show St B W [.cells D70 #[.int .i64 m] 3, .own (.slice oa9 ln cp) (outL P m), .arr (4) 1 (.slice (some ⟨DA, 0, none⟩) NN NN) NN (bvs NN P), .cells B A 33] [] (u68.alloc (.cells #[.int .i64 m] 3)) from (H69.out.alloc #[.int .i64 m] 3 hD70))
                go_upto_region 20 with (at_builtin; refine append_int rfl _ _ rfl B _ (outL P m) m D70 1 rfl rfl (H71.out.own 1 rfl) (H71.out.cell 0 rfl 0 rfl) (by have := HLN.out; omega) H71.out.size ?_; intro v73 w74 ho hg hv; have H72 := hid (H71.out.append 1 rfl ho hg hv); clear ho hg hv)
                clear H71
                obtain ⟨g9, c9, hva⟩ := (H72.out.own 1 rfl).pos (by rw [HLN2.out]; omega)
                rw [HLN2.out] at hva
                subst hva
                clear hD70
                go_wp2_with fail
                go_roundw
                case rel => exact ⟨m + 1, some ⟨g9, 0, none⟩, ln + 1, c9, by omega, by go_num, by go_num, by rw [HOUT.out]; exact HLN2.out, by rw [HOUT.out]; exact H72.out.pick [1, 2, 3] rfl (by decide)⟩
                case measure => first | (simp [intOf]; omega) | (simp [intOf]; done)
              | false =>
                have HOUT := hid (show outL P (m + 1) = outL P m from by simp only [outL]; rw [if_neg (by rw [HPB.out]; simp)])
                go_wp2_with fail
                go_roundw
                case rel => exact ⟨m + 1, oa9, ln, cp, by omega, by go_num, rfl, by rw [HOUT.out]; exact HLN.out, by rw [HOUT.out]; exact H69.out.pick [0, 1, 2] rfl (by decide)⟩
                case measure => first | (simp [intOf]; omega) | (simp [intOf]; done)
            · skip
              have hmn' : ¬ ((m : Int) < NN) := by omega
              have HME := hid (show m = NN by omega)
              go_wp2_with fail
              have hnl : ndL (stFine kd sb ep ef kw kh wn rn cn sh sh2 xn yn bins on mx X Y ↑NN from' to') kd ep side (↑NN) T from' to' = outL P m := by unfold ndL; rw [if_pos HF.out, HDD.out, HPOL.out, HME.out, Int.toNat_natCast]; exact congrFun (congrArg outL HP.out) NN
              go_ret
              exact ⟨_, rfl, by (try rw [hB]); rw [hnl]; exact H69.out.own 0 rfl, by first | exact H69.out.below | exact H69.out.below'⟩
  | false =>
    go_wp2_with fail
    have hnl : ndL (stFine kd sb ep ef kw kh wn rn cn sh sh2 xn yn bins on mx X Y n from' to') kd ep side n T from' to' = [] := by unfold ndL; rw [HNb48.out]; rfl
    go_ret
    exact ⟨_, rfl, by rw [hnl]; exact Own.nil _ _, by first | exact H47.out.below | exact H47.out.below'⟩
end Go.Proofs.Ytlidacfokgdlgaa
