/-
  Contract: merging lists of counts, in the reference.
-/
import Derived.Test.YtoojiabdgaflgaaMerge1
import Derived.Test.YtoojiabdgaflgaaHist1
import Derived.Deep.QuietTactic
import Derived.BigQuiet
import Derived.StillTailTactics
namespace Go.Proofs.Ytoojiabdgaflgaa
open Go.RowKit
set_option linter.unusedVariables false
set_option linter.unusedSimpArgs false

set_option maxRecDepth 100000 in
set_option maxHeartbeats 1600000 in
theorem qmerge_any (a : Option Addr) (n c : Nat) (L : List (List Int)) (W : World) (hm : Mat W a n c L) :
    Calls Try.prog 36 #[.slice a n c] W (MergePost L W) := by
  obtain ⟨B, hB⟩ : ∃ B, W.heap.size = B := ⟨_, rfl⟩
  have HM := hid hm
  have HL := hid hm.len
  obtain ⟨nc1, nc2⟩ := And.intro hm.nc hm.cap
  clear hm
  have nc3 : (n : Int) ≤ 9223372036854775807 := by omega
  clear nc1 nc2
  by_cases h0 : n = 0
  · subst h0
    go_enter Try.func36, Try.ntmps36
    go_wp2_with fail
    go_ret2
    exact merge_no (by unfold mCode; rw [if_pos (.inl HL.out.symm)]) (by omega) (Below.refl _ _)
  have h0' : ((n : Int) == 0) = false := by simpa using h0
  by_cases h1 : 4096 < n
  · have h1' : (4096 : Int) < n := by omega
    go_enter Try.func36, Try.ntmps36
    go_wp2_with fail
    go_ret2
    exact merge_no (by unfold mCode; rw [if_pos (.inr (by have := HL.out; omega))]) (by omega) (Below.refl _ _)
  have h1' : (n : Int) ≤ 4096 := by omega
  have hn0 : (0 : Int) < n := by omega
  obtain ⟨b, o, rfl⟩ := HM.out.at (by omega)
  obtain ⟨a0, n0, c0, hc0, hs0⟩ := HM.out.row (i := 0) (by omega)
  rw [Nat.add_zero] at hc0
  have HN0 := hid hs0.len
  clear hs0
  have HC1 := hid (show ¬ (L.length = 0 ∨ 4096 < L.length) by have := HL.out; omega)
  by_cases hb1 : 1 ≤ n0 ∧ n0 ≤ 128
  · obtain ⟨b1, b2⟩ := hb1
    have b1' : (1 : Int) ≤ n0 := by omega
    have b2' : (n0 : Int) ≤ 128 := by omega
    have HC2 := hid (show ¬ ¬ (1 ≤ (L.getD 0 []).length ∧ (L.getD 0 []).length ≤ 128) by have := HN0.out; omega)
    go_enter Try.func36, Try.ntmps36
    go_wp2_with fail
    have m5 : decide (1 ≤ (n0 : Int) ∧ (n0 : Int) ≤ 128) = true := by simp; omega
    go_loopw [4] (fun i wr => ∃ k : Nat, k ≤ n ∧ i = .int .i64 k ∧ (∀ i, i < k → (L.getD i []).length = n0) ∧ St B W [] [] wr) (fun i _ => n - (intOf i).toNat)
    case atStart => exact ⟨0, by omega, rfl, fun i hi => by omega, St.init hB⟩
    case round =>
      obtain ⟨k, hk, rfl, ha, hst⟩ := hrel
      obtain ⟨w0, rfl⟩ : ∃ w0 : World, w0 = wr := ⟨_, rfl⟩
      have HA := hid ha
      have HW := hid hst
      clear ha hst
      by_cases hkn : k < n
      · obtain ⟨ak, nk, ck, hck', hsk⟩ := HM.out.row hkn
        have hck := cell_keep HW.out.below hck'
        have hc0w := cell_keep HW.out.below hc0
        have HNK := hid hsk.len
        have hkn' : (k : Int) < n := by omega
        clear hsk hck'
        by_cases hne : nk = n0
        · subst hne
          have hne2 : ((nk : Int) != (nk : Int)) = false := by simp
          go_wp2_with fail
          go_quiet ((go_at_call 65; exact Calls.quiet_of_same (qbins_any _ _)))
          go_wp2_with fail
          go_roundw
          case rel => exact ⟨k + 1, by omega, by go_num, fun i hi => by
            rcases Nat.lt_or_ge i k with h' | h'
            · exact HA.out i h'
            · obtain rfl : i = k := by omega
              exact HNK.out, by first | exact HW.out.drewN _ | exact HW.out.drew⟩
          case measure => simp [intOf]; omega
        · have hne' : ((nk : Int) == (n0 : Int)) = false := by simp; omega
          have hne2 : ((nk : Int) != (n0 : Int)) = true := by simp; omega
          go_wp2_with fail
          go_quiet ((go_at_call 65; exact Calls.quiet_of_same (qbins_any _ _)))
          go_wp2_with fail
          go_ret2
          exact merge_no (by unfold mCode; rw [if_neg HC1.out, if_neg HC2.out, if_pos (mLens_bad (i := k) (by have := HL.out; omega) (by have := HNK.out; have := HN0.out; omega))]) (by omega) (by first | exact (HW.out.drewN _).below | exact HW.out.drew.below)
      · obtain rfl : n = k := by omega
        have HC3 := hid (show mLens L = true from mLens_iff.2 fun i hi => by rw [HA.out i (by have := HL.out; omega), HN0.out])
        have hc0w := cell_keep HW.out.below hc0
        obtain ⟨D, hD⟩ : ∃ D, w0.heap.size = D := ⟨_, rfl⟩
        have hBD : B ≤ D := by have := HW.out.size; omega
        clear HA hkn
        go_wp2_with (first | (at_make; refine make_int rfl _ _ rfl D _ _ n0 rfl rfl rfl rfl (by omega) (by omega) ?_; intro w1 ho hb; rw [hD] at ho ⊢; have H1 := hid (HW.out.made hD ho hb); clear ho hb))
        go_loopw [6] (fun i wr => ∃ k : Nat, k ≤ n ∧ i = .int .i64 k ∧ St B W [.own (.slice (some ⟨D, 0, none⟩) n0 n0) (mRows L n0 k)] [] wr ∧ (∀ i, i < k → ∀ j, j < n0 → 0 ≤ (L.getD i []).getD j 0 ∧ (L.getD i []).getD j 0 ≤ 4096)) (fun i _ => n - (intOf i).toNat)
        case atStart => exact ⟨0, by omega, rfl, H1.out, fun i hi => by omega⟩
        case round =>
          obtain ⟨k, hk, rfl, hst, ha⟩ := hrel
          obtain ⟨w2, rfl⟩ : ∃ w2 : World, w2 = wr := ⟨_, rfl⟩
          have HA := hid ha
          have H2 := hid hst
          clear ha hst
          by_cases hkn : k < n
          · obtain ⟨ak, nk, ck, hck', hsk⟩ := HM.out.row hkn
            have HCKW := hid hck'
            have HSK := hid hsk
            clear hck'
            have hkn' : (k : Int) < n := by omega
            have hnk : nk = n0 := by have := hsk.len; have := mLens_iff.1 HC3.out k (by have := HL.out; omega); have := HN0.out; omega
            subst hnk
            clear hsk
            go_wp2_with fail
            obtain ⟨r, hr⟩ : ∃ r, r = L.getD k [] := ⟨_, rfl⟩
            obtain ⟨l0, hl0⟩ : ∃ l0, l0 = mRows L nk k := ⟨_, rfl⟩
            rw [← hr] at HSK
            have HLEN := hid (show r.length = nk from HSK.out.len)
            have C0 := hid (show Cnt l0 nk (k * (4096 * nk)) by rw [hl0]; exact Cnt.mrows L nk k HA.out)
            rw [← hl0] at H2
            have HR := hid hr
            have HL0 := hid hl0
            clear hr hl0
            have kw : k * (4096 * nk) ≤ 4096 * (4096 * 128) := Nat.mul_le_mul (by omega) (by omega)
            have HBAD := hid (show ∀ j, j < nk → (r.getD j 0 < 0 ∨ 4096 < r.getD j 0) → mIn L = false from fun j hj hb => mIn_bad (i := k) (j := j) (by have := HL.out; omega) (by rw [← HR.out, HLEN.out]; exact hj) (by rw [← HR.out]; exact hb))
            go_loopw [7] (fun i wr => ∃ j : Nat, j ≤ nk ∧ i = .int .i64 j ∧ St B W [.own (.slice (some ⟨D, 0, none⟩) nk nk) (mCols r l0 j)] [] wr ∧ (∀ i, i < j → 0 ≤ r.getD i 0 ∧ r.getD i 0 ≤ 4096)) (fun i _ => nk - (intOf i).toNat)
            case atStart => exact ⟨0, by omega, rfl, H2.out, fun i hi => by omega⟩
            case round =>
              obtain ⟨j, hj, rfl, hst, ha⟩ := hrel
              obtain ⟨w3, rfl⟩ : ∃ w3 : World, w3 = wr := ⟨_, rfl⟩
              have HA3 := hid ha
              have H3 := hid hst
              have HS3 := hid (H3.out.old HSK.out)
              clear ha hst
              by_cases hjn : j < nk
              · obtain ⟨bk, ok, rfl⟩ := row_at HS3.out.row (by omega)
                have cz := row_cell HS3.out.row hjn
                have hjn' : (j : Int) < nk := by omega
                have hck3 := cell_keep H3.out.below HCKW.out
                have HB3 := hid (HBAD.out j hjn)
                have HI3 := hid (show 0 ≤ r.getD j 0 ∧ r.getD j 0 ≤ 4096 → ∀ i, i < j + 1 → 0 ≤ r.getD i 0 ∧ r.getD i 0 ≤ 4096 from fun hg i hi => by
                  rcases Nat.lt_or_ge i j with h' | h'
                  · exact HA3.out i h'
                  · obtain rfl : i = j := by omega
                    exact hg)
                have HE : Hid (addAt (mCols r l0 j) j (r.getD j 0) = mCols r l0 (j + 1)) := rfl
                have HC4 := hid (C0.out.mcols j HA3.out)
                generalize r.getD j 0 = z at *
                obtain ⟨l1, hl1⟩ : ∃ l1, mCols r l0 j = l1 := ⟨_, rfl⟩
                rw [hl1] at H3 HE HC4
                clear hl1
                by_cases hz : 0 ≤ z ∧ z ≤ 4096
                · obtain ⟨z0, z1⟩ := hz
                  have HBU : Hid (addAt l1 j z = l1.set j (l1.getD j 0 + z)) := rfl
                  obtain ⟨cb1, cb2⟩ := HC4.out.bd j
                  obtain ⟨y1, y2⟩ := H3.out.get 0 rfl (j := j) (by rw [HC4.out.len]; exact hjn)
                  have HG := hid (fun (m : Nat) => (H3.out.drewN m).get 0 rfl (j := j) (by rw [HC4.out.len]; exact hjn))
                  have HCK := hid (fun (m : Nat) => cell_keep (w' := w3.drewN m) (below_drewN (Below.refl _ _) m) hck3)
                  have HCZ := hid (fun (m : Nat) => cell_keep (w' := w3.drewN m) (below_drewN (Below.refl _ _) m) cz)
                  generalize l1.getD j 0 = cnt at *
                  have cb3 : cnt ≤ 8589934592 := by omega
                  clear cb2
                  go_wp2_with fail
                  refine wp_region_still_tail 13 (by kernel_rfl) (by kernel_rfl) ?_
                  change wpStill _ _ (w3.drewN 1) (fun a' => wpList _ _ _ _ a' (w3.drewN 1)) _ _
                  have H3' := hid (H3.out.drewN 1)
                  have hck4 := HCK.out 1
                  have cz4 := HCZ.out 1
                  obtain ⟨c1, c2⟩ := HG.out 1
                  clear y1 y2 HG HCK HCZ
                  generalize w3.drewN 1 = w4 at *
                  have q6 : IntKind.i64.wrap (cnt + z) = cnt + z := IntWalk.i64_in _ (by omega)
                  simp only [List.take_succ_cons, List.take_zero, List.drop_succ_cons, List.drop_zero]
                  iterate 13 still_step
                  refine wpStill_nil ?_
                  go_wp2_with fail
                  have h4 := H3'.out.store 0 rfl j (cnt + z)
                  rw [← HBU.out, HE.out] at h4
                  go_roundw
                  case rel => exact ⟨j + 1, by omega, by go_num, h4, HI3.out ⟨z0, z1⟩⟩
                  case measure => simp [intOf]; omega
                · go_wp2_with fail
                  all_goals first
                    | (go_ret2; exact merge_no (by unfold mCode; rw [if_neg HC1.out, if_neg HC2.out, if_neg (by rw [HC3.out]; simp), if_pos (HB3.out (by omega))]) (by omega) H3.out.below)
                    | (exfalso; omega)
              · obtain rfl : nk = j := by omega
                go_wp2_with fail
                go_roundw
                case rel => exact ⟨k + 1, by omega, by go_num, by show St B W [.own _ (mCols (L.getD k []) (mRows L _ k) _)] [] w3; rw [← HR.out, ← HL0.out]; exact H3.out, fun i hi => by
                  rcases Nat.lt_or_ge i k with h' | h'
                  · exact HA.out i h'
                  · obtain rfl : i = k := by omega
                    rw [← HR.out]; exact HA3.out⟩
                case measure => simp [intOf]; omega
          · obtain rfl : n = k := by omega
            have HC4 := hid (show mIn L = true from mIn_iff.2 fun i hi j hj => HA.out i (by have := HL.out; omega) j (by have := mLens_iff.1 HC3.out i hi; have := HN0.out; omega))
            have HS := hid (show mRows L n0 n = mSum L by unfold mSum; rw [HN0.out, HL.out])
            have C0 := hid (Cnt.mrows L n0 n HA.out)
            rw [HS.out] at H2 C0
            clear HA hkn hk
            obtain ⟨sm, hsm⟩ : ∃ sm, mSum L = sm := ⟨_, rfl⟩
            rw [hsm] at H2 C0
            have HSM := hid hsm
            clear hsm
            go_wp2_with fail
            go_loop [8] (fun i => ∃ j : Nat, j ≤ n0 ∧ i = .int .i64 j ∧ (∀ i, i < j → sm.getD i 0 ≤ 4096)) (fun i => n0 - (intOf i).toNat)
            case atStart => exact ⟨0, by omega, rfl, fun i hi => by omega⟩
            case round =>
              obtain ⟨j, hj, rfl, ha⟩ := hrel
              have HA3 := hid ha
              clear ha
              by_cases hjn : j < n0
              · obtain ⟨c1, c2⟩ := H2.out.get 0 rfl (j := j) (by rw [C0.out.len]; exact hjn)
                have hjn' : (j : Int) < n0 := by omega
                have HB3 := hid (fun hb : 4096 < sm.getD j 0 => mTop_bad (l := sm) (i := j) (by rw [C0.out.len]; exact hjn) hb)
                have HI3 := hid (show sm.getD j 0 ≤ 4096 → ∀ i, i < j + 1 → sm.getD i 0 ≤ 4096 from fun hg i hi => by
                  rcases Nat.lt_or_ge i j with h' | h'
                  · exact HA3.out i h'
                  · obtain rfl : i = j := by omega
                    exact hg)
                generalize sm.getD j 0 = z at *
                by_cases hz : z ≤ 4096
                · go_wp2_with fail
                  go_round
                  case rel => exact ⟨j + 1, by omega, by go_num, HI3.out hz⟩
                  case measure => simp [intOf]; omega
                · have hz' : 4096 < z := by omega
                  go_wp2_with fail
                  go_ret2
                  exact merge_no (by unfold mCode; rw [if_neg HC1.out, if_neg HC2.out, if_neg (by rw [HC3.out]; simp), if_neg (by rw [HC4.out]; simp), if_pos (by rw [HSM.out]; exact HB3.out hz')]) (by omega) H2.out.below
              · obtain rfl : n0 = j := by omega
                have HT := hid (show mTop sm = true from mTop_iff.2 fun i hi => HA3.out i (by rw [C0.out.len] at hi; exact hi))
                have HCODE := hid (show mCode L = 0 by unfold mCode; rw [if_neg HC1.out, if_neg HC2.out, if_neg (by rw [HC3.out]; simp), if_neg (by rw [HC4.out]; simp), if_neg (by rw [HSM.out, HT.out]; simp)])
                have HLIST := hid (show mList L = sm by unfold mList; rw [if_pos HCODE.out, HSM.out])
                go_wp2_with fail
                go_ret2
                exact ⟨_, by rw [HCODE.out]; rfl, by rw [HLIST.out, hB]; exact H2.out.own 0 rfl, H2.out.below⟩
  · have m5 : decide (1 ≤ (n0 : Int) ∧ (n0 : Int) ≤ 128) = false := by rw [decide_eq_false_iff_not]; omega
    have HNO := hid (show mCode L = 8 by unfold mCode; rw [if_neg HC1.out, if_pos (by have := HN0.out; omega)])
    have hne2 : ((n0 : Int) != (n0 : Int)) = false := by simp
    clear hb1
    go_enter Try.func36, Try.ntmps36
    go_wp2_with fail
    go_loopw [4] (fun i wr => i = .int .i64 0 ∧ wr = W) (fun i _ => 0)
    case atStart => exact ⟨rfl, rfl⟩
    case round =>
      obtain ⟨rfl, rfl⟩ := hrel
      go_wp2_with fail
      go_quiet ((go_at_call 65; exact Calls.quiet_of_same (qbins_any _ _)))
      go_wp2_with fail
      go_ret2
      exact merge_no HNO.out (by omega) (by first | exact below_drewN (Below.refl _ _) _ | exact (Below.refl _ _).drew)
end Go.Proofs.Ytoojiabdgaflgaa
