/-
  Contract: the tiles of convolutions by rows and columns, in the program.
-/
import Derived.Test.YtfdkgjphnlijiaaSpPix
namespace Go.Proofs.Ytfdkgjphnlijiaa
open Go.RowKit
attribute [local go_sem ↓] Go.wp_at_zero Go.wp_at_succ
set_option linter.unusedVariables false
set_option linter.unusedSimpArgs false

theorem rangeMapL_getD (g : Nat → List Int) {N i : Nat} (h : i < N) : ((List.range N).map g).getD i [] = g i := by
  rw [List.getD_eq_getElem?_getD, List.getElem?_map, List.getElem?_range h]; rfl
theorem rowsAt_old {rs : List Ro} {M : Nat} (h : rs.length < M) : (rowsAt rs M)[rs.length]? = some (.slice none 0 0) := by
  unfold rowsAt
  rw [List.getElem?_append_right (by rw [rowVals_len]; exact Nat.le_refl _), rowVals_len, Nat.sub_self, List.getElem?_replicate_of_lt (by omega)]

set_option maxRecDepth 100000 in
set_option maxHeartbeats 12800000 in
theorem stile_any (w h mx : Int) (a : Option Addr) (n c : Nat) (zs : List Int) (p f : Int) (ra : Option Addr) (rn rc : Nat) (row : List Int) (ca : Option Addr) (cn cc : Nat) (col : List Int) (shift shift2 out r0 r1 r2 r3 : Int) (W : World) (hs : Slc W a n c zs) (hr : Slc W ra rn rc row) (hc : Slc W ca cn cc col) :
    Calls Try.prog 20 #[.agg #[.int .i64 w, .int .i64 h, .int .i64 mx, .slice a n c], .agg #[.int .i64 p, .int .i64 f], .slice ra rn rc, .slice ca cn cc, .int .i64 shift, .int .i64 shift2, .int .i64 out, .agg #[.int .i64 r0, .int .i64 r1, .int .i64 r2, .int .i64 r3]] W (TPost (spTC w h mx zs p f row col shift shift2 out r0 r1 r2 r3) (r2 - r0) (r3 - r1) out (spL w h zs p f row col shift shift2 out r0 r1 r2 r3) W) := by
  obtain ⟨B, hB⟩ : ∃ B, W.heap.size = B := ⟨_, rfl⟩
  have HI0 := hid (St.init hB)
  have HS := hid hs
  have HR := hid hr
  have HC := hid hc
  have HLR := hid hr.len
  have HLC := hid hc.len
  have rnm : (rn : Int) ≤ 9223372036854775807 := by have := hr.nc; have := hr.cap; omega
  have cnm : (cn : Int) ≤ 9223372036854775807 := by have := hc.nc; have := hc.cap; omega
  clear hs hr hc
  go_enter Try.func20, Try.ntmps20
  go_upto_region 1 with fail
  have H45 := hid (show St B W [.cells (B + 1 + 1 + 1) #[.int .i64 0, .int .i64 0, .int .i64 0, .slice none 0 0] 35, .cells (B + 1 + 1) #[.int .i64 r0, .int .i64 r1, .int .i64 r2, .int .i64 r3] 33, .cells (B + 1) #[.int .i64 p, .int .i64 f] 38, .cells B #[.int .i64 w, .int .i64 h, .int .i64 mx, .slice a n c] 35] [] ((((W.alloc (.cells #[.int .i64 w, .int .i64 h, .int .i64 mx, .slice a n c] 35)).alloc (.cells #[.int .i64 p, .int .i64 f] 38)).alloc (.cells #[.int .i64 r0, .int .i64 r1, .int .i64 r2, .int .i64 r3] 33)).alloc (.cells #[.int .i64 0, .int .i64 0, .int .i64 0, .slice none 0 0] 35)) from ((((HI0.out.alloc #[.int .i64 w, .int .i64 h, .int .i64 mx, .slice a n c] 35 hB).alloc #[.int .i64 p, .int .i64 f] 38 (by first | exact hB | simp [hB])).alloc #[.int .i64 r0, .int .i64 r1, .int .i64 r2, .int .i64 r3] 33 (by first | exact hB | simp [hB])).alloc #[.int .i64 0, .int .i64 0, .int .i64 0, .slice none 0 0] 35 (by first | exact hB | simp [hB])))
  first | refine gen_code H45.out ?_ | refine gen_list H45.out ?_ | refine gen_calls H45.out ?_
  intro w46 hG
  clear H45
  have H45 := hid hG
  clear hG
  have z47 := H45.out.cell 3 rfl 0 rfl
  have z48 := H45.out.cell 3 rfl 1 rfl
  have z49 := H45.out.cell 3 rfl 2 rfl
  have z50 := H45.out.cell 3 rfl 3 rfl
  go_wp2_with fail
  clear z47 z48 z49 z50
  refine (pvalid_any _ _ _ _ _ _ _ _ (by have := HS.out.nc; have := HS.out.cap; omega) (H45.out.old HS.out).row).mono ?_
  rintro e w51 ⟨rfl, hb⟩
  have H52 := hid (H45.out.call hb)
  clear hb
  obtain ⟨b53, hb53⟩ : ∃ xx', pValid w h mx zs = xx' := ⟨_, rfl⟩
  rw [hb53]
  have HNb53 := hid hb53
  clear hb53
  cases b53 with
  | true =>
    have z54 := H52.out.cell 2 rfl 0 rfl
    have z55 := H52.out.cell 2 rfl 1 rfl
    have z56 := H52.out.cell 3 rfl 0 rfl
    have z57 := H52.out.cell 3 rfl 1 rfl
    have z58 := H52.out.cell 3 rfl 2 rfl
    have z59 := H52.out.cell 3 rfl 3 rfl
    go_wp2_with fail
    clear z54 z55 z56 z57 z58 z59
    refine (bvalid_any _ _ _ _).mono ?_
    rintro e w60 ⟨rfl, hb⟩
    have H61 := hid (H52.out.call hb)
    clear hb
    obtain ⟨b62, hb62⟩ : ∃ xx', bValid p f mx = xx' := ⟨_, rfl⟩
    rw [hb62]
    have HNb62 := hid hb62
    clear hb62
    cases b62 with
    | true =>
      have z63 := H61.out.cell 3 rfl 0 rfl
      have z64 := H61.out.cell 3 rfl 1 rfl
      have z65 := H61.out.cell 3 rfl 2 rfl
      have z66 := H61.out.cell 3 rfl 3 rfl
      go_wp2_with fail
      clear z63 z64 z65 z66
      refine (scheck_any _ _ _ _ _ _ _ _ _ _ _ _ _ (H61.out.old HR.out) (H61.out.old HC.out)).mono ?_
      rintro e w67 ⟨rfl, hb⟩
      have H68 := hid (H61.out.call hb)
      clear hb
      obtain ⟨k69, hk69⟩ : ∃ xx', spCode mx row col shift shift2 out = xx' := ⟨_, rfl⟩
      rw [hk69]
      have HNk69 := hid hk69
      clear hk69
      by_cases c70 : (k69 : Int) = 0
      · obtain ⟨c70c, c70d⟩ : (k69 : Int) ≤ 0 ∧ (0 : Int) ≤ k69 := by omega
        have c70a : ((k69 : Int) == (0)) = true := by simpa using c70
        have c70b : ((k69 : Int) != (0)) = false := by simpa using c70
        have c70h := hid c70
        clear c70
        have z71 := H68.out.cell 1 rfl 0 rfl
        have z72 := H68.out.cell 1 rfl 1 rfl
        have z73 := H68.out.cell 1 rfl 2 rfl
        have z74 := H68.out.cell 1 rfl 3 rfl
        go_wp2_with fail
        clear z71 z72 z73 z74
        refine (rempty_any _ _ _ _ _).mono ?_
        rintro e w75 ⟨rfl, hb⟩
        have H76 := hid (H68.out.call hb)
        clear hb
        obtain ⟨b77, hb77⟩ : ∃ xx', rEmpty r0 r1 r2 r3 = xx' := ⟨_, rfl⟩
        rw [hb77]
        have HNb77 := hid hb77
        clear hb77
        cases b77 with
        | true =>
          have z78 := H76.out.cell 0 rfl 0 rfl
          have z79 := H76.out.free 0 rfl 0
          have z80 := H76.out.cell 0 rfl 1 rfl
          have z81 := H76.out.free 0 rfl 1
          have z82 := H76.out.cell 0 rfl 2 rfl
          have z83 := H76.out.free 0 rfl 2
          have z84 := H76.out.cell 0 rfl 3 rfl
          have z85 := H76.out.free 0 rfl 3
          go_wp2_with fail
          clear z78 z79 z80 z81 z82 z83 z84 z85
          have H86 := hid (show St B W [.cells (B + 1 + 1 + 1) #[.int .i64 0, .int .i64 0, .int .i64 0, .slice none 0 0] 35, .cells (B + 1 + 1) #[.int .i64 r0, .int .i64 r1, .int .i64 r2, .int .i64 r3] 33, .cells (B + 1) #[.int .i64 p, .int .i64 f] 38, .cells B #[.int .i64 w, .int .i64 h, .int .i64 mx, .slice a n c] 35] [] ((((w75.setCell ⟨B + 1 + 1 + 1, 0, none⟩ (.int .i64 0)).setCell ⟨B + 1 + 1 + 1, 1, none⟩ (.int .i64 0)).setCell ⟨B + 1 + 1 + 1, 2, none⟩ (.int .i64 0)).setCell ⟨B + 1 + 1 + 1, 3, none⟩ (.slice none 0 0)) from (H76.out.set4 0 rfl (.int .i64 0) (.int .i64 0) (.int .i64 0) (.slice none 0 0)))
          have q87 := H86.out.cell 0 rfl 0 rfl
          have q88 := H86.out.cell 0 rfl 1 rfl
          have q89 := H86.out.cell 0 rfl 2 rfl
          have q90 := H86.out.cell 0 rfl 3 rfl
          refine bodyPost_ret (v := .tuple #[.agg #[.int .i64 0, .int .i64 0, .int .i64 0, .slice none 0 0], .int .i64 8]) ?_ rfl (TPost.no (by unfold spTC; rw [if_neg (fun hc => hc ⟨HNb53.out, HNb62.out⟩), if_neg (by rw [HNk69.out]; have := c70h.out; omega), if_pos (by unfold rIs; rw [HNb77.out]; rfl)]) (by omega) (by first | exact H86.out.below | exact H86.out.below'))
          simp [results, Try.results20, go_sem, q87, q88, q89, q90]
        | false =>
          have z91 := H76.out.cell 1 rfl 0 rfl
          have z92 := H76.out.cell 1 rfl 1 rfl
          have z93 := H76.out.cell 1 rfl 2 rfl
          have z94 := H76.out.cell 1 rfl 3 rfl
          have z95 := H76.out.cell 3 rfl 0 rfl
          have z96 := H76.out.cell 3 rfl 1 rfl
          have z97 := H76.out.cell 3 rfl 2 rfl
          have z98 := H76.out.cell 3 rfl 3 rfl
          go_wp2_with fail
          clear z91 z92 z93 z94 z95 z96 z97 z98
          refine (rinside_any _ _ _ _ _ _ _ _ _).mono ?_
          rintro e w99 ⟨rfl, hb⟩
          have H100 := hid (H76.out.call hb)
          clear hb
          obtain ⟨b101, hb101⟩ : ∃ xx', rInside r0 r1 r2 r3 0 0 w h = xx' := ⟨_, rfl⟩
          rw [hb101]
          have HNb101 := hid hb101
          clear hb101
          cases b101 with
          | true =>
            have HCK := hid (show spCode mx row col shift shift2 out = 0 from by rw [HNk69.out]; omega)
            have HV := hid HNb53.out
            have HB := hid HNb62.out
            obtain ⟨p1, p2, p3, p4, p5, p6, p7⟩ := pOk_iff.1 (pValid_iff.1 HNb53.out).1
            have HIN := hid (show rIs r0 r1 r2 r3 w h = true from by unfold rIs; rw [HNb77.out, HNb101.out]; rfl)
            obtain ⟨i1, i2, i3, i4, i5, i6⟩ := (rIs_iff p1 p2 p3 p4).1 HIN.out
            have HTC := hid (show spTC w h mx zs p f row col shift shift2 out r0 r1 r2 r3 = 0 from by unfold spTC; rw [if_neg (fun hc => hc ⟨HV.out, HB.out⟩), if_neg (by rw [HCK.out]; simp), if_neg (by rw [HIN.out]; simp)])
            obtain ⟨k1, k2, k3, k4, hwr, hwc, sh1, sh2, sh3, sh4, o1, o2, _⟩ := sp_len HCK.out
            rw [HLR.out] at k1 k2
            rw [HLC.out] at k3 k4
            have HWR := hid hwr
            have HWC := hid hwc
            clear hwr hwc
            obtain ⟨rn2, hrn2⟩ : ∃ q, Int.tdiv (rn : Int) 2 = q := ⟨_, rfl⟩
            obtain ⟨cn2, hcn2⟩ : ∃ q, Int.tdiv (cn : Int) 2 = q := ⟨_, rfl⟩
            have HRN2 := hid (show (rn : Int) / 2 = rn2 from by rw [← hrn2, Int.tdiv_eq_ediv_of_nonneg (by omega)])
            have HCN2 := hid (show (cn : Int) / 2 = cn2 from by rw [← hcn2, Int.tdiv_eq_ediv_of_nonneg (by omega)])
            obtain ⟨nb1, nb2, nb3, nb4⟩ : 0 ≤ rn2 ∧ rn2 ≤ 4 ∧ 0 ≤ cn2 ∧ cn2 ≤ 4 := by have h1 := HRN2.out; have h2 := HCN2.out; omega
            obtain ⟨wd, hwd⟩ : ∃ m : Nat, r2 - r0 = m := ⟨(r2 - r0).toNat, by omega⟩
            obtain ⟨ht, hht⟩ : ∃ m : Nat, r3 - r1 = m := ⟨(r3 - r1).toNat, by omega⟩
            have HWD := hid hwd
            have HHT := hid hht
            obtain ⟨wd1, wd2, ht1, ht2⟩ : (wd : Int) ≤ r2 - r0 ∧ r2 - r0 ≤ wd ∧ (ht : Int) ≤ r3 - r1 ∧ r3 - r1 ≤ ht := by omega
            have pq0 := Int.mul_nonneg (a := r2 - r0) (b := r3 - r1) (by omega) (by omega)
            have pq1 := Int.mul_le_mul (a := r2 - r0) (c := w) (b := r3 - r1) (d := h) (by omega) (by omega) (by omega) (by omega)
            obtain ⟨NN, hNN⟩ : ∃ N : Nat, (r2 - r0) * (r3 - r1) = N := ⟨((r2 - r0) * (r3 - r1)).toNat, by omega⟩
            rw [hNN] at pq0 pq1
            have HNN := hid (show ht * wd = NN from by have := hNN; rw [hwd, hht, ← Int.natCast_mul, Nat.mul_comm] at this; omega)
            clear hwd hht
            obtain ⟨F, hF⟩ : ∃ F : Nat → Nat → Int, (fun (k j : Nat) => spP w h zs p f row col shift shift2 out (r0 + (j : Int)) (r1 + (k : Int))) = F := ⟨_, rfl⟩
            have HFV := hid (show ∀ k j : Nat, spP w h zs p f row col shift shift2 out (r0 + (j : Int)) (r1 + (k : Int)) = F k j from fun k j => by rw [← hF])
            have HFF := hid hF
            clear hF
            have hnn2 : IntKind.i64.wrap (NN : Int) = NN := IntWalk.i64_in _ (by omega)
            obtain ⟨M, hM1, hM2⟩ : ∃ m : Nat, ht + cn ≤ m + 1 ∧ m + 1 ≤ ht + cn := ⟨ht + cn - 1, by omega, by omega⟩
            obtain ⟨G, hG⟩ : ∃ G : Nat → Nat → Int, (fun (k u : Nat) => spM w h zs p f row shift (r0 + (u : Int)) (r1 - cn2 + (k : Int))) = G := ⟨_, rfl⟩
            have HGV := hid (show ∀ k u : Nat, spM w h zs p f row shift (r0 + (u : Int)) (r1 - cn2 + (k : Int)) = G k u from fun k u => by rw [← hG])
            clear hG
            obtain ⟨D102, hD102⟩ : ∃ D, w99.heap.size = D := ⟨_, rfl⟩
            have z103 := H100.out.cell 1 rfl 0 rfl
            have z104 := H100.out.cell 1 rfl 1 rfl
            have z105 := H100.out.cell 1 rfl 2 rfl
            have z106 := H100.out.cell 1 rfl 3 rfl
            go_upto_region 9 with fail
            clear z103 z104 z105 z106
            have H107 := hid (show St B W [.cells D102 #[.int .i64 (r2 - r0), .int .i64 (r3 - r1), .int .i64 out, .slice none 0 0] 35, .cells (B + 1 + 1 + 1) #[.int .i64 0, .int .i64 0, .int .i64 0, .slice none 0 0] 35, .cells (B + 1 + 1) #[.int .i64 r0, .int .i64 r1, .int .i64 r2, .int .i64 r3] 33, .cells (B + 1) #[.int .i64 p, .int .i64 f] 38, .cells B #[.int .i64 w, .int .i64 h, .int .i64 mx, .slice a n c] 35] [] (w99.alloc (.cells #[.int .i64 (r2 - r0), .int .i64 (r3 - r1), .int .i64 out, .slice none 0 0] 35)) from (H100.out.alloc #[.int .i64 (r2 - r0), .int .i64 (r3 - r1), .int .i64 out, .slice none 0 0] 35 hD102))
            first | refine gen_code H107.out ?_ | refine gen_list H107.out ?_ | refine gen_calls H107.out ?_
            intro w108 hG
            clear H107
            have H107 := hid hG
            clear hG
            clear hD102
            obtain ⟨DM, hDM⟩ : ∃ D, w108.heap.size = D := ⟨_, rfl⟩
            have hBDM : B ≤ w108.heap.size := H107.out.size
            have z109 := H107.out.cell 0 rfl 0 rfl
            have z110 := H107.out.cell 0 rfl 1 rfl
            have z111 := H107.out.cell 0 rfl 2 rfl
            have z112 := H107.out.cell 0 rfl 3 rfl
            go_upto_region 10 with (first | (at_make; refine make_mat rfl _ _ rfl B _ _ M rfl rfl (by first | rfl | omega) (by first | rfl | omega) (by omega) hBDM ?_; intro w114 ho hb; rw [hDM] at ho ⊢; have H113 := hid (H107.out.madeArr hDM ho hb); clear ho hb z109 z110 z111 z112))
            clear hDM hBDM
            have H115 := hid (show St B W [.arr (22) 1 (.slice (some ⟨DM, 0, none⟩) M M) M (rowsAt [] M), .cells D102 #[.int .i64 (r2 - r0), .int .i64 (r3 - r1), .int .i64 out, .slice none 0 0] 35, .cells (B + 1 + 1 + 1) #[.int .i64 0, .int .i64 0, .int .i64 0, .slice none 0 0] 35, .cells (B + 1 + 1) #[.int .i64 r0, .int .i64 r1, .int .i64 r2, .int .i64 r3] 33, .cells (B + 1) #[.int .i64 p, .int .i64 f] 38, .cells B #[.int .i64 w, .int .i64 h, .int .i64 mx, .slice a n c] 35] [] w114 from by have e := H113.out; rw [show List.replicate M (Value.slice none 0 0) = rowsAt [] M from by simp [rowsAt, rowVals]] at e; exact e)
            go_wp2_with fail
            go_loopw [89] (fun i wr => ∃ rs : List Ro, rs.length ≤ M ∧ rowLists rs = (List.range rs.length).map (fun i => (List.range wd).map (G i)) ∧ i = .int .i64 rs.length ∧ St B W [.arr (22) 1 (.slice (some ⟨DM, 0, none⟩) M M) M (rowsAt rs M), .cells D102 #[.int .i64 (r2 - r0), .int .i64 (r3 - r1), .int .i64 out, .slice none 0 0] 35, .cells (B + 1 + 1 + 1) #[.int .i64 0, .int .i64 0, .int .i64 0, .slice none 0 0] 35, .cells (B + 1 + 1) #[.int .i64 r0, .int .i64 r1, .int .i64 r2, .int .i64 r3] 33, .cells (B + 1) #[.int .i64 p, .int .i64 f] 38, .cells B #[.int .i64 w, .int .i64 h, .int .i64 mx, .slice a n c] 35] rs wr) (fun i _ => M - (intOf i).toNat)
            case atStart => exact ⟨[], by simp, by simp [rowLists], rfl, H115.out⟩
            case round =>
              obtain ⟨rs, hrs, hrl, rfl, hst⟩ := hrel
              obtain ⟨u116, rfl⟩ : ∃ u116 : World, u116 = wr := ⟨_, rfl⟩
              have H117 := hid hst
              clear hst
              have HRL := hid hrl
              clear hrl
              by_cases hkM : rs.length < M
              · skip
                have hkM' : (rs.length : Int) < M := by omega
                obtain ⟨SN, hSN⟩ : ∃ m : Nat, r2 - r0 + (rn : Int) - 1 = m := ⟨(r2 - r0 + (rn : Int) - 1).toNat, by omega⟩
                obtain ⟨sn1, sn2⟩ : (SN : Int) ≤ r2 - r0 + rn - 1 ∧ r2 - r0 + (rn : Int) - 1 ≤ SN := by omega
                have z118 := H117.out.cell 5 rfl 0 rfl
                have z119 := H117.out.cell 5 rfl 1 rfl
                have z120 := H117.out.cell 5 rfl 2 rfl
                have z121 := H117.out.cell 5 rfl 3 rfl
                have z122 := H117.out.cell 4 rfl 0 rfl
                have z123 := H117.out.cell 4 rfl 1 rfl
                have z124 := H117.out.cell 3 rfl 0 rfl
                have z125 := H117.out.cell 3 rfl 1 rfl
                have z126 := H117.out.cell 3 rfl 2 rfl
                have z127 := H117.out.cell 3 rfl 3 rfl
                have z128 := H117.out.cell 1 rfl 0 rfl
                have z129 := H117.out.cell 1 rfl 1 rfl
                have z130 := H117.out.cell 1 rfl 2 rfl
                have z131 := H117.out.cell 1 rfl 3 rfl
                go_wp2_with fail
                clear z118 z119 z120 z121 z122 z123 z124 z125 z126 z127 z128 z129 z130 z131
                refine (spixels_any _ _ _ _ _ _ _ _ _ _ _ SN _ (H117.out.old HS.out) HV.out (by omega) (by omega)).mono ?_
                rintro e w132 ⟨v133, rfl, ho, hb⟩
                have H134 := hid (H117.out.grow hb ho)
                obtain ⟨v133a, v133c, rfl, _⟩ := ho.slc
                clear ho hb
                obtain ⟨src, hsrc⟩ : ∃ xx', (List.range SN).map (fun (u : Nat) => pPix w h zs p f (r0 - rn2 + (u : Int)) (r1 - cn2 + (rs.length : Int))) = xx' := ⟨_, rfl⟩
                rw [hsrc] at H134 ⊢
                have HLsrc := hid hsrc
                clear hsrc
                have HSL := hid (show src.length = SN from by rw [← HLsrc.out]; simp)
                clear hSN
                obtain ⟨sg, sc, hsg⟩ := (H134.out.own 0 rfl).pos (by rw [HSL.out]; omega)
                injection hsg with hga hgb hgc
                subst hga
                clear hgb hgc
                go_upto_region 14 with fail
                have z135 := H134.out.cell 2 rfl 0 rfl
                have z136 := H134.out.cell 2 rfl 1 rfl
                have z137 := H134.out.cell 2 rfl 2 rfl
                have z138 := H134.out.cell 2 rfl 3 rfl
                obtain ⟨D5, hD5⟩ : ∃ D, w132.heap.size = D := ⟨_, rfl⟩
                have hBD5 : B ≤ D5 := by have := H134.out.size; omega
                go_upto_region 15 with (first | (at_make; refine make_int rfl _ _ rfl D5 _ _ wd rfl rfl (by first | rfl | omega) (by first | rfl | omega) (by omega) (by omega) ?_; intro w140 ho hb; rw [hD5] at ho ⊢; have H139 := hid (H134.out.made hD5 ho hb); clear ho hb; clear z135 z136 z137 z138; obtain ⟨s1, s2⟩ := H139.out.arrAt 2 rfl hkM (rowsAt_old hkM)))
                clear hD5
                have H141 := hid (H139.out.storeArr 2 rfl rs.length (.slice (some ⟨D5, 0, none⟩) wd wd))
                clear s1 s2
                generalize World.setCell w140 _ _ = w142 at *
                have ac := (H141.out.arrAt 2 rfl hkM (rowsAt_get hkM)).1
                go_wp2_with fail
                go_loopw [126] (fun i wr => ∃ u : Nat, u ≤ wd ∧ i = .int .i64 u ∧ St B W [.own (.slice (some ⟨D5, 0, none⟩) wd wd) (partL (G rs.length) u wd), .own (.slice (some ⟨sg, 0, none⟩) src.length v133c) src, .arr (22) 1 (.slice (some ⟨DM, 0, none⟩) M M) M ((rowsAt rs M).set rs.length (.slice (some ⟨D5, 0, none⟩) wd wd)), .cells D102 #[.int .i64 (r2 - r0), .int .i64 (r3 - r1), .int .i64 out, .slice none 0 0] 35, .cells (B + 1 + 1 + 1) #[.int .i64 0, .int .i64 0, .int .i64 0, .slice none 0 0] 35, .cells (B + 1 + 1) #[.int .i64 r0, .int .i64 r1, .int .i64 r2, .int .i64 r3] 33, .cells (B + 1) #[.int .i64 p, .int .i64 f] 38, .cells B #[.int .i64 w, .int .i64 h, .int .i64 mx, .slice a n c] 35] rs wr) (fun i _ => wd - (intOf i).toNat)
                case atStart => exact ⟨0, by omega, rfl, by rw [partL_zero]; exact H141.out⟩
                case round =>
                  obtain ⟨u, hu, rfl, hst⟩ := hrel
                  obtain ⟨u143, rfl⟩ : ∃ u143 : World, u143 = wr := ⟨_, rfl⟩
                  have H144 := hid hst
                  clear hst
                  try clear ac
                  by_cases hun : u < wd
                  · skip
                    have hun' : (u : Int) < wd := by omega
                    go_wp2_with fail
                    go_loopw [131, 24] (fun i s wr => ∃ v : Nat, v ≤ rn ∧ i = .int .i64 v ∧ s = .int .i64 (spR w h zs p f row (r0 + (u : Int)) (r1 - cn2 + (rs.length : Int)) v) ∧ St B W [.own (.slice (some ⟨D5, 0, none⟩) wd wd) (partL (G rs.length) u wd), .own (.slice (some ⟨sg, 0, none⟩) src.length v133c) src, .arr (22) 1 (.slice (some ⟨DM, 0, none⟩) M M) M ((rowsAt rs M).set rs.length (.slice (some ⟨D5, 0, none⟩) wd wd)), .cells D102 #[.int .i64 (r2 - r0), .int .i64 (r3 - r1), .int .i64 out, .slice none 0 0] 35, .cells (B + 1 + 1 + 1) #[.int .i64 0, .int .i64 0, .int .i64 0, .slice none 0 0] 35, .cells (B + 1 + 1) #[.int .i64 r0, .int .i64 r1, .int .i64 r2, .int .i64 r3] 33, .cells (B + 1) #[.int .i64 p, .int .i64 f] 38, .cells B #[.int .i64 w, .int .i64 h, .int .i64 mx, .slice a n c] 35] rs wr) (fun i _ _ => rn - (intOf i).toNat)
                    case atStart => exact ⟨0, by omega, rfl, rfl, H144.out⟩
                    case round =>
                      obtain ⟨v, hv, rfl, rfl, hst⟩ := hrel
                      obtain ⟨u145, rfl⟩ : ∃ u145 : World, u145 = wr := ⟨_, rfl⟩
                      have H146 := hid hst
                      clear hst
                      obtain ⟨S2a, S2b⟩ := spR_bd HV.out HB.out HWR.out (r0 + (u : Int)) (r1 - cn2 + (rs.length : Int)) (n := v) (by rw [HLR.out]; exact hv) (by rw [HLR.out]; exact k2)
                      obtain ⟨S2, hS2⟩ : ∃ xx', spR w h zs p f row (r0 + (u : Int)) (r1 - cn2 + (rs.length : Int)) v = xx' := ⟨_, rfl⟩
                      rw [hS2] at S2a S2b ⊢
                      have HS2 := hid hS2
                      clear hS2
                      by_cases hvn : v < rn
                      · skip
                        have hvn' : (v : Int) < rn := by omega
                        obtain ⟨wb, wo, hwa⟩ := row_at (H146.out.old HR.out).row (by omega)
                        have cz := row_cell (by rw [← hwa]; exact (H146.out.old HR.out).row) (j := v) hvn
                        obtain ⟨wz, hwz⟩ : ∃ xx', row.getD v 0 = xx' := ⟨_, rfl⟩
                        rw [hwz] at cz
                        have hzw := wAll_iff.1 HWR.out v (by rw [HLR.out]; exact hvn)
                        rw [hwz] at hzw
                        have HWZ := hid hwz
                        clear hwz
                        subst hwa
                        have cs := (H146.out.get 1 rfl (j := u + v) (by rw [HSL.out]; omega)).1
                        have HPZ := hid (show src.getD (u + v) 0 = pPix w h zs p f (r0 + (u : Int) + (v : Int) - (row.length : Int) / 2) (r1 - cn2 + (rs.length : Int)) from by rw [← HLsrc.out, rangeMap_getD _ (show u + v < SN by omega), HLR.out, HRN2.out, show r0 - rn2 + ((u + v : Nat) : Int) = r0 + (u : Int) + (v : Int) - rn2 by omega])
                        obtain ⟨pz, hpz⟩ : ∃ xx', src.getD (u + v) 0 = xx' := ⟨_, rfl⟩
                        rw [hpz] at cs HPZ
                        clear hpz
                        obtain ⟨pz1, pz2⟩ : 0 ≤ pz ∧ pz ≤ mx := by rw [HPZ.out]; exact pPix_bd HV.out HB.out _ _
                        obtain ⟨pr1, pr2⟩ := wmul2 hzw ⟨pz1, show pz ≤ 4294967296 by omega⟩
                        have HSN0 := hid (show spR w h zs p f row (r0 + (u : Int)) (r1 - cn2 + (rs.length : Int)) (v + 1) = S2 + wz * pz from by rw [← HS2.out, HPZ.out, ← HWZ.out]; rfl)
                        obtain ⟨PR, hPR⟩ : ∃ xx', wz * pz = xx' := ⟨_, rfl⟩
                        rw [hPR] at pr1 pr2 HSN0
                        have w8 : IntKind.i64.wrap PR = PR := IntWalk.i64_in _ (by omega)
                        have w9 : IntKind.i64.wrap (S2 + PR) = S2 + PR := IntWalk.i64_in _ (by omega)
                        have wi : IntKind.i64.wrap ((u : Int) + v) = (u : Int) + v := IntWalk.i64_in _ (by omega)
                        have wi2 : ((u : Int) + v).toNat = u + v := by omega
                        have wi3 : (0 : Int) ≤ (u : Int) + v := by omega
                        have wi4 : (u : Int) + v < src.length := by have := HSL.out; omega
                        clear hzw
                        go_wp2_with fail
                        go_roundw
                        case rel => exact ⟨v + 1, by omega, by go_num, by rw [HSN0.out], H146.out⟩
                        case measure => first | (simp [intOf]; omega) | (simp [intOf]; done)
                      · skip
                        have hvn' : ¬ ((v : Int) < rn) := by omega
                        have HVN := hid (show v = rn by omega)
                        go_upto_region 24 with fail
                        have HFX := hid (show shV S2 shift = G rs.length u from by rw [← HGV.out]; unfold spM; rw [HLR.out, ← HVN.out, HS2.out])
                        obtain ⟨gv, hgv⟩ : ∃ xx', G rs.length u = xx' := ⟨_, rfl⟩
                        have HNX := hid (show (partL (G rs.length) u wd).set u gv = partL (G rs.length) (u + 1) wd from by rw [← hgv]; exact partL_next _ hun)
                        rw [hgv] at HFX
                        clear hgv
                        have H147 := hid H146.out.drew
                        refine wp_region_held_drew (S := (fun w' => w'.cell? ⟨DM, rs.length, none⟩ = some (.slice (some ⟨D5, 0, none⟩) wd wd))) (by kernel_rfl) (H147.out.arrAt 2 rfl hkM (rowsAt_get hkM)).1 (fun hHeld => ?_)
                        generalize u145.drew = k148 at *
                        refine wpAnyH_take (i := 0) (oi := _) (v := ?_) rfl (by kernel_rfl) (by kernel_rfl) (by kernel_rfl) (fun _ _ _ h => h) (Or.inl ⟨by rfl, ?_⟩) (by assumption) ?_
                        rotate_left
                        focus (intro wS hSw; (try dsimp only at hSw); go_simp; (try with_reducible rfl))
                        try simp only [Act.put, List.getElem_toArray, List.getElem_cons_zero, List.getElem_cons_succ, List.setIfInBounds_toArray, List.set_cons_zero, List.set_cons_succ]
                        refine wpAnyH_take (i := 1) (oi := _) (v := ?_) rfl (by kernel_rfl) (by kernel_rfl) (by kernel_rfl) (fun _ _ _ h => h) (Or.inl ⟨by rfl, ?_⟩) (by assumption) ?_
                        rotate_left
                        focus (intro wS hSw; (try dsimp only at hSw); go_simp; (try with_reducible rfl))
                        try simp only [Act.put, List.getElem_toArray, List.getElem_cons_zero, List.getElem_cons_succ, List.setIfInBounds_toArray, List.set_cons_zero, List.set_cons_succ]
                        refine wpAnyH_take (i := 2) (oi := _) (v := ?_) rfl (by kernel_rfl) (by kernel_rfl) (by kernel_rfl) (fun _ _ _ h => h) (Or.inl ⟨by rfl, ?_⟩) (by assumption) ?_
                        rotate_left
                        focus (intro wS hSw; (try dsimp only at hSw); go_simp; (try with_reducible rfl))
                        try simp only [Act.put, List.getElem_toArray, List.getElem_cons_zero, List.getElem_cons_succ, List.setIfInBounds_toArray, List.set_cons_zero, List.set_cons_succ]
                        refine wpAnyH_take (i := 3) (oi := _) (v := ?_) rfl (by kernel_rfl) (by kernel_rfl) (by kernel_rfl) (fun _ _ _ h => h) (Or.inl ⟨by rfl, ?_⟩) (by assumption) ?_
                        rotate_left
                        focus (intro wS hSw; (try dsimp only at hSw); go_simp; (try with_reducible rfl))
                        try simp only [Act.put, List.getElem_toArray, List.getElem_cons_zero, List.getElem_cons_succ, List.setIfInBounds_toArray, List.set_cons_zero, List.set_cons_succ]
                        refine wpAnyH_take (i := 4) (oi := _) (v := ?_) rfl (by kernel_rfl) (by kernel_rfl) (by kernel_rfl) (fun _ _ _ h => h) (Or.inl ⟨by rfl, ?_⟩) (by assumption) ?_
                        rotate_left
                        focus (intro wS hSw; (try dsimp only at hSw); go_simp; (try with_reducible rfl))
                        try simp only [Act.put, List.getElem_toArray, List.getElem_cons_zero, List.getElem_cons_succ, List.setIfInBounds_toArray, List.set_cons_zero, List.set_cons_succ]
                        refine wpAnyH_take (i := 5) (oi := _) (v := ?_) rfl (by kernel_rfl) (by kernel_rfl) (by kernel_rfl) (fun _ _ _ h => h) (Or.inl ⟨by rfl, ?_⟩) (by assumption) ?_
                        rotate_left
                        focus (intro wS hSw; (try dsimp only at hSw); go_simp; (try with_reducible rfl))
                        try simp only [Act.put, List.getElem_toArray, List.getElem_cons_zero, List.getElem_cons_succ, List.setIfInBounds_toArray, List.set_cons_zero, List.set_cons_succ]
                        refine wpAnyH_take (i := 6) (oi := _) (v := ?_) rfl (by kernel_rfl) (by kernel_rfl) (by kernel_rfl) (fun _ _ _ h => h) (Or.inl ⟨by rfl, ?_⟩) (by assumption) ?_
                        rotate_left
                        focus (intro wS hSw; (try dsimp only at hSw); go_simp; (try with_reducible rfl))
                        try simp only [Act.put, List.getElem_toArray, List.getElem_cons_zero, List.getElem_cons_succ, List.setIfInBounds_toArray, List.set_cons_zero, List.set_cons_succ]
                        refine wpAnyH_ready (rs := [7]) (by kernel_rfl) (by simp) (AllReadyH.cons (o := _) rfl (fun K hK => ?_) AllReadyH.nil)
                        go_simp
                        go_at_call 42
                        refine (fshift_any _ _ _).mono ?_
                        rintro e w149 ⟨rfl, hsw⟩
                        have hsw2 : k148 = w149 := by first | exact hsw | exact hsw.symm
                        clear hsw
                        subst hsw2
                        rw [HFX.out]
                        refine hK.out _ _ ?_ (fun hHeld2 => ?_)
                        focus ((try dsimp only); (exact (H147.out.arrAt 2 rfl hkM (rowsAt_get hkM)).1))
                        clear hK K
                        try simp only [Act.put, List.getElem_toArray, List.getElem_cons_zero, List.getElem_cons_succ, List.setIfInBounds_toArray, List.set_cons_zero, List.set_cons_succ]
                        clear hHeld
                        have hHeld := hHeld2
                        clear hHeld2
                        refine wpAnyH_take (i := 8) (oi := _) (v := ?_) rfl (by kernel_rfl) (by kernel_rfl) (by kernel_rfl) (fun _ _ _ h => h) (Or.inl ⟨by rfl, ?_⟩) (by assumption) ?_
                        rotate_left
                        focus (intro wS hSw; (try dsimp only at hSw); go_simp; (try with_reducible rfl))
                        try simp only [Act.put, List.getElem_toArray, List.getElem_cons_zero, List.getElem_cons_succ, List.setIfInBounds_toArray, List.set_cons_zero, List.set_cons_succ]
                        refine wpAnyH_ready (rs := [9]) (by kernel_rfl) (by simp) (AllReadyH.cons (o := _) rfl (fun K hK => ?_) AllReadyH.nil)
                        obtain ⟨s150, s151⟩ := H147.out.get 0 rfl (j := u) (by rw [partL_len _ (by omega)]; exact hun)
                        have H152 := hid (show St B W [.own (.slice (some ⟨D5, 0, none⟩) wd wd) ((partL (G rs.length) u wd).set u gv), .own (.slice (some ⟨sg, 0, none⟩) src.length v133c) src, .arr (22) 1 (.slice (some ⟨DM, 0, none⟩) M M) M ((rowsAt rs M).set rs.length (.slice (some ⟨D5, 0, none⟩) wd wd)), .cells D102 #[.int .i64 (r2 - r0), .int .i64 (r3 - r1), .int .i64 out, .slice none 0 0] 35, .cells (B + 1 + 1 + 1) #[.int .i64 0, .int .i64 0, .int .i64 0, .slice none 0 0] 35, .cells (B + 1 + 1) #[.int .i64 r0, .int .i64 r1, .int .i64 r2, .int .i64 r3] 33, .cells (B + 1) #[.int .i64 p, .int .i64 f] 38, .cells B #[.int .i64 w, .int .i64 h, .int .i64 mx, .slice a n c] 35] rs (k148.setCell ⟨D5, u, none⟩ (.int .i64 gv)) from (H147.out.store 0 rfl u gv))
                        go_simp
                        refine hK.out _ _ ?_ (fun hHeld2 => ?_)
                        focus ((try dsimp only); (exact (H152.out.arrAt 2 rfl hkM (rowsAt_get hkM)).1))
                        clear hK K hHeld
                        try simp only [Act.put, List.getElem_toArray, List.getElem_cons_zero, List.getElem_cons_succ, List.setIfInBounds_toArray, List.set_cons_zero, List.set_cons_succ]
                        clear s150 s151
                        generalize (k148.setCell ⟨D5, u, none⟩ (.int .i64 gv)) = k153 at *
                        have hHeld := hHeld2
                        clear hHeld2
                        refine wpAnyH_done (by kernel_rfl) ?_ _
                        try clear hHeld
                        go_wp2_with fail
                        go_roundw
                        case rel => exact ⟨u + 1, by omega, by go_num, by rw [← HNX.out]; exact H152.out⟩
                        case measure => first | (simp [intOf]; omega) | (simp [intOf]; done)
                  · skip
                    have hun' : ¬ ((u : Int) < wd) := by omega
                    have Hhun := hid (show u = wd by omega)
                    go_wp2_with fail
                    go_roundw
                    case rel => exact ⟨⟨(some ⟨D5, 0, none⟩), wd, wd, partL (G rs.length) u wd⟩ :: rs, by simp only [List.length_cons]; omega, by rw [rowLists_cons, HRL.out, Hhun.out, partL_all]; simp [List.range_succ], by first | go_num | simp, by rw [← rowsAt_next _ hkM]; exact (H144.out.freeze 0 rfl).pick [1, 2, 3, 4, 5, 6] rfl (by decide)⟩
                    case measure => first | (simp [intOf]; omega) | (simp [intOf]; done)
              · skip
                have hkM' : ¬ ((rs.length : Int) < M) := by omega
                have HhkM := hid (show rs.length = M by omega)
                go_upto_region 27 with fail
                have hrm : rs.length = M := by omega
                subst hrm
                have H154 := hid (show St B W [.arr (22) 1 (.slice (some ⟨DM, 0, none⟩) rs.length rs.length) (rs.length) (rowVals rs), .cells D102 #[.int .i64 (r2 - r0), .int .i64 (r3 - r1), .int .i64 out, .slice none 0 0] 35, .cells (B + 1 + 1 + 1) #[.int .i64 0, .int .i64 0, .int .i64 0, .slice none 0 0] 35, .cells (B + 1 + 1) #[.int .i64 r0, .int .i64 r1, .int .i64 r2, .int .i64 r3] 33, .cells (B + 1) #[.int .i64 p, .int .i64 f] 38, .cells B #[.int .i64 w, .int .i64 h, .int .i64 mx, .slice a n c] 35] rs u116 from by have e := H117.out; rw [rowsAt_all rfl] at e; exact e)
                obtain ⟨D3, hD3⟩ : ∃ D, u116.heap.size = D := ⟨_, rfl⟩
                have hBD3 : B ≤ D3 := by have := H154.out.size; omega
                have z155 := H154.out.cell 1 rfl 0 rfl
                have z156 := H154.out.free 1 rfl 0
                have z157 := H154.out.cell 1 rfl 1 rfl
                have z158 := H154.out.free 1 rfl 1
                have z159 := H154.out.cell 1 rfl 2 rfl
                have z160 := H154.out.free 1 rfl 2
                have z161 := H154.out.cell 1 rfl 3 rfl
                have z162 := H154.out.free 1 rfl 3
                go_upto_region 28 with (first | (at_make; refine make_cap rfl _ _ rfl D3 _ NN rfl rfl (by first | rfl | exact hNN) (by omega) (by omega) ?_; intro w164 ho hb; rw [hD3] at ho ⊢; have H163 := hid (H154.out.grow hb (by rw [hD3]; exact ho)); clear ho hb z155 z156 z157 z158 z159 z160 z161 z162; have g3 := H163.out.cell 2 rfl 3 rfl; have g4 := H163.out.free 2 rfl 3))
                have H165 := hid (H163.out.set 2 rfl 3 (.slice (some ⟨D3, 0, none⟩) 0 NN))
                clear g3 g4 H163 hD3
                generalize World.setCell w164 _ _ = w166 at *
                clear hNN hnn2
                have z167 := H165.out.cell 2 rfl 0 rfl
                have z168 := H165.out.cell 2 rfl 1 rfl
                have z169 := H165.out.cell 2 rfl 2 rfl
                have z170 := H165.out.cell 2 rfl 3 rfl
                go_wp2_with fail
                clear z167 z168 z169 z170
                go_loopw [167] (fun i wr => ∃ (k ln g cp : Nat), k ≤ ht ∧ i = .int .i64 k ∧ ln = k * wd ∧ St B W [.own (.slice (some ⟨g, 0, none⟩) ln cp) (gridL F wd k 0), .arr (22) 1 (.slice (some ⟨DM, 0, none⟩) rs.length rs.length) (rs.length) (rowVals rs), .cells D102 #[.int .i64 (r2 - r0), .int .i64 (r3 - r1), .int .i64 out, .slice (some ⟨g, 0, none⟩) ln cp] 35, .cells (B + 1 + 1 + 1) #[.int .i64 0, .int .i64 0, .int .i64 0, .slice none 0 0] 35, .cells (B + 1 + 1) #[.int .i64 r0, .int .i64 r1, .int .i64 r2, .int .i64 r3] 33, .cells (B + 1) #[.int .i64 p, .int .i64 f] 38, .cells B #[.int .i64 w, .int .i64 h, .int .i64 mx, .slice a n c] 35] rs wr) (fun i _ => ht - (intOf i).toNat)
                case atStart => exact ⟨0, 0, D3, NN, by omega, rfl, by omega, H165.out.pick [0, 1, 2, 3, 4, 5, 6] rfl (by decide)⟩
                case round =>
                  obtain ⟨k, ln, g, cp, hk, rfl, hln, hst⟩ := hrel
                  obtain ⟨u171, rfl⟩ : ∃ u171 : World, u171 = wr := ⟨_, rfl⟩
                  have H172 := hid hst
                  clear hst
                  have HLN := hid hln
                  clear hln
                  by_cases hkn : k < ht
                  · skip
                    have hkn' : (k : Int) < r3 - r1 := by omega
                    have z173 := H172.out.cell 2 rfl 0 rfl
                    have z174 := H172.out.cell 2 rfl 1 rfl
                    have z175 := H172.out.cell 2 rfl 2 rfl
                    have z176 := H172.out.cell 2 rfl 3 rfl
                    go_wp2_with fail
                    clear z173 z174 z175 z176
                    go_loopw [172] (fun i wr => ∃ (j ln g cp : Nat), j ≤ wd ∧ i = .int .i64 j ∧ ln = k * wd + j ∧ St B W [.own (.slice (some ⟨g, 0, none⟩) ln cp) (gridL F wd k j), .arr (22) 1 (.slice (some ⟨DM, 0, none⟩) rs.length rs.length) (rs.length) (rowVals rs), .cells D102 #[.int .i64 (r2 - r0), .int .i64 (r3 - r1), .int .i64 out, .slice (some ⟨g, 0, none⟩) ln cp] 35, .cells (B + 1 + 1 + 1) #[.int .i64 0, .int .i64 0, .int .i64 0, .slice none 0 0] 35, .cells (B + 1 + 1) #[.int .i64 r0, .int .i64 r1, .int .i64 r2, .int .i64 r3] 33, .cells (B + 1) #[.int .i64 p, .int .i64 f] 38, .cells B #[.int .i64 w, .int .i64 h, .int .i64 mx, .slice a n c] 35] rs wr) (fun i _ => wd - (intOf i).toNat)
                    case atStart => exact ⟨0, ln, g, cp, by omega, rfl, by rw [HLN.out]; rfl, H172.out⟩
                    case round =>
                      obtain ⟨j, ln, g, cp, hj, rfl, hln, hst⟩ := hrel
                      obtain ⟨u177, rfl⟩ : ∃ u177 : World, u177 = wr := ⟨_, rfl⟩
                      have H178 := hid hst
                      clear hst
                      clear HLN
                      have HLN := hid hln
                      clear hln
                      by_cases hjn : j < wd
                      · skip
                        have hjn' : (j : Int) < r2 - r0 := by omega
                        go_wp2_with fail
                        go_loopw [177, 29] (fun i s wr => ∃ v : Nat, v ≤ cn ∧ i = .int .i64 v ∧ s = .int .i64 (spS w h zs p f row col shift (r0 + (j : Int)) (r1 + (k : Int)) v) ∧ St B W [.own (.slice (some ⟨g, 0, none⟩) ln cp) (gridL F wd k j), .arr (22) 1 (.slice (some ⟨DM, 0, none⟩) rs.length rs.length) (rs.length) (rowVals rs), .cells D102 #[.int .i64 (r2 - r0), .int .i64 (r3 - r1), .int .i64 out, .slice (some ⟨g, 0, none⟩) ln cp] 35, .cells (B + 1 + 1 + 1) #[.int .i64 0, .int .i64 0, .int .i64 0, .slice none 0 0] 35, .cells (B + 1 + 1) #[.int .i64 r0, .int .i64 r1, .int .i64 r2, .int .i64 r3] 33, .cells (B + 1) #[.int .i64 p, .int .i64 f] 38, .cells B #[.int .i64 w, .int .i64 h, .int .i64 mx, .slice a n c] 35] rs wr) (fun i _ _ => cn - (intOf i).toNat)
                        case atStart => exact ⟨0, by omega, rfl, rfl, H178.out⟩
                        case round =>
                          obtain ⟨v, hv, rfl, rfl, hst⟩ := hrel
                          obtain ⟨u179, rfl⟩ : ∃ u179 : World, u179 = wr := ⟨_, rfl⟩
                          have H180 := hid hst
                          clear hst
                          obtain ⟨S2a, S2b⟩ := spS_bd w h zs p f row HWC.out shift (r0 + (j : Int)) (r1 + (k : Int)) (n := v) (by rw [HLC.out]; exact hv) (by rw [HLC.out]; exact k4)
                          have hsn := spS_bd w h zs p f row HWC.out shift (r0 + (j : Int)) (r1 + (k : Int)) (n := v + 1)
                          obtain ⟨S2, hS2⟩ : ∃ xx', spS w h zs p f row col shift (r0 + (j : Int)) (r1 + (k : Int)) v = xx' := ⟨_, rfl⟩
                          rw [hS2] at S2a S2b ⊢
                          have HS2 := hid hS2
                          have HSB := hid hsn
                          clear hS2 hsn
                          by_cases hvn : v < cn
                          · skip
                            have hvn' : (v : Int) < cn := by omega
                            obtain ⟨wb, wo, hwa⟩ := row_at (H180.out.old HC.out).row (by omega)
                            have cz := row_cell (by rw [← hwa]; exact (H180.out.old HC.out).row) (j := v) hvn
                            obtain ⟨wz, hwz⟩ : ∃ xx', col.getD v 0 = xx' := ⟨_, rfl⟩
                            rw [hwz] at cz
                            have hzw := wAll_iff.1 HWC.out v (by rw [HLC.out]; exact hvn)
                            rw [hwz] at hzw
                            have HWZ := hid hwz
                            clear hwz
                            subst hwa
                            obtain ⟨ai, mn, mc, ham, hsm⟩ := (H180.out.mat 1 rfl).row (i := k + v) (by omega)
                            rw [Nat.zero_add] at ham
                            rw [HRL.out, rangeMapL_getD _ (show k + v < rs.length by omega)] at hsm
                            have hmn := hsm.len
                            rw [List.length_map, List.length_range] at hmn
                            subst hmn
                            obtain ⟨mb, mo, hma⟩ := row_at hsm.row (by omega)
                            subst hma
                            have cs := row_cell hsm.row (j := j) hjn
                            rw [rangeMap_getD _ hjn] at cs
                            clear hsm
                            have HMZ := hid (show G (k + v) j = spM w h zs p f row shift (r0 + (j : Int)) (r1 + (k : Int) + (v : Int) - (col.length : Int) / 2) from by rw [← HGV.out, HLC.out, HCN2.out, show r1 - cn2 + ((k + v : Nat) : Int) = r1 + (k : Int) + (v : Int) - cn2 by omega])
                            obtain ⟨mz, hmz⟩ : ∃ xx', G (k + v) j = xx' := ⟨_, rfl⟩
                            rw [hmz] at cs HMZ
                            clear hmz
                            have hmb := shV_bd (spR w h zs p f row (r0 + (j : Int)) (r1 + (k : Int) + (v : Int) - (col.length : Int) / 2) row.length) shift
                            obtain ⟨pz1, pz2⟩ : -17592186044416 ≤ mz ∧ mz ≤ 17592186044416 := by rw [HMZ.out]; exact hmb
                            clear hmb
                            obtain ⟨pr1, pr2⟩ := spT_bd hzw ⟨pz1, pz2⟩
                            have HSN0 := hid (show spS w h zs p f row col shift (r0 + (j : Int)) (r1 + (k : Int)) (v + 1) = S2 + wz * mz from by rw [← HS2.out, HMZ.out, ← HWZ.out]; rfl)
                            obtain ⟨PR, hPR⟩ : ∃ xx', wz * mz = xx' := ⟨_, rfl⟩
                            rw [hPR] at pr1 pr2 HSN0
                            have hsb := HSB.out (by rw [HLC.out]; omega) (by rw [HLC.out]; exact k4)
                            rw [HSN0.out] at hsb
                            have w8 : IntKind.i64.wrap PR = PR := IntWalk.i64_in _ (by omega)
                            have w9 : IntKind.i64.wrap (S2 + PR) = S2 + PR := IntWalk.i64_in _ (by omega)
                            have wi : IntKind.i64.wrap ((k : Int) + v) = (k : Int) + v := IntWalk.i64_in _ (by omega)
                            have wi2 : ((k : Int) + v).toNat = k + v := by omega
                            have wi3 : (0 : Int) ≤ (k : Int) + v := by omega
                            have wi4 : (k : Int) + v < rs.length := by omega
                            clear hzw hsb
                            go_wp2_with fail
                            go_roundw
                            case rel => exact ⟨v + 1, by omega, by go_num, by rw [HSN0.out], H180.out⟩
                            case measure => first | (simp [intOf]; omega) | (simp [intOf]; done)
                          · skip
                            have hvn' : ¬ ((v : Int) < cn) := by omega
                            have HVN := hid (show v = cn by omega)
                            go_upto_region 40 with fail
                            have HFX := hid (show clV (shV S2 shift2) out = F k j from by rw [← HFV.out]; unfold spP; rw [HLC.out, ← HVN.out, HS2.out])
                            obtain ⟨fv, hfv⟩ : ∃ z, F k j = z := ⟨_, rfl⟩
                            rw [hfv] at HFX
                            have HGN := hid (show gridL F wd k j ++ [fv] = gridL F wd k (j + 1) from by rw [gridL_next, hfv])
                            clear hfv
                            have HLEN9 := hid (show (gridL F wd k (j + 1)).length = ln + 1 by rw [gridL_len, HLN.out]; omega)
                            have hln5 : ln ≤ 32768 := by have := HLN.out; have := Nat.mul_le_mul (show k ≤ 128 by omega) (show wd ≤ 128 by omega); omega
                            have H181 := hid H180.out.drew
                            refine wp_region_held_drew (S := (fun w' => w'.cell? ⟨D102, 0, none⟩ = some (.int .i64 (r2 - r0)) ∧ w'.cell? ⟨D102, 1, none⟩ = some (.int .i64 (r3 - r1)) ∧ w'.cell? ⟨D102, 2, none⟩ = some (.int .i64 out))) (by kernel_rfl) ⟨H181.out.cell 2 rfl 0 rfl, H181.out.cell 2 rfl 1 rfl, H181.out.cell 2 rfl 2 rfl⟩ (fun hHeld => ?_)
                            generalize u179.drew = k182 at *
                            refine wpAnyH_take (i := 0) (oi := _) (v := ?_) rfl (by kernel_rfl) (by kernel_rfl) (by kernel_rfl) (fun _ _ _ h => h) (Or.inl ⟨by rfl, ?_⟩) (by assumption) ?_
                            rotate_left
                            focus (intro wS hSw; (try dsimp only at hSw); go_simp; (try with_reducible rfl))
                            try simp only [Act.put, List.getElem_toArray, List.getElem_cons_zero, List.getElem_cons_succ, List.setIfInBounds_toArray, List.set_cons_zero, List.set_cons_succ]
                            refine wpAnyH_take (i := 2) (oi := _) (v := ?_) rfl (by kernel_rfl) (by kernel_rfl) (by kernel_rfl) (fun _ _ _ h => h) (Or.inl ⟨by rfl, ?_⟩) (by assumption) ?_
                            rotate_left
                            focus (intro wS hSw; (try dsimp only at hSw); go_simp; (try with_reducible rfl))
                            try simp only [Act.put, List.getElem_toArray, List.getElem_cons_zero, List.getElem_cons_succ, List.setIfInBounds_toArray, List.set_cons_zero, List.set_cons_succ]
                            refine wpAnyH_take (i := 3) (oi := _) (v := ?_) rfl (by kernel_rfl) (by kernel_rfl) (by kernel_rfl) (fun _ _ _ h => h) (Or.inl ⟨by rfl, ?_⟩) (by assumption) ?_
                            rotate_left
                            focus (intro wS hSw; (try dsimp only at hSw); go_simp; (try with_reducible rfl))
                            try simp only [Act.put, List.getElem_toArray, List.getElem_cons_zero, List.getElem_cons_succ, List.setIfInBounds_toArray, List.set_cons_zero, List.set_cons_succ]
                            refine wpAnyH_take (i := 5) (oi := _) (v := ?_) rfl (by kernel_rfl) (by kernel_rfl) (by kernel_rfl) (fun _ _ _ h => h) (Or.inl ⟨by rfl, ?_⟩) (by assumption) ?_
                            rotate_left
                            focus (intro wS hSw; (try dsimp only at hSw); go_simp; (try with_reducible rfl))
                            try simp only [Act.put, List.getElem_toArray, List.getElem_cons_zero, List.getElem_cons_succ, List.setIfInBounds_toArray, List.set_cons_zero, List.set_cons_succ]
                            refine wpAnyH_ready (rs := [1, 4]) (by kernel_rfl) (by simp) (AllReadyH.cons (o := _) rfl (fun K hK => ?_) (AllReadyH.cons (o := _) rfl (fun K hK => ?_) AllReadyH.nil))
                            · have g183 := H181.out.cell 2 rfl 3 rfl
                              go_simp
                              refine hK.out _ _ ?_ (fun hHeld2 => ?_)
                              focus ((try dsimp only); (exact hHeld))
                              clear hK K
                              try simp only [Act.put, List.getElem_toArray, List.getElem_cons_zero, List.getElem_cons_succ, List.setIfInBounds_toArray, List.set_cons_zero, List.set_cons_succ]
                              clear hHeld2 g183
                              refine wpAnyH_ready (rs := [4]) (by kernel_rfl) (by simp) (AllReadyH.cons (o := _) rfl (fun K hK => ?_) AllReadyH.nil)
                              go_simp
                              go_at_call 42
                              refine (fshift_any _ _ _).mono ?_
                              rintro e w184 ⟨rfl, hsw⟩
                              have hsw2 : k182 = w184 := by first | exact hsw | exact hsw.symm
                              clear hsw
                              subst hsw2
                              obtain ⟨sv185, hsv185⟩ : ∃ xx', shV S2 shift2 = xx' := ⟨_, rfl⟩
                              rw [hsv185]
                              have HNsv185 := hid hsv185
                              clear hsv185
                              refine hK.out _ _ ?_ (fun hHeld2 => ?_)
                              focus ((try dsimp only); (exact ⟨H181.out.cell 2 rfl 0 rfl, H181.out.cell 2 rfl 1 rfl, H181.out.cell 2 rfl 2 rfl⟩))
                              clear hK K
                              try simp only [Act.put, List.getElem_toArray, List.getElem_cons_zero, List.getElem_cons_succ, List.setIfInBounds_toArray, List.set_cons_zero, List.set_cons_succ]
                              clear hHeld
                              have hHeld := hHeld2
                              clear hHeld2
                              refine wpAnyH_ready (rs := [6]) (by kernel_rfl) (by simp) (AllReadyH.cons (o := _) rfl (fun K hK => ?_) AllReadyH.nil)
                              go_simp
                              go_at_call 43
                              refine (fclamp_any _ _ _).mono ?_
                              rintro e w186 ⟨rfl, hsw⟩
                              have hsw2 : k182 = w186 := by first | exact hsw | exact hsw.symm
                              clear hsw
                              subst hsw2
                              rw [show clV sv185 out = fv from by rw [← HNsv185.out]; exact HFX.out]
                              refine hK.out _ _ ?_ (fun hHeld2 => ?_)
                              focus ((try dsimp only); (exact ⟨H181.out.cell 2 rfl 0 rfl, H181.out.cell 2 rfl 1 rfl, H181.out.cell 2 rfl 2 rfl⟩))
                              clear hK K
                              try simp only [Act.put, List.getElem_toArray, List.getElem_cons_zero, List.getElem_cons_succ, List.setIfInBounds_toArray, List.set_cons_zero, List.set_cons_succ]
                              clear hHeld
                              have hHeld := hHeld2
                              clear hHeld2
                              refine wpAnyH_ready (rs := [7]) (by kernel_rfl) (by simp) (AllReadyH.cons (o := _) rfl (fun K hK => ?_) AllReadyH.nil)
                              obtain ⟨D187, hD187⟩ : ∃ D, k182.heap.size = D := ⟨_, rfl⟩
                              have H188 := hid (H181.out.alloc #[.int .i64 fv] 3 hD187)
                              go_simp
                              refine hK.out _ _ ?_ (fun hHeld2 => ?_)
                              focus ((try dsimp only); (exact ⟨H188.out.cell 3 rfl 0 rfl, H188.out.cell 3 rfl 1 rfl, H188.out.cell 3 rfl 2 rfl⟩))
                              clear hK K hHeld
                              try simp only [Act.put, List.getElem_toArray, List.getElem_cons_zero, List.getElem_cons_succ, List.setIfInBounds_toArray, List.set_cons_zero, List.set_cons_succ]
                              clear hD187
                              generalize (k182.alloc (.cells #[.int .i64 fv] 3)) = k189 at *
                              have hHeld := hHeld2
                              clear hHeld2
                              refine wpAnyH_ready (rs := [8]) (by kernel_rfl) (by simp) (AllReadyH.cons (o := _) rfl (fun K hK => ?_) AllReadyH.nil)
                              rw [if_pos (by rfl)]
                              refine oper_append_int _ _ rfl B _ (gridL F wd k j) fv D187 1 rfl rfl (H188.out.own 1 rfl) (H188.out.cell 0 rfl 0 rfl) (by first | omega | (rw [gridL_len]; omega) | (have := HLEN9.out; rw [gridL_len] at *; omega)) H188.out.size ?_
                              intro v9 k191 ho hg hv
                              have H190 := hid (H188.out.append 1 rfl ho hg hv)
                              clear hg hv
                              rw [HGN.out] at H190 ho
                              obtain ⟨g9, c9, rfl⟩ := ho.pos (by rw [HLEN9.out]; omega)
                              rw [HLEN9.out] at H190 ⊢
                              clear ho
                              refine hK.out _ _ ?_ (fun hHeld2 => ?_)
                              focus ((try dsimp only); (exact ⟨H190.out.cell 3 rfl 0 rfl, H190.out.cell 3 rfl 1 rfl, H190.out.cell 3 rfl 2 rfl⟩))
                              clear hK K
                              try simp only [Act.put, List.getElem_toArray, List.getElem_cons_zero, List.getElem_cons_succ, List.setIfInBounds_toArray, List.set_cons_zero, List.set_cons_succ]
                              clear hHeld
                              have hHeld := hHeld2
                              clear hHeld2
                              refine wpAnyH_take (i := 9) (oi := _) (v := ?_) rfl (by kernel_rfl) (by kernel_rfl) (by kernel_rfl) (fun _ _ _ h => h) (Or.inl ⟨by rfl, ?_⟩) (by assumption) ?_
                              rotate_left
                              focus (intro wS hSw; (try dsimp only at hSw); go_simp; (try with_reducible rfl))
                              try simp only [Act.put, List.getElem_toArray, List.getElem_cons_zero, List.getElem_cons_succ, List.setIfInBounds_toArray, List.set_cons_zero, List.set_cons_succ]
                              refine wpAnyH_ready (rs := [10]) (by kernel_rfl) (by simp) (AllReadyH.cons (o := _) rfl (fun K hK => ?_) AllReadyH.nil)
                              have z192 := H190.out.cell 3 rfl 0 rfl
                              have z193 := H190.out.free 3 rfl 0
                              have z194 := H190.out.cell 3 rfl 1 rfl
                              have z195 := H190.out.free 3 rfl 1
                              have z196 := H190.out.cell 3 rfl 2 rfl
                              have z197 := H190.out.free 3 rfl 2
                              have z198 := H190.out.cell 3 rfl 3 rfl
                              have z199 := H190.out.free 3 rfl 3
                              have H200 := hid (show St B W [.cells D187 #[.int .i64 fv] 3, .own (.slice (some ⟨g9, 0, none⟩) (ln + 1) c9) (gridL F wd k (j + 1)), .arr (22) 1 (.slice (some ⟨DM, 0, none⟩) rs.length rs.length) (rs.length) (rowVals rs), .cells D102 #[.int .i64 (r2 - r0), .int .i64 (r3 - r1), .int .i64 out, .slice (some ⟨g9, 0, none⟩) (ln + 1) c9] 35, .cells (B + 1 + 1 + 1) #[.int .i64 0, .int .i64 0, .int .i64 0, .slice none 0 0] 35, .cells (B + 1 + 1) #[.int .i64 r0, .int .i64 r1, .int .i64 r2, .int .i64 r3] 33, .cells (B + 1) #[.int .i64 p, .int .i64 f] 38, .cells B #[.int .i64 w, .int .i64 h, .int .i64 mx, .slice a n c] 35] rs (k191.setCell ⟨D102, 3, none⟩ (.slice (some ⟨g9, 0, none⟩) (ln + 1) c9)) from (H190.out.set 3 rfl 3 (.slice (some ⟨g9, 0, none⟩) (ln + 1) c9)))
                              go_simp
                              refine hK.out _ _ ?_ (fun hHeld2 => ?_)
                              focus ((try dsimp only); (exact ⟨H200.out.cell 3 rfl 0 rfl, H200.out.cell 3 rfl 1 rfl, H200.out.cell 3 rfl 2 rfl⟩))
                              clear hK K hHeld
                              try simp only [Act.put, List.getElem_toArray, List.getElem_cons_zero, List.getElem_cons_succ, List.setIfInBounds_toArray, List.set_cons_zero, List.set_cons_succ]
                              clear z192 z193 z194 z195 z196 z197 z198 z199
                              generalize (k191.setCell ⟨D102, 3, none⟩ (.slice (some ⟨g9, 0, none⟩) (ln + 1) c9)) = k201 at *
                              have hHeld := hHeld2
                              clear hHeld2
                              refine wpAnyH_done (by kernel_rfl) ?_ _
                              try clear hHeld
                              go_wp2_with fail
                              go_roundw
                              case rel => exact ⟨j + 1, ln + 1, g9, c9, by omega, by go_num, by rw [HLN.out]; rfl, H200.out.pick [1, 2, 3, 4, 5, 6, 7] rfl (by decide)⟩
                              case measure => first | (simp [intOf]; omega) | (simp [intOf]; done)
                            · go_simp
                              go_at_call 42
                              refine (fshift_any _ _ _).mono ?_
                              rintro e w202 ⟨rfl, hsw⟩
                              have hsw2 : k182 = w202 := by first | exact hsw | exact hsw.symm
                              clear hsw
                              subst hsw2
                              obtain ⟨sv203, hsv203⟩ : ∃ xx', shV S2 shift2 = xx' := ⟨_, rfl⟩
                              rw [hsv203]
                              have HNsv203 := hid hsv203
                              clear hsv203
                              refine hK.out _ _ ?_ (fun hHeld2 => ?_)
                              focus ((try dsimp only); (exact ⟨H181.out.cell 2 rfl 0 rfl, H181.out.cell 2 rfl 1 rfl, H181.out.cell 2 rfl 2 rfl⟩))
                              clear hK K
                              try simp only [Act.put, List.getElem_toArray, List.getElem_cons_zero, List.getElem_cons_succ, List.setIfInBounds_toArray, List.set_cons_zero, List.set_cons_succ]
                              clear hHeld
                              have hHeld := hHeld2
                              clear hHeld2
                              refine wpAnyH_ready (rs := [1, 6]) (by kernel_rfl) (by simp) (AllReadyH.cons (o := _) rfl (fun K hK => ?_) (AllReadyH.cons (o := _) rfl (fun K hK => ?_) AllReadyH.nil))
                              · have g204 := H181.out.cell 2 rfl 3 rfl
                                go_simp
                                refine hK.out _ _ ?_ (fun hHeld2 => ?_)
                                focus ((try dsimp only); (exact hHeld))
                                clear hK K
                                try simp only [Act.put, List.getElem_toArray, List.getElem_cons_zero, List.getElem_cons_succ, List.setIfInBounds_toArray, List.set_cons_zero, List.set_cons_succ]
                                clear hHeld2 g204
                                refine wpAnyH_ready (rs := [6]) (by kernel_rfl) (by simp) (AllReadyH.cons (o := _) rfl (fun K hK => ?_) AllReadyH.nil)
                                go_simp
                                go_at_call 43
                                refine (fclamp_any _ _ _).mono ?_
                                rintro e w205 ⟨rfl, hsw⟩
                                have hsw2 : k182 = w205 := by first | exact hsw | exact hsw.symm
                                clear hsw
                                subst hsw2
                                rw [show clV sv203 out = fv from by rw [← HNsv203.out]; exact HFX.out]
                                refine hK.out _ _ ?_ (fun hHeld2 => ?_)
                                focus ((try dsimp only); (exact ⟨H181.out.cell 2 rfl 0 rfl, H181.out.cell 2 rfl 1 rfl, H181.out.cell 2 rfl 2 rfl⟩))
                                clear hK K
                                try simp only [Act.put, List.getElem_toArray, List.getElem_cons_zero, List.getElem_cons_succ, List.setIfInBounds_toArray, List.set_cons_zero, List.set_cons_succ]
                                clear hHeld
                                have hHeld := hHeld2
                                clear hHeld2
                                refine wpAnyH_ready (rs := [7]) (by kernel_rfl) (by simp) (AllReadyH.cons (o := _) rfl (fun K hK => ?_) AllReadyH.nil)
                                obtain ⟨D206, hD206⟩ : ∃ D, k182.heap.size = D := ⟨_, rfl⟩
                                have H207 := hid (H181.out.alloc #[.int .i64 fv] 3 hD206)
                                go_simp
                                refine hK.out _ _ ?_ (fun hHeld2 => ?_)
                                focus ((try dsimp only); (exact ⟨H207.out.cell 3 rfl 0 rfl, H207.out.cell 3 rfl 1 rfl, H207.out.cell 3 rfl 2 rfl⟩))
                                clear hK K hHeld
                                try simp only [Act.put, List.getElem_toArray, List.getElem_cons_zero, List.getElem_cons_succ, List.setIfInBounds_toArray, List.set_cons_zero, List.set_cons_succ]
                                clear hD206
                                generalize (k182.alloc (.cells #[.int .i64 fv] 3)) = k208 at *
                                have hHeld := hHeld2
                                clear hHeld2
                                refine wpAnyH_ready (rs := [8]) (by kernel_rfl) (by simp) (AllReadyH.cons (o := _) rfl (fun K hK => ?_) AllReadyH.nil)
                                rw [if_pos (by rfl)]
                                refine oper_append_int _ _ rfl B _ (gridL F wd k j) fv D206 1 rfl rfl (H207.out.own 1 rfl) (H207.out.cell 0 rfl 0 rfl) (by first | omega | (rw [gridL_len]; omega) | (have := HLEN9.out; rw [gridL_len] at *; omega)) H207.out.size ?_
                                intro v9 k210 ho hg hv
                                have H209 := hid (H207.out.append 1 rfl ho hg hv)
                                clear hg hv
                                rw [HGN.out] at H209 ho
                                obtain ⟨g9, c9, rfl⟩ := ho.pos (by rw [HLEN9.out]; omega)
                                rw [HLEN9.out] at H209 ⊢
                                clear ho
                                refine hK.out _ _ ?_ (fun hHeld2 => ?_)
                                focus ((try dsimp only); (exact ⟨H209.out.cell 3 rfl 0 rfl, H209.out.cell 3 rfl 1 rfl, H209.out.cell 3 rfl 2 rfl⟩))
                                clear hK K
                                try simp only [Act.put, List.getElem_toArray, List.getElem_cons_zero, List.getElem_cons_succ, List.setIfInBounds_toArray, List.set_cons_zero, List.set_cons_succ]
                                clear hHeld
                                have hHeld := hHeld2
                                clear hHeld2
                                refine wpAnyH_take (i := 9) (oi := _) (v := ?_) rfl (by kernel_rfl) (by kernel_rfl) (by kernel_rfl) (fun _ _ _ h => h) (Or.inl ⟨by rfl, ?_⟩) (by assumption) ?_
                                rotate_left
                                focus (intro wS hSw; (try dsimp only at hSw); go_simp; (try with_reducible rfl))
                                try simp only [Act.put, List.getElem_toArray, List.getElem_cons_zero, List.getElem_cons_succ, List.setIfInBounds_toArray, List.set_cons_zero, List.set_cons_succ]
                                refine wpAnyH_ready (rs := [10]) (by kernel_rfl) (by simp) (AllReadyH.cons (o := _) rfl (fun K hK => ?_) AllReadyH.nil)
                                have z211 := H209.out.cell 3 rfl 0 rfl
                                have z212 := H209.out.free 3 rfl 0
                                have z213 := H209.out.cell 3 rfl 1 rfl
                                have z214 := H209.out.free 3 rfl 1
                                have z215 := H209.out.cell 3 rfl 2 rfl
                                have z216 := H209.out.free 3 rfl 2
                                have z217 := H209.out.cell 3 rfl 3 rfl
                                have z218 := H209.out.free 3 rfl 3
                                have H219 := hid (show St B W [.cells D206 #[.int .i64 fv] 3, .own (.slice (some ⟨g9, 0, none⟩) (ln + 1) c9) (gridL F wd k (j + 1)), .arr (22) 1 (.slice (some ⟨DM, 0, none⟩) rs.length rs.length) (rs.length) (rowVals rs), .cells D102 #[.int .i64 (r2 - r0), .int .i64 (r3 - r1), .int .i64 out, .slice (some ⟨g9, 0, none⟩) (ln + 1) c9] 35, .cells (B + 1 + 1 + 1) #[.int .i64 0, .int .i64 0, .int .i64 0, .slice none 0 0] 35, .cells (B + 1 + 1) #[.int .i64 r0, .int .i64 r1, .int .i64 r2, .int .i64 r3] 33, .cells (B + 1) #[.int .i64 p, .int .i64 f] 38, .cells B #[.int .i64 w, .int .i64 h, .int .i64 mx, .slice a n c] 35] rs (k210.setCell ⟨D102, 3, none⟩ (.slice (some ⟨g9, 0, none⟩) (ln + 1) c9)) from (H209.out.set 3 rfl 3 (.slice (some ⟨g9, 0, none⟩) (ln + 1) c9)))
                                go_simp
                                refine hK.out _ _ ?_ (fun hHeld2 => ?_)
                                focus ((try dsimp only); (exact ⟨H219.out.cell 3 rfl 0 rfl, H219.out.cell 3 rfl 1 rfl, H219.out.cell 3 rfl 2 rfl⟩))
                                clear hK K hHeld
                                try simp only [Act.put, List.getElem_toArray, List.getElem_cons_zero, List.getElem_cons_succ, List.setIfInBounds_toArray, List.set_cons_zero, List.set_cons_succ]
                                clear z211 z212 z213 z214 z215 z216 z217 z218
                                generalize (k210.setCell ⟨D102, 3, none⟩ (.slice (some ⟨g9, 0, none⟩) (ln + 1) c9)) = k220 at *
                                have hHeld := hHeld2
                                clear hHeld2
                                refine wpAnyH_done (by kernel_rfl) ?_ _
                                try clear hHeld
                                go_wp2_with fail
                                go_roundw
                                case rel => exact ⟨j + 1, ln + 1, g9, c9, by omega, by go_num, by rw [HLN.out]; rfl, H219.out.pick [1, 2, 3, 4, 5, 6, 7] rfl (by decide)⟩
                                case measure => first | (simp [intOf]; omega) | (simp [intOf]; done)
                              · go_simp
                                go_at_call 43
                                refine (fclamp_any _ _ _).mono ?_
                                rintro e w221 ⟨rfl, hsw⟩
                                have hsw2 : k182 = w221 := by first | exact hsw | exact hsw.symm
                                clear hsw
                                subst hsw2
                                rw [show clV sv203 out = fv from by rw [← HNsv203.out]; exact HFX.out]
                                refine hK.out _ _ ?_ (fun hHeld2 => ?_)
                                focus ((try dsimp only); (exact ⟨H181.out.cell 2 rfl 0 rfl, H181.out.cell 2 rfl 1 rfl, H181.out.cell 2 rfl 2 rfl⟩))
                                clear hK K
                                try simp only [Act.put, List.getElem_toArray, List.getElem_cons_zero, List.getElem_cons_succ, List.setIfInBounds_toArray, List.set_cons_zero, List.set_cons_succ]
                                clear hHeld
                                have hHeld := hHeld2
                                clear hHeld2
                                refine wpAnyH_ready (rs := [1, 7]) (by kernel_rfl) (by simp) (AllReadyH.cons (o := _) rfl (fun K hK => ?_) (AllReadyH.cons (o := _) rfl (fun K hK => ?_) AllReadyH.nil))
                                · have g222 := H181.out.cell 2 rfl 3 rfl
                                  go_simp
                                  refine hK.out _ _ ?_ (fun hHeld2 => ?_)
                                  focus ((try dsimp only); (exact hHeld))
                                  clear hK K
                                  try simp only [Act.put, List.getElem_toArray, List.getElem_cons_zero, List.getElem_cons_succ, List.setIfInBounds_toArray, List.set_cons_zero, List.set_cons_succ]
                                  clear hHeld2 g222
                                  refine wpAnyH_ready (rs := [7]) (by kernel_rfl) (by simp) (AllReadyH.cons (o := _) rfl (fun K hK => ?_) AllReadyH.nil)
                                  obtain ⟨D223, hD223⟩ : ∃ D, k182.heap.size = D := ⟨_, rfl⟩
                                  have H224 := hid (H181.out.alloc #[.int .i64 fv] 3 hD223)
                                  go_simp
                                  refine hK.out _ _ ?_ (fun hHeld2 => ?_)
                                  focus ((try dsimp only); (exact ⟨H224.out.cell 3 rfl 0 rfl, H224.out.cell 3 rfl 1 rfl, H224.out.cell 3 rfl 2 rfl⟩))
                                  clear hK K hHeld
                                  try simp only [Act.put, List.getElem_toArray, List.getElem_cons_zero, List.getElem_cons_succ, List.setIfInBounds_toArray, List.set_cons_zero, List.set_cons_succ]
                                  clear hD223
                                  generalize (k182.alloc (.cells #[.int .i64 fv] 3)) = k225 at *
                                  have hHeld := hHeld2
                                  clear hHeld2
                                  refine wpAnyH_ready (rs := [8]) (by kernel_rfl) (by simp) (AllReadyH.cons (o := _) rfl (fun K hK => ?_) AllReadyH.nil)
                                  rw [if_pos (by rfl)]
                                  refine oper_append_int _ _ rfl B _ (gridL F wd k j) fv D223 1 rfl rfl (H224.out.own 1 rfl) (H224.out.cell 0 rfl 0 rfl) (by first | omega | (rw [gridL_len]; omega) | (have := HLEN9.out; rw [gridL_len] at *; omega)) H224.out.size ?_
                                  intro v9 k227 ho hg hv
                                  have H226 := hid (H224.out.append 1 rfl ho hg hv)
                                  clear hg hv
                                  rw [HGN.out] at H226 ho
                                  obtain ⟨g9, c9, rfl⟩ := ho.pos (by rw [HLEN9.out]; omega)
                                  rw [HLEN9.out] at H226 ⊢
                                  clear ho
                                  refine hK.out _ _ ?_ (fun hHeld2 => ?_)
                                  focus ((try dsimp only); (exact ⟨H226.out.cell 3 rfl 0 rfl, H226.out.cell 3 rfl 1 rfl, H226.out.cell 3 rfl 2 rfl⟩))
                                  clear hK K
                                  try simp only [Act.put, List.getElem_toArray, List.getElem_cons_zero, List.getElem_cons_succ, List.setIfInBounds_toArray, List.set_cons_zero, List.set_cons_succ]
                                  clear hHeld
                                  have hHeld := hHeld2
                                  clear hHeld2
                                  refine wpAnyH_take (i := 9) (oi := _) (v := ?_) rfl (by kernel_rfl) (by kernel_rfl) (by kernel_rfl) (fun _ _ _ h => h) (Or.inl ⟨by rfl, ?_⟩) (by assumption) ?_
                                  rotate_left
                                  focus (intro wS hSw; (try dsimp only at hSw); go_simp; (try with_reducible rfl))
                                  try simp only [Act.put, List.getElem_toArray, List.getElem_cons_zero, List.getElem_cons_succ, List.setIfInBounds_toArray, List.set_cons_zero, List.set_cons_succ]
                                  refine wpAnyH_ready (rs := [10]) (by kernel_rfl) (by simp) (AllReadyH.cons (o := _) rfl (fun K hK => ?_) AllReadyH.nil)
                                  have z228 := H226.out.cell 3 rfl 0 rfl
                                  have z229 := H226.out.free 3 rfl 0
                                  have z230 := H226.out.cell 3 rfl 1 rfl
                                  have z231 := H226.out.free 3 rfl 1
                                  have z232 := H226.out.cell 3 rfl 2 rfl
                                  have z233 := H226.out.free 3 rfl 2
                                  have z234 := H226.out.cell 3 rfl 3 rfl
                                  have z235 := H226.out.free 3 rfl 3
                                  have H236 := hid (show St B W [.cells D223 #[.int .i64 fv] 3, .own (.slice (some ⟨g9, 0, none⟩) (ln + 1) c9) (gridL F wd k (j + 1)), .arr (22) 1 (.slice (some ⟨DM, 0, none⟩) rs.length rs.length) (rs.length) (rowVals rs), .cells D102 #[.int .i64 (r2 - r0), .int .i64 (r3 - r1), .int .i64 out, .slice (some ⟨g9, 0, none⟩) (ln + 1) c9] 35, .cells (B + 1 + 1 + 1) #[.int .i64 0, .int .i64 0, .int .i64 0, .slice none 0 0] 35, .cells (B + 1 + 1) #[.int .i64 r0, .int .i64 r1, .int .i64 r2, .int .i64 r3] 33, .cells (B + 1) #[.int .i64 p, .int .i64 f] 38, .cells B #[.int .i64 w, .int .i64 h, .int .i64 mx, .slice a n c] 35] rs (k227.setCell ⟨D102, 3, none⟩ (.slice (some ⟨g9, 0, none⟩) (ln + 1) c9)) from (H226.out.set 3 rfl 3 (.slice (some ⟨g9, 0, none⟩) (ln + 1) c9)))
                                  go_simp
                                  refine hK.out _ _ ?_ (fun hHeld2 => ?_)
                                  focus ((try dsimp only); (exact ⟨H236.out.cell 3 rfl 0 rfl, H236.out.cell 3 rfl 1 rfl, H236.out.cell 3 rfl 2 rfl⟩))
                                  clear hK K hHeld
                                  try simp only [Act.put, List.getElem_toArray, List.getElem_cons_zero, List.getElem_cons_succ, List.setIfInBounds_toArray, List.set_cons_zero, List.set_cons_succ]
                                  clear z228 z229 z230 z231 z232 z233 z234 z235
                                  generalize (k227.setCell ⟨D102, 3, none⟩ (.slice (some ⟨g9, 0, none⟩) (ln + 1) c9)) = k237 at *
                                  have hHeld := hHeld2
                                  clear hHeld2
                                  refine wpAnyH_done (by kernel_rfl) ?_ _
                                  try clear hHeld
                                  go_wp2_with fail
                                  go_roundw
                                  case rel => exact ⟨j + 1, ln + 1, g9, c9, by omega, by go_num, by rw [HLN.out]; rfl, H236.out.pick [1, 2, 3, 4, 5, 6, 7] rfl (by decide)⟩
                                  case measure => first | (simp [intOf]; omega) | (simp [intOf]; done)
                                · obtain ⟨D238, hD238⟩ : ∃ D, k182.heap.size = D := ⟨_, rfl⟩
                                  have H239 := hid (H181.out.alloc #[.int .i64 fv] 3 hD238)
                                  go_simp
                                  refine hK.out _ _ ?_ (fun hHeld2 => ?_)
                                  focus ((try dsimp only); (exact ⟨H239.out.cell 3 rfl 0 rfl, H239.out.cell 3 rfl 1 rfl, H239.out.cell 3 rfl 2 rfl⟩))
                                  clear hK K hHeld
                                  try simp only [Act.put, List.getElem_toArray, List.getElem_cons_zero, List.getElem_cons_succ, List.setIfInBounds_toArray, List.set_cons_zero, List.set_cons_succ]
                                  clear hD238
                                  generalize (k182.alloc (.cells #[.int .i64 fv] 3)) = k240 at *
                                  have hHeld := hHeld2
                                  clear hHeld2
                                  refine wpAnyH_ready (rs := [1]) (by kernel_rfl) (by simp) (AllReadyH.cons (o := _) rfl (fun K hK => ?_) AllReadyH.nil)
                                  have g241 := H239.out.cell 3 rfl 3 rfl
                                  go_simp
                                  refine hK.out _ _ ?_ (fun hHeld2 => ?_)
                                  focus ((try dsimp only); (exact hHeld))
                                  clear hK K
                                  try simp only [Act.put, List.getElem_toArray, List.getElem_cons_zero, List.getElem_cons_succ, List.setIfInBounds_toArray, List.set_cons_zero, List.set_cons_succ]
                                  clear hHeld2 g241
                                  refine wpAnyH_ready (rs := [8]) (by kernel_rfl) (by simp) (AllReadyH.cons (o := _) rfl (fun K hK => ?_) AllReadyH.nil)
                                  rw [if_pos (by rfl)]
                                  refine oper_append_int _ _ rfl B _ (gridL F wd k j) fv D238 1 rfl rfl (H239.out.own 1 rfl) (H239.out.cell 0 rfl 0 rfl) (by first | omega | (rw [gridL_len]; omega) | (have := HLEN9.out; rw [gridL_len] at *; omega)) H239.out.size ?_
                                  intro v9 k243 ho hg hv
                                  have H242 := hid (H239.out.append 1 rfl ho hg hv)
                                  clear hg hv
                                  rw [HGN.out] at H242 ho
                                  obtain ⟨g9, c9, rfl⟩ := ho.pos (by rw [HLEN9.out]; omega)
                                  rw [HLEN9.out] at H242 ⊢
                                  clear ho
                                  refine hK.out _ _ ?_ (fun hHeld2 => ?_)
                                  focus ((try dsimp only); (exact ⟨H242.out.cell 3 rfl 0 rfl, H242.out.cell 3 rfl 1 rfl, H242.out.cell 3 rfl 2 rfl⟩))
                                  clear hK K
                                  try simp only [Act.put, List.getElem_toArray, List.getElem_cons_zero, List.getElem_cons_succ, List.setIfInBounds_toArray, List.set_cons_zero, List.set_cons_succ]
                                  clear hHeld
                                  have hHeld := hHeld2
                                  clear hHeld2
                                  refine wpAnyH_take (i := 9) (oi := _) (v := ?_) rfl (by kernel_rfl) (by kernel_rfl) (by kernel_rfl) (fun _ _ _ h => h) (Or.inl ⟨by rfl, ?_⟩) (by assumption) ?_
                                  rotate_left
                                  focus (intro wS hSw; (try dsimp only at hSw); go_simp; (try with_reducible rfl))
                                  try simp only [Act.put, List.getElem_toArray, List.getElem_cons_zero, List.getElem_cons_succ, List.setIfInBounds_toArray, List.set_cons_zero, List.set_cons_succ]
                                  refine wpAnyH_ready (rs := [10]) (by kernel_rfl) (by simp) (AllReadyH.cons (o := _) rfl (fun K hK => ?_) AllReadyH.nil)
                                  have z244 := H242.out.cell 3 rfl 0 rfl
                                  have z245 := H242.out.free 3 rfl 0
                                  have z246 := H242.out.cell 3 rfl 1 rfl
                                  have z247 := H242.out.free 3 rfl 1
                                  have z248 := H242.out.cell 3 rfl 2 rfl
                                  have z249 := H242.out.free 3 rfl 2
                                  have z250 := H242.out.cell 3 rfl 3 rfl
                                  have z251 := H242.out.free 3 rfl 3
                                  have H252 := hid (show St B W [.cells D238 #[.int .i64 fv] 3, .own (.slice (some ⟨g9, 0, none⟩) (ln + 1) c9) (gridL F wd k (j + 1)), .arr (22) 1 (.slice (some ⟨DM, 0, none⟩) rs.length rs.length) (rs.length) (rowVals rs), .cells D102 #[.int .i64 (r2 - r0), .int .i64 (r3 - r1), .int .i64 out, .slice (some ⟨g9, 0, none⟩) (ln + 1) c9] 35, .cells (B + 1 + 1 + 1) #[.int .i64 0, .int .i64 0, .int .i64 0, .slice none 0 0] 35, .cells (B + 1 + 1) #[.int .i64 r0, .int .i64 r1, .int .i64 r2, .int .i64 r3] 33, .cells (B + 1) #[.int .i64 p, .int .i64 f] 38, .cells B #[.int .i64 w, .int .i64 h, .int .i64 mx, .slice a n c] 35] rs (k243.setCell ⟨D102, 3, none⟩ (.slice (some ⟨g9, 0, none⟩) (ln + 1) c9)) from (H242.out.set 3 rfl 3 (.slice (some ⟨g9, 0, none⟩) (ln + 1) c9)))
                                  go_simp
                                  refine hK.out _ _ ?_ (fun hHeld2 => ?_)
                                  focus ((try dsimp only); (exact ⟨H252.out.cell 3 rfl 0 rfl, H252.out.cell 3 rfl 1 rfl, H252.out.cell 3 rfl 2 rfl⟩))
                                  clear hK K hHeld
                                  try simp only [Act.put, List.getElem_toArray, List.getElem_cons_zero, List.getElem_cons_succ, List.setIfInBounds_toArray, List.set_cons_zero, List.set_cons_succ]
                                  clear z244 z245 z246 z247 z248 z249 z250 z251
                                  generalize (k243.setCell ⟨D102, 3, none⟩ (.slice (some ⟨g9, 0, none⟩) (ln + 1) c9)) = k253 at *
                                  have hHeld := hHeld2
                                  clear hHeld2
                                  refine wpAnyH_done (by kernel_rfl) ?_ _
                                  try clear hHeld
                                  go_wp2_with fail
                                  go_roundw
                                  case rel => exact ⟨j + 1, ln + 1, g9, c9, by omega, by go_num, by rw [HLN.out]; rfl, H252.out.pick [1, 2, 3, 4, 5, 6, 7] rfl (by decide)⟩
                                  case measure => first | (simp [intOf]; omega) | (simp [intOf]; done)
                      · skip
                        have hjn' : ¬ ((j : Int) < r2 - r0) := by omega
                        have Hhjn := hid (show j = wd by omega)
                        go_wp2_with fail
                        go_roundw
                        case rel => exact ⟨k + 1, ln, g, cp, by omega, by go_num, by rw [HLN.out, Hhjn.out, Nat.add_mul, Nat.one_mul], by rw [show gridL F wd (k + 1) 0 = gridL F wd k j by rw [← gridL_row, Hhjn.out]]; exact H178.out⟩
                        case measure => first | (simp [intOf]; omega) | (simp [intOf]; done)
                  · skip
                    have hkn' : ¬ ((k : Int) < r3 - r1) := by omega
                    have Hhkn := hid (show k = ht by omega)
                    have HKE := hid (show k = ht by omega)
                    have z254 := H172.out.cell 2 rfl 0 rfl
                    have z255 := H172.out.cell 2 rfl 1 rfl
                    have z256 := H172.out.cell 2 rfl 2 rfl
                    have z257 := H172.out.cell 2 rfl 3 rfl
                    have z258 := H172.out.cell 3 rfl 0 rfl
                    have z259 := H172.out.free 3 rfl 0
                    have z260 := H172.out.cell 3 rfl 1 rfl
                    have z261 := H172.out.free 3 rfl 1
                    have z262 := H172.out.cell 3 rfl 2 rfl
                    have z263 := H172.out.free 3 rfl 2
                    have z264 := H172.out.cell 3 rfl 3 rfl
                    have z265 := H172.out.free 3 rfl 3
                    go_wp2_with fail
                    clear z254 z255 z256 z257 z258 z259 z260 z261 z262 z263 z264 z265
                    have H266 := hid (show St B W [.own (.slice (some ⟨g, 0, none⟩) ln cp) (gridL F wd k 0), .arr (22) 1 (.slice (some ⟨DM, 0, none⟩) rs.length rs.length) (rs.length) (rowVals rs), .cells D102 #[.int .i64 (r2 - r0), .int .i64 (r3 - r1), .int .i64 out, .slice (some ⟨g, 0, none⟩) ln cp] 35, .cells (B + 1 + 1 + 1) #[.int .i64 (r2 - r0), .int .i64 (r3 - r1), .int .i64 out, .slice (some ⟨g, 0, none⟩) ln cp] 35, .cells (B + 1 + 1) #[.int .i64 r0, .int .i64 r1, .int .i64 r2, .int .i64 r3] 33, .cells (B + 1) #[.int .i64 p, .int .i64 f] 38, .cells B #[.int .i64 w, .int .i64 h, .int .i64 mx, .slice a n c] 35] rs ((((u171.setCell ⟨B + 1 + 1 + 1, 0, none⟩ (.int .i64 (r2 - r0))).setCell ⟨B + 1 + 1 + 1, 1, none⟩ (.int .i64 (r3 - r1))).setCell ⟨B + 1 + 1 + 1, 2, none⟩ (.int .i64 out)).setCell ⟨B + 1 + 1 + 1, 3, none⟩ (.slice (some ⟨g, 0, none⟩) ln cp)) from (H172.out.set4 3 rfl (.int .i64 (r2 - r0)) (.int .i64 (r3 - r1)) (.int .i64 out) (.slice (some ⟨g, 0, none⟩) ln cp)))
                    have HRES := hid (show spL w h zs p f row col shift shift2 out r0 r1 r2 r3 = gridL F wd k 0 from by unfold spL rG; rw [HFF.out, HWD.out, HHT.out, Int.toNat_natCast, Int.toNat_natCast, ← HKE.out])
                    have q267 := H266.out.cell 3 rfl 0 rfl
                    have q268 := H266.out.cell 3 rfl 1 rfl
                    have q269 := H266.out.cell 3 rfl 2 rfl
                    have q270 := H266.out.cell 3 rfl 3 rfl
                    refine bodyPost_ret (v := .tuple #[.agg #[.int .i64 (r2 - r0), .int .i64 (r3 - r1), .int .i64 out, .slice (some ⟨g, 0, none⟩) ln cp], .int .i64 0]) ?_ rfl (TPost.yes HTC.out (by rw [hB, HRES.out]; exact H266.out.own 0 rfl) (by first | exact H266.out.below | exact H266.out.below'))
                    simp [results, Try.results20, go_sem, q267, q268, q269, q270]
          | false =>
            have z271 := H100.out.cell 0 rfl 0 rfl
            have z272 := H100.out.free 0 rfl 0
            have z273 := H100.out.cell 0 rfl 1 rfl
            have z274 := H100.out.free 0 rfl 1
            have z275 := H100.out.cell 0 rfl 2 rfl
            have z276 := H100.out.free 0 rfl 2
            have z277 := H100.out.cell 0 rfl 3 rfl
            have z278 := H100.out.free 0 rfl 3
            go_wp2_with fail
            clear z271 z272 z273 z274 z275 z276 z277 z278
            have H279 := hid (show St B W [.cells (B + 1 + 1 + 1) #[.int .i64 0, .int .i64 0, .int .i64 0, .slice none 0 0] 35, .cells (B + 1 + 1) #[.int .i64 r0, .int .i64 r1, .int .i64 r2, .int .i64 r3] 33, .cells (B + 1) #[.int .i64 p, .int .i64 f] 38, .cells B #[.int .i64 w, .int .i64 h, .int .i64 mx, .slice a n c] 35] [] ((((w99.setCell ⟨B + 1 + 1 + 1, 0, none⟩ (.int .i64 0)).setCell ⟨B + 1 + 1 + 1, 1, none⟩ (.int .i64 0)).setCell ⟨B + 1 + 1 + 1, 2, none⟩ (.int .i64 0)).setCell ⟨B + 1 + 1 + 1, 3, none⟩ (.slice none 0 0)) from (H100.out.set4 0 rfl (.int .i64 0) (.int .i64 0) (.int .i64 0) (.slice none 0 0)))
            have q280 := H279.out.cell 0 rfl 0 rfl
            have q281 := H279.out.cell 0 rfl 1 rfl
            have q282 := H279.out.cell 0 rfl 2 rfl
            have q283 := H279.out.cell 0 rfl 3 rfl
            refine bodyPost_ret (v := .tuple #[.agg #[.int .i64 0, .int .i64 0, .int .i64 0, .slice none 0 0], .int .i64 8]) ?_ rfl (TPost.no (by unfold spTC; rw [if_neg (fun hc => hc ⟨HNb53.out, HNb62.out⟩), if_neg (by rw [HNk69.out]; have := c70h.out; omega), if_pos (by unfold rIs; rw [HNb101.out]; simp)]) (by omega) (by first | exact H279.out.below | exact H279.out.below'))
            simp [results, Try.results20, go_sem, q280, q281, q282, q283]
      · have c70a : ((k69 : Int) == (0)) = false := by simpa using c70
        have c70b : ((k69 : Int) != (0)) = true := by simpa using c70
        have c70h := hid c70
        clear c70
        have z284 := H68.out.cell 0 rfl 0 rfl
        have z285 := H68.out.free 0 rfl 0
        have z286 := H68.out.cell 0 rfl 1 rfl
        have z287 := H68.out.free 0 rfl 1
        have z288 := H68.out.cell 0 rfl 2 rfl
        have z289 := H68.out.free 0 rfl 2
        have z290 := H68.out.cell 0 rfl 3 rfl
        have z291 := H68.out.free 0 rfl 3
        go_wp2_with fail
        clear z284 z285 z286 z287 z288 z289 z290 z291
        have H292 := hid (show St B W [.cells (B + 1 + 1 + 1) #[.int .i64 0, .int .i64 0, .int .i64 0, .slice none 0 0] 35, .cells (B + 1 + 1) #[.int .i64 r0, .int .i64 r1, .int .i64 r2, .int .i64 r3] 33, .cells (B + 1) #[.int .i64 p, .int .i64 f] 38, .cells B #[.int .i64 w, .int .i64 h, .int .i64 mx, .slice a n c] 35] [] ((((w67.setCell ⟨B + 1 + 1 + 1, 0, none⟩ (.int .i64 0)).setCell ⟨B + 1 + 1 + 1, 1, none⟩ (.int .i64 0)).setCell ⟨B + 1 + 1 + 1, 2, none⟩ (.int .i64 0)).setCell ⟨B + 1 + 1 + 1, 3, none⟩ (.slice none 0 0)) from (H68.out.set4 0 rfl (.int .i64 0) (.int .i64 0) (.int .i64 0) (.slice none 0 0)))
        have q293 := H292.out.cell 0 rfl 0 rfl
        have q294 := H292.out.cell 0 rfl 1 rfl
        have q295 := H292.out.cell 0 rfl 2 rfl
        have q296 := H292.out.cell 0 rfl 3 rfl
        refine bodyPost_ret (v := .tuple #[.agg #[.int .i64 0, .int .i64 0, .int .i64 0, .slice none 0 0], .int .i64 k69]) ?_ rfl (TPost.no (by unfold spTC; rw [if_neg (fun hc => hc ⟨HNb53.out, HNb62.out⟩), if_pos (by rw [HNk69.out]; exact c70h.out), HNk69.out]) c70h.out (by first | exact H292.out.below | exact H292.out.below'))
        simp [results, Try.results20, go_sem, q293, q294, q295, q296]
    | false =>
      have z297 := H61.out.cell 0 rfl 0 rfl
      have z298 := H61.out.free 0 rfl 0
      have z299 := H61.out.cell 0 rfl 1 rfl
      have z300 := H61.out.free 0 rfl 1
      have z301 := H61.out.cell 0 rfl 2 rfl
      have z302 := H61.out.free 0 rfl 2
      have z303 := H61.out.cell 0 rfl 3 rfl
      have z304 := H61.out.free 0 rfl 3
      go_wp2_with fail
      clear z297 z298 z299 z300 z301 z302 z303 z304
      have H305 := hid (show St B W [.cells (B + 1 + 1 + 1) #[.int .i64 0, .int .i64 0, .int .i64 0, .slice none 0 0] 35, .cells (B + 1 + 1) #[.int .i64 r0, .int .i64 r1, .int .i64 r2, .int .i64 r3] 33, .cells (B + 1) #[.int .i64 p, .int .i64 f] 38, .cells B #[.int .i64 w, .int .i64 h, .int .i64 mx, .slice a n c] 35] [] ((((w60.setCell ⟨B + 1 + 1 + 1, 0, none⟩ (.int .i64 0)).setCell ⟨B + 1 + 1 + 1, 1, none⟩ (.int .i64 0)).setCell ⟨B + 1 + 1 + 1, 2, none⟩ (.int .i64 0)).setCell ⟨B + 1 + 1 + 1, 3, none⟩ (.slice none 0 0)) from (H61.out.set4 0 rfl (.int .i64 0) (.int .i64 0) (.int .i64 0) (.slice none 0 0)))
      have q306 := H305.out.cell 0 rfl 0 rfl
      have q307 := H305.out.cell 0 rfl 1 rfl
      have q308 := H305.out.cell 0 rfl 2 rfl
      have q309 := H305.out.cell 0 rfl 3 rfl
      refine bodyPost_ret (v := .tuple #[.agg #[.int .i64 0, .int .i64 0, .int .i64 0, .slice none 0 0], .int .i64 1]) ?_ rfl (TPost.no (by unfold spTC; rw [if_pos (by intro hc; rw [HNb62.out] at hc; simp at hc)]) (by omega) (by first | exact H305.out.below | exact H305.out.below'))
      simp [results, Try.results20, go_sem, q306, q307, q308, q309]
  | false =>
    have z310 := H52.out.cell 0 rfl 0 rfl
    have z311 := H52.out.free 0 rfl 0
    have z312 := H52.out.cell 0 rfl 1 rfl
    have z313 := H52.out.free 0 rfl 1
    have z314 := H52.out.cell 0 rfl 2 rfl
    have z315 := H52.out.free 0 rfl 2
    have z316 := H52.out.cell 0 rfl 3 rfl
    have z317 := H52.out.free 0 rfl 3
    go_wp2_with fail
    clear z310 z311 z312 z313 z314 z315 z316 z317
    have H318 := hid (show St B W [.cells (B + 1 + 1 + 1) #[.int .i64 0, .int .i64 0, .int .i64 0, .slice none 0 0] 35, .cells (B + 1 + 1) #[.int .i64 r0, .int .i64 r1, .int .i64 r2, .int .i64 r3] 33, .cells (B + 1) #[.int .i64 p, .int .i64 f] 38, .cells B #[.int .i64 w, .int .i64 h, .int .i64 mx, .slice a n c] 35] [] ((((w51.setCell ⟨B + 1 + 1 + 1, 0, none⟩ (.int .i64 0)).setCell ⟨B + 1 + 1 + 1, 1, none⟩ (.int .i64 0)).setCell ⟨B + 1 + 1 + 1, 2, none⟩ (.int .i64 0)).setCell ⟨B + 1 + 1 + 1, 3, none⟩ (.slice none 0 0)) from (H52.out.set4 0 rfl (.int .i64 0) (.int .i64 0) (.int .i64 0) (.slice none 0 0)))
    have q319 := H318.out.cell 0 rfl 0 rfl
    have q320 := H318.out.cell 0 rfl 1 rfl
    have q321 := H318.out.cell 0 rfl 2 rfl
    have q322 := H318.out.cell 0 rfl 3 rfl
    refine bodyPost_ret (v := .tuple #[.agg #[.int .i64 0, .int .i64 0, .int .i64 0, .slice none 0 0], .int .i64 1]) ?_ rfl (TPost.no (by unfold spTC; rw [if_pos (by intro hc; rw [HNb53.out] at hc; simp at hc)]) (by omega) (by first | exact H318.out.below | exact H318.out.below'))
    simp [results, Try.results20, go_sem, q319, q320, q321, q322]
end Go.Proofs.Ytfdkgjphnlijiaa
