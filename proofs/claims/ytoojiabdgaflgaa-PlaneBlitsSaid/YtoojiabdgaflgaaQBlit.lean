/-
  Contract: blits, in the reference.
-/
import Derived.Test.YtoojiabdgaflgaaBlit
namespace Go.Proofs.Ytoojiabdgaflgaa
open Go.RowKit
attribute [local go_sem ↓] Go.wp_at_zero Go.wp_at_succ
set_option linter.unusedVariables false
set_option linter.unusedSimpArgs false

set_option maxRecDepth 100000 in
set_option maxHeartbeats 6400000 in
theorem qblit_any (w h mx : Int) (a : Option Addr) (n c : Nat) (zs : List Int) (u v qm : Int) (a' : Option Addr) (n' c' : Nat) (qs : List Int) (x y : Int) (W : World) (hs : Slc W a n c zs) (hq : Slc W a' n' c' qs) :
    Calls Try.prog 62 #[.agg #[.int .i64 w, .int .i64 h, .int .i64 mx, .slice a n c], .agg #[.int .i64 u, .int .i64 v, .int .i64 qm, .slice a' n' c'], .int .i64 x, .int .i64 y] W (BlitPost w h mx zs u v qm qs x y W) := by
  obtain ⟨B, hB⟩ : ∃ B, W.heap.size = B := ⟨_, rfl⟩
  have HI0 := hid (St.init hB)
  have HS := hid hs
  have HL := hid hs.len
  have HQ := hid hq
  have HQL := hid hq.len
  have hqc : n' ≤ c' := hq.nc
  have hqcc : (c' : Int) ≤ 9223372036854775807 := by have := hq.cap; omega
  clear hs hq
  go_enter Try.func62, Try.ntmps62
  go_upto_region 1 with fail
  have H242 := hid (show St B W [.cells (B + 1 + 1) #[.int .i64 0, .int .i64 0, .int .i64 0, .slice none 0 0] 26, .cells (B + 1) #[.int .i64 u, .int .i64 v, .int .i64 qm, .slice a' n' c'] 26, .cells B #[.int .i64 w, .int .i64 h, .int .i64 mx, .slice a n c] 26] [] (((W.alloc (.cells #[.int .i64 w, .int .i64 h, .int .i64 mx, .slice a n c] 26)).alloc (.cells #[.int .i64 u, .int .i64 v, .int .i64 qm, .slice a' n' c'] 26)).alloc (.cells #[.int .i64 0, .int .i64 0, .int .i64 0, .slice none 0 0] 26)) from (((HI0.out.alloc #[.int .i64 w, .int .i64 h, .int .i64 mx, .slice a n c] 26 hB).alloc #[.int .i64 u, .int .i64 v, .int .i64 qm, .slice a' n' c'] 26 (by first | exact hB | simp [hB])).alloc #[.int .i64 0, .int .i64 0, .int .i64 0, .slice none 0 0] 26 (by first | exact hB | simp [hB])))
  first | refine gen_code H242.out ?_ | refine gen_list H242.out ?_ | refine gen_calls H242.out ?_
  intro w243 hG
  clear H242
  have H242 := hid hG
  clear hG
  have z244 := H242.out.cell 2 rfl 0 rfl
  have z245 := H242.out.cell 2 rfl 1 rfl
  have z246 := H242.out.cell 2 rfl 2 rfl
  have z247 := H242.out.cell 2 rfl 3 rfl
  go_wp2_with fail
  clear z244 z245 z246 z247
  refine (qpvalid_any _ _ _ _ _ _ _ _ (by have := HS.out.nc; have := HS.out.cap; omega) (H242.out.old HS.out).row).mono ?_
  rintro e w248 ⟨rfl, hb⟩
  have H249 := hid (H242.out.call hb)
  clear hb
  obtain ⟨bv, hbv⟩ : ∃ b, pValid w h mx zs = b := ⟨_, rfl⟩
  rw [hbv]
  have HV := hid hbv
  clear hbv
  cases bv with
  | true =>
    have z250 := H249.out.cell 1 rfl 0 rfl
    have z251 := H249.out.cell 1 rfl 1 rfl
    have z252 := H249.out.cell 1 rfl 2 rfl
    have z253 := H249.out.cell 1 rfl 3 rfl
    go_wp2_with fail
    clear z250 z251 z252 z253
    refine (qpvalid_any _ _ _ _ _ _ _ _ (by have := HQ.out.nc; have := HQ.out.cap; omega) (H249.out.old HQ.out).row).mono ?_
    rintro e w254 ⟨rfl, hb⟩
    have H255 := hid (H249.out.call hb)
    clear hb
    obtain ⟨bq, hbq⟩ : ∃ b, pValid u v qm qs = b := ⟨_, rfl⟩
    rw [hbq]
    have HVQ := hid hbq
    clear hbq
    cases bq with
    | true =>
      obtain ⟨p1, p2, p3, p4, p5, p6, p7⟩ := pOk_iff.1 (pValid_iff.1 HV.out).1
      obtain ⟨q1, q2, q3, q4, q5, q6, q7⟩ := pOk_iff.1 (pValid_iff.1 HVQ.out).1
      by_cases c256 : (x : Int) < 0
      · skip
        have z257 := H255.out.cell 0 rfl 0 rfl
        have z258 := H255.out.free 0 rfl 0
        have z259 := H255.out.cell 0 rfl 1 rfl
        have z260 := H255.out.free 0 rfl 1
        have z261 := H255.out.cell 0 rfl 2 rfl
        have z262 := H255.out.free 0 rfl 2
        have z263 := H255.out.cell 0 rfl 3 rfl
        have z264 := H255.out.free 0 rfl 3
        go_wp2_with fail
        clear z257 z258 z259 z260 z261 z262 z263 z264
        have H265 := hid (show St B W [.cells (B + 1 + 1) #[.int .i64 0, .int .i64 0, .int .i64 0, .slice none 0 0] 26, .cells (B + 1) #[.int .i64 u, .int .i64 v, .int .i64 qm, .slice a' n' c'] 26, .cells B #[.int .i64 w, .int .i64 h, .int .i64 mx, .slice a n c] 26] [] ((((w254.setCell ⟨B + 1 + 1, 0, none⟩ (.int .i64 0)).setCell ⟨B + 1 + 1, 1, none⟩ (.int .i64 0)).setCell ⟨B + 1 + 1, 2, none⟩ (.int .i64 0)).setCell ⟨B + 1 + 1, 3, none⟩ (.slice none 0 0)) from (H255.out.set4 0 rfl (.int .i64 0) (.int .i64 0) (.int .i64 0) (.slice none 0 0)))
        have HNO := hid (show blOk w h mx zs u v qm qs x y = false from blOk_no (fun hb => by have := hb.2.2.1; omega))
        have q266 := H265.out.cell 0 rfl 0 rfl
        have q267 := H265.out.cell 0 rfl 1 rfl
        have q268 := H265.out.cell 0 rfl 2 rfl
        have q269 := H265.out.cell 0 rfl 3 rfl
        refine bodyPost_ret (v := .tuple #[.agg #[.int .i64 0, .int .i64 0, .int .i64 0, .slice none 0 0], .bool false]) ?_ rfl (blit_no HNO.out (by first | exact H265.out.below | exact H265.out.below'))
        simp [results, Try.results62, go_sem, q266, q267, q268, q269]
      · skip
        by_cases c270 : (y : Int) < 0
        · skip
          have z271 := H255.out.cell 0 rfl 0 rfl
          have z272 := H255.out.free 0 rfl 0
          have z273 := H255.out.cell 0 rfl 1 rfl
          have z274 := H255.out.free 0 rfl 1
          have z275 := H255.out.cell 0 rfl 2 rfl
          have z276 := H255.out.free 0 rfl 2
          have z277 := H255.out.cell 0 rfl 3 rfl
          have z278 := H255.out.free 0 rfl 3
          go_wp2_with fail
          clear z271 z272 z273 z274 z275 z276 z277 z278
          have H279 := hid (show St B W [.cells (B + 1 + 1) #[.int .i64 0, .int .i64 0, .int .i64 0, .slice none 0 0] 26, .cells (B + 1) #[.int .i64 u, .int .i64 v, .int .i64 qm, .slice a' n' c'] 26, .cells B #[.int .i64 w, .int .i64 h, .int .i64 mx, .slice a n c] 26] [] ((((w254.setCell ⟨B + 1 + 1, 0, none⟩ (.int .i64 0)).setCell ⟨B + 1 + 1, 1, none⟩ (.int .i64 0)).setCell ⟨B + 1 + 1, 2, none⟩ (.int .i64 0)).setCell ⟨B + 1 + 1, 3, none⟩ (.slice none 0 0)) from (H255.out.set4 0 rfl (.int .i64 0) (.int .i64 0) (.int .i64 0) (.slice none 0 0)))
          have HNO := hid (show blOk w h mx zs u v qm qs x y = false from blOk_no (fun hb => by have := hb.2.2.1; omega))
          have q280 := H279.out.cell 0 rfl 0 rfl
          have q281 := H279.out.cell 0 rfl 1 rfl
          have q282 := H279.out.cell 0 rfl 2 rfl
          have q283 := H279.out.cell 0 rfl 3 rfl
          refine bodyPost_ret (v := .tuple #[.agg #[.int .i64 0, .int .i64 0, .int .i64 0, .slice none 0 0], .bool false]) ?_ rfl (blit_no HNO.out (by first | exact H279.out.below | exact H279.out.below'))
          simp [results, Try.results62, go_sem, q280, q281, q282, q283]
        · skip
          by_cases c284 : (w - u : Int) < x
          · skip
            have z285 := H255.out.cell 2 rfl 0 rfl
            have z286 := H255.out.cell 2 rfl 1 rfl
            have z287 := H255.out.cell 2 rfl 2 rfl
            have z288 := H255.out.cell 2 rfl 3 rfl
            have z289 := H255.out.cell 1 rfl 0 rfl
            have z290 := H255.out.cell 1 rfl 1 rfl
            have z291 := H255.out.cell 1 rfl 2 rfl
            have z292 := H255.out.cell 1 rfl 3 rfl
            have z293 := H255.out.cell 0 rfl 0 rfl
            have z294 := H255.out.free 0 rfl 0
            have z295 := H255.out.cell 0 rfl 1 rfl
            have z296 := H255.out.free 0 rfl 1
            have z297 := H255.out.cell 0 rfl 2 rfl
            have z298 := H255.out.free 0 rfl 2
            have z299 := H255.out.cell 0 rfl 3 rfl
            have z300 := H255.out.free 0 rfl 3
            go_wp2_with fail
            clear z285 z286 z287 z288 z289 z290 z291 z292 z293 z294 z295 z296 z297 z298 z299 z300
            have H301 := hid (show St B W [.cells (B + 1 + 1) #[.int .i64 0, .int .i64 0, .int .i64 0, .slice none 0 0] 26, .cells (B + 1) #[.int .i64 u, .int .i64 v, .int .i64 qm, .slice a' n' c'] 26, .cells B #[.int .i64 w, .int .i64 h, .int .i64 mx, .slice a n c] 26] [] ((((w254.setCell ⟨B + 1 + 1, 0, none⟩ (.int .i64 0)).setCell ⟨B + 1 + 1, 1, none⟩ (.int .i64 0)).setCell ⟨B + 1 + 1, 2, none⟩ (.int .i64 0)).setCell ⟨B + 1 + 1, 3, none⟩ (.slice none 0 0)) from (H255.out.set4 0 rfl (.int .i64 0) (.int .i64 0) (.int .i64 0) (.slice none 0 0)))
            have HNO := hid (show blOk w h mx zs u v qm qs x y = false from blOk_no (fun hb => by have := hb.2.2.1; omega))
            have q302 := H301.out.cell 0 rfl 0 rfl
            have q303 := H301.out.cell 0 rfl 1 rfl
            have q304 := H301.out.cell 0 rfl 2 rfl
            have q305 := H301.out.cell 0 rfl 3 rfl
            refine bodyPost_ret (v := .tuple #[.agg #[.int .i64 0, .int .i64 0, .int .i64 0, .slice none 0 0], .bool false]) ?_ rfl (blit_no HNO.out (by first | exact H301.out.below | exact H301.out.below'))
            simp [results, Try.results62, go_sem, q302, q303, q304, q305]
          · skip
            by_cases c306 : (h - v : Int) < y
            · skip
              have z307 := H255.out.cell 2 rfl 0 rfl
              have z308 := H255.out.cell 2 rfl 1 rfl
              have z309 := H255.out.cell 2 rfl 2 rfl
              have z310 := H255.out.cell 2 rfl 3 rfl
              have z311 := H255.out.cell 1 rfl 0 rfl
              have z312 := H255.out.cell 1 rfl 1 rfl
              have z313 := H255.out.cell 1 rfl 2 rfl
              have z314 := H255.out.cell 1 rfl 3 rfl
              have z315 := H255.out.cell 0 rfl 0 rfl
              have z316 := H255.out.free 0 rfl 0
              have z317 := H255.out.cell 0 rfl 1 rfl
              have z318 := H255.out.free 0 rfl 1
              have z319 := H255.out.cell 0 rfl 2 rfl
              have z320 := H255.out.free 0 rfl 2
              have z321 := H255.out.cell 0 rfl 3 rfl
              have z322 := H255.out.free 0 rfl 3
              go_wp2_with fail
              clear z307 z308 z309 z310 z311 z312 z313 z314 z315 z316 z317 z318 z319 z320 z321 z322
              have H323 := hid (show St B W [.cells (B + 1 + 1) #[.int .i64 0, .int .i64 0, .int .i64 0, .slice none 0 0] 26, .cells (B + 1) #[.int .i64 u, .int .i64 v, .int .i64 qm, .slice a' n' c'] 26, .cells B #[.int .i64 w, .int .i64 h, .int .i64 mx, .slice a n c] 26] [] ((((w254.setCell ⟨B + 1 + 1, 0, none⟩ (.int .i64 0)).setCell ⟨B + 1 + 1, 1, none⟩ (.int .i64 0)).setCell ⟨B + 1 + 1, 2, none⟩ (.int .i64 0)).setCell ⟨B + 1 + 1, 3, none⟩ (.slice none 0 0)) from (H255.out.set4 0 rfl (.int .i64 0) (.int .i64 0) (.int .i64 0) (.slice none 0 0)))
              have HNO := hid (show blOk w h mx zs u v qm qs x y = false from blOk_no (fun hb => by have := hb.2.2.1; omega))
              have q324 := H323.out.cell 0 rfl 0 rfl
              have q325 := H323.out.cell 0 rfl 1 rfl
              have q326 := H323.out.cell 0 rfl 2 rfl
              have q327 := H323.out.cell 0 rfl 3 rfl
              refine bodyPost_ret (v := .tuple #[.agg #[.int .i64 0, .int .i64 0, .int .i64 0, .slice none 0 0], .bool false]) ?_ rfl (blit_no HNO.out (by first | exact H323.out.below | exact H323.out.below'))
              simp [results, Try.results62, go_sem, q324, q325, q326, q327]
            · skip
              obtain ⟨nw, hnw⟩ : ∃ m : Nat, w = m := ⟨w.toNat, by omega⟩
              obtain ⟨nh, hnh⟩ : ∃ m : Nat, h = m := ⟨h.toNat, by omega⟩
              obtain ⟨qw, hqw⟩ : ∃ m : Nat, u = m := ⟨u.toNat, by omega⟩
              obtain ⟨qh, hqh⟩ : ∃ m : Nat, v = m := ⟨v.toNat, by omega⟩
              obtain ⟨X, hX⟩ : ∃ m : Nat, x = m := ⟨x.toNat, by omega⟩
              obtain ⟨Y, hY⟩ : ∃ m : Nat, y = m := ⟨y.toNat, by omega⟩
              obtain ⟨fx, fy, sx, sy, tw, th, gx, gy⟩ : X + qw ≤ nw ∧ Y + qh ≤ nh ∧ 1 ≤ qw ∧ 1 ≤ qh ∧ nw ≤ 128 ∧ nh ≤ 128 ∧ X ≤ 128 ∧ Y ≤ 128 := by omega
              have hzl : zs.length = nh * nw := by have h1 := (pValid_iff.1 HV.out).2.1; rw [hnw, hnh, Int.mul_comm] at h1; exact_mod_cast h1
              have hql : qs.length = qh * qw := by have h1 := (pValid_iff.1 HVQ.out).2.1; rw [hqw, hqh, Int.mul_comm] at h1; exact_mod_cast h1
              have HZL := hid hzl
              have HQQ := hid hql
              have hn1 : n = nh * nw := by rw [← HL.out]; exact hzl
              have hn2 : n' = qh * qw := by rw [← HQL.out]; exact hql
              obtain ⟨NN, hNN⟩ : ∃ N : Nat, nh * nw = N := ⟨_, rfl⟩
              obtain ⟨MM, hMM⟩ : ∃ N : Nat, qh * qw = N := ⟨_, rfl⟩
              have m1 : 1 ≤ MM := by rw [← hMM]; exact Nat.mul_pos (by omega) (by omega)
              have m2 : 1 ≤ NN := by rw [← hNN]; exact Nat.mul_pos (by omega) (by omega)
              have m3 : NN ≤ 4096 := by have h1 := (pValid_iff.1 HV.out).2.1; rw [hzl, hNN] at h1; omega
              have m4 : MM ≤ 4096 := by have h1 := (pValid_iff.1 HVQ.out).2.1; rw [hql, hMM] at h1; omega
              have HNN := hid hNN
              have HMM := hid hMM
              obtain ⟨k1, k2, k3, k4⟩ : n ≤ NN ∧ NN ≤ n ∧ n' ≤ MM ∧ MM ≤ n' := by omega
              have HWW := hid (And.intro hnw (And.intro hnh (And.intro hqw (And.intro hqh (And.intro hX hY)))))
              clear hzl hql hn1 hn2 hNN hMM
              subst hnw hnh hqw hqh hX hY
              have z328 := H255.out.cell 2 rfl 0 rfl
              have z329 := H255.out.cell 2 rfl 1 rfl
              have z330 := H255.out.cell 2 rfl 2 rfl
              have z331 := H255.out.cell 2 rfl 3 rfl
              have z332 := H255.out.cell 1 rfl 0 rfl
              have z333 := H255.out.cell 1 rfl 1 rfl
              have z334 := H255.out.cell 1 rfl 2 rfl
              have z335 := H255.out.cell 1 rfl 3 rfl
              go_wp2_with fail
              clear z328 z329 z330 z331 z332 z333 z334 z335
              refine (qcopy_any _ _ _ _ _ _ zs _ (H255.out.old HS.out) (by omega) (by omega)).mono ?_
              rintro e w336 ⟨v337, rfl, ho, hb⟩
              have H338 := hid (H255.out.grow hb ho)
              obtain ⟨g0, cp, rfl⟩ := ho.pos (by rw [HZL.out, HNN.out]; omega)
              rw [HZL.out, HNN.out] at H338 ⊢
              clear ho hb
              obtain ⟨D339, hD339⟩ : ∃ D, w336.heap.size = D := ⟨_, rfl⟩
              go_upto_region 4 with fail
              have H340 := hid (show St B W [.cells D339 #[.int .i64 nw, .int .i64 nh, .int .i64 mx, .slice (some ⟨g0, 0, none⟩) NN cp] 26, .own (.slice (some ⟨g0, 0, none⟩) NN cp) zs, .cells (B + 1 + 1) #[.int .i64 0, .int .i64 0, .int .i64 0, .slice none 0 0] 26, .cells (B + 1) #[.int .i64 qw, .int .i64 qh, .int .i64 qm, .slice a' n' c'] 26, .cells B #[.int .i64 nw, .int .i64 nh, .int .i64 mx, .slice a n c] 26] [] (w336.alloc (.cells #[.int .i64 nw, .int .i64 nh, .int .i64 mx, .slice (some ⟨g0, 0, none⟩) NN cp] 26)) from (H338.out.alloc #[.int .i64 nw, .int .i64 nh, .int .i64 mx, .slice (some ⟨g0, 0, none⟩) NN cp] 26 hD339))
              first | refine gen_code H340.out ?_ | refine gen_list H340.out ?_ | refine gen_calls H340.out ?_
              intro w341 hG
              clear H340
              have H340 := hid hG
              clear hG
              clear hD339
              go_wp2_with fail
              go_loopw [11] (fun i wr => ∃ k : Nat, k ≤ qh ∧ i = .int .i64 k ∧ (∀ b, b < k * qw → qs.getD b 0 ≤ mx) ∧ St B W [.own (.slice (some ⟨g0, 0, none⟩) NN cp) (bl zs qs nw X Y qw k), .cells D339 #[.int .i64 nw, .int .i64 nh, .int .i64 mx, .slice (some ⟨g0, 0, none⟩) NN cp] 26, .cells (B + 1 + 1) #[.int .i64 0, .int .i64 0, .int .i64 0, .slice none 0 0] 26, .cells (B + 1) #[.int .i64 qw, .int .i64 qh, .int .i64 qm, .slice a' n' c'] 26, .cells B #[.int .i64 nw, .int .i64 nh, .int .i64 mx, .slice a n c] 26] [] wr) (fun i _ => qh - (intOf i).toNat)
              case atStart => exact ⟨0, by omega, rfl, fun b hb => by omega, H340.out.pick [1, 0, 2, 3, 4] rfl (by decide)⟩
              case round =>
                obtain ⟨k, hk, rfl, ha, hst⟩ := hrel
                obtain ⟨u342, rfl⟩ : ∃ u342 : World, u342 = wr := ⟨_, rfl⟩
                have H343 := hid hst
                clear hst
                have HA := hid ha
                clear ha
                by_cases hkn : k < qh
                · skip
                  have hkn' : (k : Int) < qh := by omega
                  obtain ⟨KO, hKO⟩ : ∃ m : Nat, (Y + k) * nw + X = m := ⟨_, rfl⟩
                  have HKO := hid hKO
                  obtain ⟨KQ, hKQ⟩ : ∃ m : Nat, k * qw = m := ⟨_, rfl⟩
                  have HKQ := hid hKQ
                  obtain ⟨PA, hPA⟩ : ∃ m : Nat, (Y + k) * nw = m := ⟨_, rfl⟩
                  have hp1 : ((k : Int) + (Y : Int)) * (nw : Int) = (PA : Int) := by rw [← hPA, Int.add_comm]; simp
                  have hp2 : (k : Int) * (qw : Int) = (KQ : Int) := by rw [← hKQ]; simp
                  have hf1 := row_fits fx fy hkn
                  rw [hKO, HNN.out] at hf1
                  have hf2 : KQ + qw ≤ MM := by
                    have e1 : (k + 1) * qw ≤ qh * qw := Nat.mul_le_mul_right _ (by omega)
                    rw [HMM.out, Nat.add_mul, Nat.one_mul, hKQ] at e1
                    omega
                  rw [hPA] at hKO
                  obtain ⟨hp4, hp5⟩ : PA + X ≤ KO ∧ KO ≤ PA + X := by omega
                  have HBL := hid (show (bl zs qs nw X Y qw k).length = NN from by rw [bl_len HZL.out fx fy (by omega), HZL.out, HNN.out])
                  rw [hKQ] at HA
                  clear hPA hKQ hKO
                  have pa5 : PA ≤ 4096 := by omega
                  have z344 := H343.out.cell 3 rfl 0 rfl
                  have z345 := H343.out.cell 3 rfl 1 rfl
                  have z346 := H343.out.cell 3 rfl 2 rfl
                  have z347 := H343.out.cell 3 rfl 3 rfl
                  go_wp2_with fail
                  clear z344 z345 z346 z347
                  go_loopw [12] (fun i wr => ∃ j : Nat, j ≤ qw ∧ i = .int .i64 j ∧ (∀ b, b < KQ + j → qs.getD b 0 ≤ mx) ∧ St B W [.own (.slice (some ⟨g0, 0, none⟩) NN cp) (splice (bl zs qs nw X Y qw k) KO (bRow qs qw k j)), .cells D339 #[.int .i64 nw, .int .i64 nh, .int .i64 mx, .slice (some ⟨g0, 0, none⟩) NN cp] 26, .cells (B + 1 + 1) #[.int .i64 0, .int .i64 0, .int .i64 0, .slice none 0 0] 26, .cells (B + 1) #[.int .i64 qw, .int .i64 qh, .int .i64 qm, .slice a' n' c'] 26, .cells B #[.int .i64 nw, .int .i64 nh, .int .i64 mx, .slice a n c] 26] [] wr) (fun i _ => qw - (intOf i).toNat)
                  case atStart => exact ⟨0, by omega, rfl, HA.out, by rw [show bRow qs qw k 0 = [] from rfl, splice_nil]; exact H343.out⟩
                  case round =>
                    obtain ⟨j, hj, rfl, ha, hst⟩ := hrel
                    obtain ⟨u348, rfl⟩ : ∃ u348 : World, u348 = wr := ⟨_, rfl⟩
                    have H349 := hid hst
                    clear hst
                    have HB := hid ha
                    clear ha
                    by_cases hjn : j < qw
                    · skip
                      have hjn' : (j : Int) < qw := by omega
                      obtain ⟨pbk, po, hpa⟩ := row_at (H349.out.old HQ.out).row (by omega)
                      have cz := row_cell (by rw [← hpa]; exact (H349.out.old HQ.out).row) (j := KQ + j) (by omega)
                      have hzm := getD_mem' (zs := qs) (j := KQ + j) (by rw [HQQ.out, HMM.out]; omega)
                      have HSL : (splice (bl zs qs nw X Y qw k) KO (bRow qs qw k j)).length = NN := by rw [length_splice _ _ _ (by rw [bRow_len, HBL.out]; omega), HBL.out]
                      obtain ⟨s1, s2⟩ := H349.out.get 0 rfl (j := KO + j) (by rw [HSL]; omega)
                      have HNX := hid (show (splice (bl zs qs nw X Y qw k) KO (bRow qs qw k j)).set (KO + j) (qs.getD (KQ + j) 0) = splice (bl zs qs nw X Y qw k) KO (bRow qs qw k (j + 1)) from by
                        have := splice_set (L := bl zs qs nw X Y qw k) (off := KO) (cs := bRow qs qw k j) (v := qs.getD (KQ + j) 0) (by rw [bRow_len, HBL.out]; omega)
                        rw [bRow_len] at this
                        rw [this, bRow_next, HKQ.out])
                      have HB2 := hid (show qs.getD (KQ + j) 0 ≤ mx → ∀ b, b < KQ + (j + 1) → qs.getD b 0 ≤ mx from fun hg b hb => by
                        rcases Nat.lt_or_ge b (KQ + j) with h' | h'
                        · exact HB.out b h'
                        · obtain rfl : b = KQ + j := by omega
                          exact hg)
                      have HZM := hid hzm
                      obtain ⟨pz, hpz⟩ : ∃ z, qs.getD (KQ + j) 0 = z := ⟨_, rfl⟩
                      rw [hpz] at cz HNX HB2 HZM
                      clear hpz hzm HSL
                      subst hpa
                      have w1 : IntKind.i64.wrap (KQ : Int) = KQ := IntWalk.i64_in _ (by omega)
                      have v4 : (KQ : Int) + (j : Int) < n' := by omega
                      by_cases hgm : mx < pz
                      · skip
                        have hgm' : mx < pz := by omega
                        have z350 := H349.out.cell 3 rfl 0 rfl
                        have z351 := H349.out.cell 3 rfl 1 rfl
                        have z352 := H349.out.cell 3 rfl 2 rfl
                        have z353 := H349.out.cell 3 rfl 3 rfl
                        have z354 := H349.out.cell 4 rfl 0 rfl
                        have z355 := H349.out.cell 4 rfl 1 rfl
                        have z356 := H349.out.cell 4 rfl 2 rfl
                        have z357 := H349.out.cell 4 rfl 3 rfl
                        have z358 := H349.out.cell 2 rfl 0 rfl
                        have z359 := H349.out.free 2 rfl 0
                        have z360 := H349.out.cell 2 rfl 1 rfl
                        have z361 := H349.out.free 2 rfl 1
                        have z362 := H349.out.cell 2 rfl 2 rfl
                        have z363 := H349.out.free 2 rfl 2
                        have z364 := H349.out.cell 2 rfl 3 rfl
                        have z365 := H349.out.free 2 rfl 3
                        go_wp2_with fail
                        clear z350 z351 z352 z353 z354 z355 z356 z357 z358 z359 z360 z361 z362 z363 z364 z365
                        have H366 := hid (show St B W [.own (.slice (some ⟨g0, 0, none⟩) NN cp) (splice (bl zs qs nw X Y qw k) KO (bRow qs qw k j)), .cells D339 #[.int .i64 nw, .int .i64 nh, .int .i64 mx, .slice (some ⟨g0, 0, none⟩) NN cp] 26, .cells (B + 1 + 1) #[.int .i64 0, .int .i64 0, .int .i64 0, .slice none 0 0] 26, .cells (B + 1) #[.int .i64 qw, .int .i64 qh, .int .i64 qm, .slice (some ⟨pbk, po, none⟩) n' c'] 26, .cells B #[.int .i64 nw, .int .i64 nh, .int .i64 mx, .slice a n c] 26] [] ((((u348.setCell ⟨B + 1 + 1, 0, none⟩ (.int .i64 0)).setCell ⟨B + 1 + 1, 1, none⟩ (.int .i64 0)).setCell ⟨B + 1 + 1, 2, none⟩ (.int .i64 0)).setCell ⟨B + 1 + 1, 3, none⟩ (.slice none 0 0)) from (H349.out.set4 2 rfl (.int .i64 0) (.int .i64 0) (.int .i64 0) (.slice none 0 0)))
                        have HNO := hid (show blOk nw nh mx zs qw qh qm qs X Y = false from blOk_no (fun hb => by have := hb.2.2.2 _ HZM.out; omega))
                        have q367 := H366.out.cell 2 rfl 0 rfl
                        have q368 := H366.out.cell 2 rfl 1 rfl
                        have q369 := H366.out.cell 2 rfl 2 rfl
                        have q370 := H366.out.cell 2 rfl 3 rfl
                        refine bodyPost_ret (v := .tuple #[.agg #[.int .i64 0, .int .i64 0, .int .i64 0, .slice none 0 0], .bool false]) ?_ rfl (blit_no HNO.out (by first | exact H366.out.below | exact H366.out.below'))
                        simp [results, Try.results62, go_sem, q367, q368, q369, q370]
                      · skip
                        have hgm' : ¬ (mx < pz) := by omega
                        have HB1 := hid (HB2.out (by omega))
                        have w7 : (KO : Int) + (j : Int) < NN := by omega
                        have hko : (PA : Int) + (j : Int) + (X : Int) = (KO : Int) + j := by omega
                        have z371 := H349.out.cell 3 rfl 0 rfl
                        have z372 := H349.out.cell 3 rfl 1 rfl
                        have z373 := H349.out.cell 3 rfl 2 rfl
                        have z374 := H349.out.cell 3 rfl 3 rfl
                        have z375 := H349.out.cell 4 rfl 0 rfl
                        have z376 := H349.out.cell 4 rfl 1 rfl
                        have z377 := H349.out.cell 4 rfl 2 rfl
                        have z378 := H349.out.cell 4 rfl 3 rfl
                        have z379 := H349.out.cell 1 rfl 0 rfl
                        have z380 := H349.out.cell 1 rfl 1 rfl
                        have z381 := H349.out.cell 1 rfl 2 rfl
                        have z382 := H349.out.cell 1 rfl 3 rfl
                        go_upto_region 9 with fail
                        clear z371 z372 z373 z374 z375 z376 z377 z378 z379 z380 z381 z382
                        have H383 := hid (show St B W [.own (.slice (some ⟨g0, 0, none⟩) NN cp) ((splice (bl zs qs nw X Y qw k) KO (bRow qs qw k j)).set (KO + j) pz), .cells D339 #[.int .i64 nw, .int .i64 nh, .int .i64 mx, .slice (some ⟨g0, 0, none⟩) NN cp] 26, .cells (B + 1 + 1) #[.int .i64 0, .int .i64 0, .int .i64 0, .slice none 0 0] 26, .cells (B + 1) #[.int .i64 qw, .int .i64 qh, .int .i64 qm, .slice (some ⟨pbk, po, none⟩) n' c'] 26, .cells B #[.int .i64 nw, .int .i64 nh, .int .i64 mx, .slice a n c] 26] [] (u348.setCell ⟨g0, (KO + j), none⟩ (.int .i64 pz)) from (H349.out.store 0 rfl (KO + j) pz))
                        first | refine gen_code H383.out ?_ | refine gen_list H383.out ?_ | refine gen_calls H383.out ?_
                        intro w384 hG
                        clear H383
                        have H383 := hid hG
                        clear hG
                        go_wp2_with fail
                        go_roundw
                        case rel => exact ⟨j + 1, by omega, by go_num, HB1.out, by rw [← HNX.out]; exact H383.out⟩
                        case measure => first | (simp [intOf]; omega) | (simp [intOf]; done)
                    · skip
                      have hjn' : ¬ ((j : Int) < qw) := by omega
                      have HJ := hid (show j = qw by omega)
                      have HA2 := hid (show ∀ b, b < (k + 1) * qw → qs.getD b 0 ≤ mx from fun b hb => HB.out b (by rw [Nat.add_mul, Nat.one_mul, HKQ.out] at hb; have := HJ.out; omega))
                      have z385 := H349.out.cell 3 rfl 0 rfl
                      have z386 := H349.out.cell 3 rfl 1 rfl
                      have z387 := H349.out.cell 3 rfl 2 rfl
                      have z388 := H349.out.cell 3 rfl 3 rfl
                      go_wp2_with fail
                      clear z385 z386 z387 z388
                      go_roundw
                      case rel => exact ⟨k + 1, by omega, by go_num, HA2.out, by have e := HJ.out; subst e; unfold bl; rw [HKO.out]; exact H349.out⟩
                      case measure => first | (simp [intOf]; omega) | (simp [intOf]; done)
                · skip
                  have hkn' : ¬ ((k : Int) < qh) := by omega
                  have HKL := hid (show k = qh by omega)
                  have HALL := hid (show ∀ z ∈ qs, z ≤ mx from fun z hz => by obtain ⟨i, hi, rfl⟩ := mem_getD' hz; exact HA.out i (by rw [HKL.out, ← HQQ.out]; exact hi))
                  have z389 := H343.out.cell 3 rfl 0 rfl
                  have z390 := H343.out.cell 3 rfl 1 rfl
                  have z391 := H343.out.cell 3 rfl 2 rfl
                  have z392 := H343.out.cell 3 rfl 3 rfl
                  have z393 := H343.out.cell 1 rfl 0 rfl
                  have z394 := H343.out.cell 1 rfl 1 rfl
                  have z395 := H343.out.cell 1 rfl 2 rfl
                  have z396 := H343.out.cell 1 rfl 3 rfl
                  have z397 := H343.out.cell 2 rfl 0 rfl
                  have z398 := H343.out.free 2 rfl 0
                  have z399 := H343.out.cell 2 rfl 1 rfl
                  have z400 := H343.out.free 2 rfl 1
                  have z401 := H343.out.cell 2 rfl 2 rfl
                  have z402 := H343.out.free 2 rfl 2
                  have z403 := H343.out.cell 2 rfl 3 rfl
                  have z404 := H343.out.free 2 rfl 3
                  go_wp2_with fail
                  clear z389 z390 z391 z392 z393 z394 z395 z396 z397 z398 z399 z400 z401 z402 z403 z404
                  have H405 := hid (show St B W [.own (.slice (some ⟨g0, 0, none⟩) NN cp) (bl zs qs nw X Y qw k), .cells D339 #[.int .i64 nw, .int .i64 nh, .int .i64 mx, .slice (some ⟨g0, 0, none⟩) NN cp] 26, .cells (B + 1 + 1) #[.int .i64 nw, .int .i64 nh, .int .i64 mx, .slice (some ⟨g0, 0, none⟩) NN cp] 26, .cells (B + 1) #[.int .i64 qw, .int .i64 qh, .int .i64 qm, .slice a' n' c'] 26, .cells B #[.int .i64 nw, .int .i64 nh, .int .i64 mx, .slice a n c] 26] [] ((((u342.setCell ⟨B + 1 + 1, 0, none⟩ (.int .i64 nw)).setCell ⟨B + 1 + 1, 1, none⟩ (.int .i64 nh)).setCell ⟨B + 1 + 1, 2, none⟩ (.int .i64 mx)).setCell ⟨B + 1 + 1, 3, none⟩ (.slice (some ⟨g0, 0, none⟩) NN cp)) from (H343.out.set4 2 rfl (.int .i64 nw) (.int .i64 nh) (.int .i64 mx) (.slice (some ⟨g0, 0, none⟩) NN cp)))
                  have HOK := hid (show blOk nw nh mx zs qw qh qm qs X Y = true from blOk_iff.2 ⟨HV.out, HVQ.out, by omega, HALL.out⟩)
                  have HCI := hid (show ∀ z, blIf nw nh mx zs qw qh qm qs X Y z = z from fun z => by unfold blIf; rw [if_pos HOK.out])
                  have HCL := hid (show blList nw nh mx zs qw qh qm qs X Y = bl zs qs nw X Y qw k from by unfold blList; rw [if_pos HOK.out, HKL.out]; rfl)
                  have q406 := H405.out.cell 2 rfl 0 rfl
                  have q407 := H405.out.cell 2 rfl 1 rfl
                  have q408 := H405.out.cell 2 rfl 2 rfl
                  have q409 := H405.out.cell 2 rfl 3 rfl
                  refine bodyPost_ret (v := .tuple #[.agg #[.int .i64 nw, .int .i64 nh, .int .i64 mx, .slice (some ⟨g0, 0, none⟩) NN cp], .bool true]) ?_ rfl ⟨_, by rw [HCI.out, HCI.out, HCI.out, HOK.out], by rw [HCL.out, hB]; exact H405.out.own 0 rfl, by first | exact H405.out.below | exact H405.out.below'⟩
                  simp [results, Try.results62, go_sem, q406, q407, q408, q409]
    | false =>
      have z410 := H255.out.cell 0 rfl 0 rfl
      have z411 := H255.out.free 0 rfl 0
      have z412 := H255.out.cell 0 rfl 1 rfl
      have z413 := H255.out.free 0 rfl 1
      have z414 := H255.out.cell 0 rfl 2 rfl
      have z415 := H255.out.free 0 rfl 2
      have z416 := H255.out.cell 0 rfl 3 rfl
      have z417 := H255.out.free 0 rfl 3
      go_wp2_with fail
      clear z410 z411 z412 z413 z414 z415 z416 z417
      have H418 := hid (show St B W [.cells (B + 1 + 1) #[.int .i64 0, .int .i64 0, .int .i64 0, .slice none 0 0] 26, .cells (B + 1) #[.int .i64 u, .int .i64 v, .int .i64 qm, .slice a' n' c'] 26, .cells B #[.int .i64 w, .int .i64 h, .int .i64 mx, .slice a n c] 26] [] ((((w254.setCell ⟨B + 1 + 1, 0, none⟩ (.int .i64 0)).setCell ⟨B + 1 + 1, 1, none⟩ (.int .i64 0)).setCell ⟨B + 1 + 1, 2, none⟩ (.int .i64 0)).setCell ⟨B + 1 + 1, 3, none⟩ (.slice none 0 0)) from (H255.out.set4 0 rfl (.int .i64 0) (.int .i64 0) (.int .i64 0) (.slice none 0 0)))
      have HNO := hid (show blOk w h mx zs u v qm qs x y = false from blOk_no (fun hb => by have := hb.2.1; rw [HVQ.out] at this; cases this))
      have q419 := H418.out.cell 0 rfl 0 rfl
      have q420 := H418.out.cell 0 rfl 1 rfl
      have q421 := H418.out.cell 0 rfl 2 rfl
      have q422 := H418.out.cell 0 rfl 3 rfl
      refine bodyPost_ret (v := .tuple #[.agg #[.int .i64 0, .int .i64 0, .int .i64 0, .slice none 0 0], .bool false]) ?_ rfl (blit_no HNO.out (by first | exact H418.out.below | exact H418.out.below'))
      simp [results, Try.results62, go_sem, q419, q420, q421, q422]
  | false =>
    have z423 := H249.out.cell 0 rfl 0 rfl
    have z424 := H249.out.free 0 rfl 0
    have z425 := H249.out.cell 0 rfl 1 rfl
    have z426 := H249.out.free 0 rfl 1
    have z427 := H249.out.cell 0 rfl 2 rfl
    have z428 := H249.out.free 0 rfl 2
    have z429 := H249.out.cell 0 rfl 3 rfl
    have z430 := H249.out.free 0 rfl 3
    go_wp2_with fail
    clear z423 z424 z425 z426 z427 z428 z429 z430
    have H431 := hid (show St B W [.cells (B + 1 + 1) #[.int .i64 0, .int .i64 0, .int .i64 0, .slice none 0 0] 26, .cells (B + 1) #[.int .i64 u, .int .i64 v, .int .i64 qm, .slice a' n' c'] 26, .cells B #[.int .i64 w, .int .i64 h, .int .i64 mx, .slice a n c] 26] [] ((((w248.setCell ⟨B + 1 + 1, 0, none⟩ (.int .i64 0)).setCell ⟨B + 1 + 1, 1, none⟩ (.int .i64 0)).setCell ⟨B + 1 + 1, 2, none⟩ (.int .i64 0)).setCell ⟨B + 1 + 1, 3, none⟩ (.slice none 0 0)) from (H249.out.set4 0 rfl (.int .i64 0) (.int .i64 0) (.int .i64 0) (.slice none 0 0)))
    have HNO := hid (show blOk w h mx zs u v qm qs x y = false from blOk_no (fun hb => by have := hb.1; rw [HV.out] at this; cases this))
    have q432 := H431.out.cell 0 rfl 0 rfl
    have q433 := H431.out.cell 0 rfl 1 rfl
    have q434 := H431.out.cell 0 rfl 2 rfl
    have q435 := H431.out.cell 0 rfl 3 rfl
    refine bodyPost_ret (v := .tuple #[.agg #[.int .i64 0, .int .i64 0, .int .i64 0, .slice none 0 0], .bool false]) ?_ rfl (blit_no HNO.out (by first | exact H431.out.below | exact H431.out.below'))
    simp [results, Try.results62, go_sem, q432, q433, q434, q435]
end Go.Proofs.Ytoojiabdgaflgaa
