/-
  Contracts: which stages have needs, in the reference.
-/
import Derived.Test.YtlidacfokgdlgaaStAcc
namespace Go.Proofs.Ytlidacfokgdlgaa
open Go.RowKit
attribute [local go_sem ↓] Go.wp_at_zero Go.wp_at_succ
set_option linter.unusedVariables false
set_option linter.unusedSimpArgs false

def stFine (kd sb ep ef kw kh : Int) (wn rn cn : Nat) (sh sh2 : Int) (xn yn : Nat) (bins : Int) (on : Nat) (mx : Int) (X Y : Tbl) (n from' to' : Int) : Bool :=
  decide (1 ≤ n ∧ n ≤ 128 ∧ 0 ≤ from' ∧ from' ≤ 128 ∧ 0 ≤ to' ∧ to' ≤ 128) && (sfOk kd sb ep ef kw kh wn rn cn sh sh2 xn yn bins on mx && stAcc kd kw kh rn cn X Y)

set_option maxRecDepth 100000 in
set_option maxHeartbeats 6400000 in
theorem rfine_any (kd sa sb : Int) (bar : Bool) (ep ef kw kh : Int) (wa : Option Addr) (wn wc : Nat) (ra : Option Addr) (rn rc : Nat) (ca : Option Addr) (cn cc : Nat) (sh sh2 : Int) (xa : Option Addr) (xn xc : Nat) (ya : Option Addr) (yn yc : Nat) (bins : Int) (oa : Option Addr) (on oc : Nat) (mx : Int) (n from' to' : Int) (X Y : Tbl) (W : World) (hx : Tps W xa xn xc X) (hy : Tps W ya yn yc Y) :
    Calls Try.prog 44 #[.agg #[.int .i64 kd, .int .i64 sa, .int .i64 sb, .bool bar, .int .i64 ep, .int .i64 ef, .int .i64 kw, .int .i64 kh, .slice wa wn wc, .slice ra rn rc, .slice ca cn cc, .int .i64 sh, .int .i64 sh2, .slice xa xn xc, .slice ya yn yc, .int .i64 bins, .slice oa on oc, .int .i64 mx], .int .i64 n, .int .i64 from', .int .i64 to'] W fun e w' => e = .returned (.bool (stFine kd sb ep ef kw kh wn rn cn sh sh2 xn yn bins on mx X Y n from' to')) ∧ Below W.heap.size W w' := by
  obtain ⟨B, hB⟩ : ∃ B, W.heap.size = B := ⟨_, rfl⟩
  have HI0 := hid (St.init hB)
  have HX := hid hx
  have HY := hid hy
  clear hx hy
  go_enter Try.func44, Try.ntmps44
  go_upto_region 1 with fail
  have H189 := hid (show St B W [.cells B #[.int .i64 kd, .int .i64 sa, .int .i64 sb, .bool bar, .int .i64 ep, .int .i64 ef, .int .i64 kw, .int .i64 kh, .slice wa wn wc, .slice ra rn rc, .slice ca cn cc, .int .i64 sh, .int .i64 sh2, .slice xa xn xc, .slice ya yn yc, .int .i64 bins, .slice oa on oc, .int .i64 mx] 33] [] (W.alloc (.cells #[.int .i64 kd, .int .i64 sa, .int .i64 sb, .bool bar, .int .i64 ep, .int .i64 ef, .int .i64 kw, .int .i64 kh, .slice wa wn wc, .slice ra rn rc, .slice ca cn cc, .int .i64 sh, .int .i64 sh2, .slice xa xn xc, .slice ya yn yc, .int .i64 bins, .slice oa on oc, .int .i64 mx] 33)) from (HI0.out.alloc #[.int .i64 kd, .int .i64 sa, .int .i64 sb, .bool bar, .int .i64 ep, .int .i64 ef, .int .i64 kw, .int .i64 kh, .slice wa wn wc, .slice ra rn rc, .slice ca cn cc, .int .i64 sh, .int .i64 sh2, .slice xa xn xc, .slice ya yn yc, .int .i64 bins, .slice oa on oc, .int .i64 mx] 33 hB))
  first | refine gen_code H189.out ?_ | refine gen_list H189.out ?_ | refine gen_calls H189.out ?_
  intro w190 hG
  clear H189
  have H189 := hid hG
  clear hG
  by_cases c191 : (n : Int) < 1
  · skip
    go_wp2_with fail
    go_ret
    exact ⟨ret_b (by unfold stFine; rw [decide_eq_false (by omega)]; rfl), by first | exact H189.out.below | exact H189.out.below'⟩
  · skip
    by_cases c192 : (128 : Int) < n
    · skip
      go_wp2_with fail
      go_ret
      exact ⟨ret_b (by unfold stFine; rw [decide_eq_false (by omega)]; rfl), by first | exact H189.out.below | exact H189.out.below'⟩
    · skip
      by_cases c193 : (from' : Int) < 0
      · skip
        go_wp2_with fail
        go_ret
        exact ⟨ret_b (by unfold stFine; rw [decide_eq_false (by omega)]; rfl), by first | exact H189.out.below | exact H189.out.below'⟩
      · skip
        by_cases c194 : (128 : Int) < from'
        · skip
          go_wp2_with fail
          go_ret
          exact ⟨ret_b (by unfold stFine; rw [decide_eq_false (by omega)]; rfl), by first | exact H189.out.below | exact H189.out.below'⟩
        · skip
          by_cases c195 : (to' : Int) < 0
          · skip
            go_wp2_with fail
            go_ret
            exact ⟨ret_b (by unfold stFine; rw [decide_eq_false (by omega)]; rfl), by first | exact H189.out.below | exact H189.out.below'⟩
          · skip
            by_cases c196 : (128 : Int) < to'
            · skip
              go_wp2_with fail
              go_ret
              exact ⟨ret_b (by unfold stFine; rw [decide_eq_false (by omega)]; rfl), by first | exact H189.out.below | exact H189.out.below'⟩
            · skip
              have z197 := H189.out.cell 0 rfl 0 rfl
              have z198 := H189.out.cell 0 rfl 1 rfl
              have z199 := H189.out.cell 0 rfl 2 rfl
              have z200 := H189.out.cell 0 rfl 3 rfl
              have z201 := H189.out.cell 0 rfl 4 rfl
              have z202 := H189.out.cell 0 rfl 5 rfl
              have z203 := H189.out.cell 0 rfl 6 rfl
              have z204 := H189.out.cell 0 rfl 7 rfl
              have z205 := H189.out.cell 0 rfl 8 rfl
              have z206 := H189.out.cell 0 rfl 9 rfl
              have z207 := H189.out.cell 0 rfl 10 rfl
              have z208 := H189.out.cell 0 rfl 11 rfl
              have z209 := H189.out.cell 0 rfl 12 rfl
              have z210 := H189.out.cell 0 rfl 13 rfl
              have z211 := H189.out.cell 0 rfl 14 rfl
              have z212 := H189.out.cell 0 rfl 15 rfl
              have z213 := H189.out.cell 0 rfl 16 rfl
              have z214 := H189.out.cell 0 rfl 17 rfl
              go_wp2_with fail
              clear z197 z198 z199 z200 z201 z202 z203 z204 z205 z206 z207 z208 z209 z210 z211 z212 z213 z214
              refine (rsfields_any _ _ _ _ _ _ _ _ _ _ _ _ _ _ _ _ _ _ _ _ _ _ _ _ _ _ _ _ _ _ _).mono ?_
              rintro e w215 ⟨rfl, hb⟩
              have H216 := hid (H189.out.call hb)
              clear hb
              obtain ⟨b217, hb217⟩ : ∃ xx', sfOk kd sb ep ef kw kh wn rn cn sh sh2 xn yn bins on mx = xx' := ⟨_, rfl⟩
              rw [hb217]
              have HNb217 := hid hb217
              clear hb217
              cases b217 with
              | true =>
                by_cases c218 : (kd : Int) = 1
                · obtain ⟨c218c, c218d⟩ : (kd : Int) ≤ 1 ∧ (1 : Int) ≤ kd := by omega
                  have c218a : ((kd : Int) == (1)) = true := by simpa using c218
                  have c218b : ((kd : Int) != (1)) = false := by simpa using c218
                  have c218h := hid c218
                  clear c218
                  have z219 := H216.out.cell 0 rfl 0 rfl
                  have z220 := H216.out.cell 0 rfl 1 rfl
                  have z221 := H216.out.cell 0 rfl 2 rfl
                  have z222 := H216.out.cell 0 rfl 3 rfl
                  have z223 := H216.out.cell 0 rfl 4 rfl
                  have z224 := H216.out.cell 0 rfl 5 rfl
                  have z225 := H216.out.cell 0 rfl 6 rfl
                  have z226 := H216.out.cell 0 rfl 7 rfl
                  have z227 := H216.out.cell 0 rfl 8 rfl
                  have z228 := H216.out.cell 0 rfl 9 rfl
                  have z229 := H216.out.cell 0 rfl 10 rfl
                  have z230 := H216.out.cell 0 rfl 11 rfl
                  have z231 := H216.out.cell 0 rfl 12 rfl
                  have z232 := H216.out.cell 0 rfl 13 rfl
                  have z233 := H216.out.cell 0 rfl 14 rfl
                  have z234 := H216.out.cell 0 rfl 15 rfl
                  have z235 := H216.out.cell 0 rfl 16 rfl
                  have z236 := H216.out.cell 0 rfl 17 rfl
                  go_wp2_with fail
                  clear z219 z220 z221 z222 z223 z224 z225 z226 z227 z228 z229 z230 z231 z232 z233 z234 z235 z236
                  refine (rside_any _ _).mono ?_
                  rintro e w237 ⟨rfl, hsw⟩
                  have hsw2 : w215 = w237 := by first | exact hsw | exact hsw.symm
                  clear hsw
                  subst hsw2
                  obtain ⟨b238, hb238⟩ : ∃ xx', sideOk (kw : Int) = xx' := ⟨_, rfl⟩
                  rw [hb238]
                  have HNb238 := hid hb238
                  clear hb238
                  cases b238 with
                  | true =>
                    have z239 := H216.out.cell 0 rfl 0 rfl
                    have z240 := H216.out.cell 0 rfl 1 rfl
                    have z241 := H216.out.cell 0 rfl 2 rfl
                    have z242 := H216.out.cell 0 rfl 3 rfl
                    have z243 := H216.out.cell 0 rfl 4 rfl
                    have z244 := H216.out.cell 0 rfl 5 rfl
                    have z245 := H216.out.cell 0 rfl 6 rfl
                    have z246 := H216.out.cell 0 rfl 7 rfl
                    have z247 := H216.out.cell 0 rfl 8 rfl
                    have z248 := H216.out.cell 0 rfl 9 rfl
                    have z249 := H216.out.cell 0 rfl 10 rfl
                    have z250 := H216.out.cell 0 rfl 11 rfl
                    have z251 := H216.out.cell 0 rfl 12 rfl
                    have z252 := H216.out.cell 0 rfl 13 rfl
                    have z253 := H216.out.cell 0 rfl 14 rfl
                    have z254 := H216.out.cell 0 rfl 15 rfl
                    have z255 := H216.out.cell 0 rfl 16 rfl
                    have z256 := H216.out.cell 0 rfl 17 rfl
                    go_wp2_with fail
                    clear z239 z240 z241 z242 z243 z244 z245 z246 z247 z248 z249 z250 z251 z252 z253 z254 z255 z256
                    refine (rside_any _ _).mono ?_
                    rintro e w257 ⟨rfl, hsw⟩
                    have hsw2 : w215 = w257 := by first | exact hsw | exact hsw.symm
                    clear hsw
                    subst hsw2
                    obtain ⟨b258, hb258⟩ : ∃ xx', sideOk (kh : Int) = xx' := ⟨_, rfl⟩
                    rw [hb258]
                    have HNb258 := hid hb258
                    clear hb258
                    go_wp2_with fail
                    go_ret
                    exact ⟨ret_b (by unfold stFine; rw [decide_eq_true (show 1 ≤ n ∧ n ≤ 128 ∧ 0 ≤ from' ∧ from' ≤ 128 ∧ 0 ≤ to' ∧ to' ≤ 128 by have := c218h.out; omega), Bool.true_and]; rw [HNb217.out, Bool.true_and]; unfold stAcc; have := c218h.out; rw [if_pos (by omega), HNb238.out, HNb258.out]; try simp), by first | exact H216.out.below | exact H216.out.below'⟩
                  | false =>
                    go_wp2_with fail
                    go_ret
                    exact ⟨ret_b (by unfold stFine; rw [decide_eq_true (show 1 ≤ n ∧ n ≤ 128 ∧ 0 ≤ from' ∧ from' ≤ 128 ∧ 0 ≤ to' ∧ to' ≤ 128 by have := c218h.out; omega), Bool.true_and]; rw [HNb217.out, Bool.true_and]; unfold stAcc; have := c218h.out; rw [if_pos (by omega), HNb238.out]; rfl), by first | exact H216.out.below | exact H216.out.below'⟩
                · have c218a : ((kd : Int) == (1)) = false := by simpa using c218
                  have c218b : ((kd : Int) != (1)) = true := by simpa using c218
                  have c218h := hid c218
                  clear c218
                  by_cases c259 : (kd : Int) = 2
                  · obtain ⟨c259c, c259d⟩ : (kd : Int) ≤ 2 ∧ (2 : Int) ≤ kd := by omega
                    have c259a : ((kd : Int) == (2)) = true := by simpa using c259
                    have c259b : ((kd : Int) != (2)) = false := by simpa using c259
                    have c259h := hid c259
                    clear c259
                    have z260 := H216.out.cell 0 rfl 0 rfl
                    have z261 := H216.out.cell 0 rfl 1 rfl
                    have z262 := H216.out.cell 0 rfl 2 rfl
                    have z263 := H216.out.cell 0 rfl 3 rfl
                    have z264 := H216.out.cell 0 rfl 4 rfl
                    have z265 := H216.out.cell 0 rfl 5 rfl
                    have z266 := H216.out.cell 0 rfl 6 rfl
                    have z267 := H216.out.cell 0 rfl 7 rfl
                    have z268 := H216.out.cell 0 rfl 8 rfl
                    have z269 := H216.out.cell 0 rfl 9 rfl
                    have z270 := H216.out.cell 0 rfl 10 rfl
                    have z271 := H216.out.cell 0 rfl 11 rfl
                    have z272 := H216.out.cell 0 rfl 12 rfl
                    have z273 := H216.out.cell 0 rfl 13 rfl
                    have z274 := H216.out.cell 0 rfl 14 rfl
                    have z275 := H216.out.cell 0 rfl 15 rfl
                    have z276 := H216.out.cell 0 rfl 16 rfl
                    have z277 := H216.out.cell 0 rfl 17 rfl
                    go_wp2_with fail
                    clear z260 z261 z262 z263 z264 z265 z266 z267 z268 z269 z270 z271 z272 z273 z274 z275 z276 z277
                    refine (rside_any _ _).mono ?_
                    rintro e w278 ⟨rfl, hsw⟩
                    have hsw2 : w215 = w278 := by first | exact hsw | exact hsw.symm
                    clear hsw
                    subst hsw2
                    obtain ⟨b279, hb279⟩ : ∃ xx', sideOk (rn : Int) = xx' := ⟨_, rfl⟩
                    rw [hb279]
                    have HNb279 := hid hb279
                    clear hb279
                    cases b279 with
                    | true =>
                      have z280 := H216.out.cell 0 rfl 0 rfl
                      have z281 := H216.out.cell 0 rfl 1 rfl
                      have z282 := H216.out.cell 0 rfl 2 rfl
                      have z283 := H216.out.cell 0 rfl 3 rfl
                      have z284 := H216.out.cell 0 rfl 4 rfl
                      have z285 := H216.out.cell 0 rfl 5 rfl
                      have z286 := H216.out.cell 0 rfl 6 rfl
                      have z287 := H216.out.cell 0 rfl 7 rfl
                      have z288 := H216.out.cell 0 rfl 8 rfl
                      have z289 := H216.out.cell 0 rfl 9 rfl
                      have z290 := H216.out.cell 0 rfl 10 rfl
                      have z291 := H216.out.cell 0 rfl 11 rfl
                      have z292 := H216.out.cell 0 rfl 12 rfl
                      have z293 := H216.out.cell 0 rfl 13 rfl
                      have z294 := H216.out.cell 0 rfl 14 rfl
                      have z295 := H216.out.cell 0 rfl 15 rfl
                      have z296 := H216.out.cell 0 rfl 16 rfl
                      have z297 := H216.out.cell 0 rfl 17 rfl
                      go_wp2_with fail
                      clear z280 z281 z282 z283 z284 z285 z286 z287 z288 z289 z290 z291 z292 z293 z294 z295 z296 z297
                      refine (rside_any _ _).mono ?_
                      rintro e w298 ⟨rfl, hsw⟩
                      have hsw2 : w215 = w298 := by first | exact hsw | exact hsw.symm
                      clear hsw
                      subst hsw2
                      obtain ⟨b299, hb299⟩ : ∃ xx', sideOk (cn : Int) = xx' := ⟨_, rfl⟩
                      rw [hb299]
                      have HNb299 := hid hb299
                      clear hb299
                      go_wp2_with fail
                      go_ret
                      exact ⟨ret_b (by unfold stFine; rw [decide_eq_true (show 1 ≤ n ∧ n ≤ 128 ∧ 0 ≤ from' ∧ from' ≤ 128 ∧ 0 ≤ to' ∧ to' ≤ 128 by have := c218h.out; have := c259h.out; omega), Bool.true_and]; rw [HNb217.out, Bool.true_and]; unfold stAcc; have := c218h.out; have := c259h.out; rw [if_neg (by omega), if_pos (by omega), HNb279.out, HNb299.out]; try simp), by first | exact H216.out.below | exact H216.out.below'⟩
                    | false =>
                      go_wp2_with fail
                      go_ret
                      exact ⟨ret_b (by unfold stFine; rw [decide_eq_true (show 1 ≤ n ∧ n ≤ 128 ∧ 0 ≤ from' ∧ from' ≤ 128 ∧ 0 ≤ to' ∧ to' ≤ 128 by have := c218h.out; have := c259h.out; omega), Bool.true_and]; rw [HNb217.out, Bool.true_and]; unfold stAcc; have := c218h.out; have := c259h.out; rw [if_neg (by omega), if_pos (by omega), HNb279.out]; rfl), by first | exact H216.out.below | exact H216.out.below'⟩
                  · have c259a : ((kd : Int) == (2)) = false := by simpa using c259
                    have c259b : ((kd : Int) != (2)) = true := by simpa using c259
                    have c259h := hid c259
                    clear c259
                    by_cases c300 : (kd : Int) = 3
                    · obtain ⟨c300c, c300d⟩ : (kd : Int) ≤ 3 ∧ (3 : Int) ≤ kd := by omega
                      have c300a : ((kd : Int) == (3)) = true := by simpa using c300
                      have c300b : ((kd : Int) != (3)) = false := by simpa using c300
                      have c300h := hid c300
                      clear c300
                      have z301 := H216.out.cell 0 rfl 0 rfl
                      have z302 := H216.out.cell 0 rfl 1 rfl
                      have z303 := H216.out.cell 0 rfl 2 rfl
                      have z304 := H216.out.cell 0 rfl 3 rfl
                      have z305 := H216.out.cell 0 rfl 4 rfl
                      have z306 := H216.out.cell 0 rfl 5 rfl
                      have z307 := H216.out.cell 0 rfl 6 rfl
                      have z308 := H216.out.cell 0 rfl 7 rfl
                      have z309 := H216.out.cell 0 rfl 8 rfl
                      have z310 := H216.out.cell 0 rfl 9 rfl
                      have z311 := H216.out.cell 0 rfl 10 rfl
                      have z312 := H216.out.cell 0 rfl 11 rfl
                      have z313 := H216.out.cell 0 rfl 12 rfl
                      have z314 := H216.out.cell 0 rfl 13 rfl
                      have z315 := H216.out.cell 0 rfl 14 rfl
                      have z316 := H216.out.cell 0 rfl 15 rfl
                      have z317 := H216.out.cell 0 rfl 16 rfl
                      have z318 := H216.out.cell 0 rfl 17 rfl
                      go_wp2_with fail
                      clear z301 z302 z303 z304 z305 z306 z307 z308 z309 z310 z311 z312 z313 z314 z315 z316 z317 z318
                      refine (rtaps_any _ _ _ X _ (H216.out.oldTps HX.out)).mono ?_
                      rintro e w319 ⟨rfl, hb⟩
                      have H320 := hid (H216.out.call hb)
                      clear hb
                      obtain ⟨b321, hb321⟩ : ∃ xx', tapsOk X = xx' := ⟨_, rfl⟩
                      rw [hb321]
                      have HNb321 := hid hb321
                      clear hb321
                      cases b321 with
                      | true =>
                        have z322 := H320.out.cell 0 rfl 0 rfl
                        have z323 := H320.out.cell 0 rfl 1 rfl
                        have z324 := H320.out.cell 0 rfl 2 rfl
                        have z325 := H320.out.cell 0 rfl 3 rfl
                        have z326 := H320.out.cell 0 rfl 4 rfl
                        have z327 := H320.out.cell 0 rfl 5 rfl
                        have z328 := H320.out.cell 0 rfl 6 rfl
                        have z329 := H320.out.cell 0 rfl 7 rfl
                        have z330 := H320.out.cell 0 rfl 8 rfl
                        have z331 := H320.out.cell 0 rfl 9 rfl
                        have z332 := H320.out.cell 0 rfl 10 rfl
                        have z333 := H320.out.cell 0 rfl 11 rfl
                        have z334 := H320.out.cell 0 rfl 12 rfl
                        have z335 := H320.out.cell 0 rfl 13 rfl
                        have z336 := H320.out.cell 0 rfl 14 rfl
                        have z337 := H320.out.cell 0 rfl 15 rfl
                        have z338 := H320.out.cell 0 rfl 16 rfl
                        have z339 := H320.out.cell 0 rfl 17 rfl
                        go_wp2_with fail
                        clear z322 z323 z324 z325 z326 z327 z328 z329 z330 z331 z332 z333 z334 z335 z336 z337 z338 z339
                        refine (rtaps_any _ _ _ Y _ (H320.out.oldTps HY.out)).mono ?_
                        rintro e w340 ⟨rfl, hb⟩
                        have H341 := hid (H320.out.call hb)
                        clear hb
                        obtain ⟨b342, hb342⟩ : ∃ xx', tapsOk Y = xx' := ⟨_, rfl⟩
                        rw [hb342]
                        have HNb342 := hid hb342
                        clear hb342
                        go_wp2_with fail
                        go_ret
                        exact ⟨ret_b (by unfold stFine; rw [decide_eq_true (show 1 ≤ n ∧ n ≤ 128 ∧ 0 ≤ from' ∧ from' ≤ 128 ∧ 0 ≤ to' ∧ to' ≤ 128 by have := c218h.out; have := c259h.out; have := c300h.out; omega), Bool.true_and]; rw [HNb217.out, Bool.true_and]; unfold stAcc; have := c218h.out; have := c259h.out; have := c300h.out; rw [if_neg (by omega), if_neg (by omega), if_pos (by omega), HNb321.out, HNb342.out]; try simp), by first | exact H341.out.below | exact H341.out.below'⟩
                      | false =>
                        go_wp2_with fail
                        go_ret
                        exact ⟨ret_b (by unfold stFine; rw [decide_eq_true (show 1 ≤ n ∧ n ≤ 128 ∧ 0 ≤ from' ∧ from' ≤ 128 ∧ 0 ≤ to' ∧ to' ≤ 128 by have := c218h.out; have := c259h.out; have := c300h.out; omega), Bool.true_and]; rw [HNb217.out, Bool.true_and]; unfold stAcc; have := c218h.out; have := c259h.out; have := c300h.out; rw [if_neg (by omega), if_neg (by omega), if_pos (by omega), HNb321.out]; rfl), by first | exact H320.out.below | exact H320.out.below'⟩
                    · have c300a : ((kd : Int) == (3)) = false := by simpa using c300
                      have c300b : ((kd : Int) != (3)) = true := by simpa using c300
                      have c300h := hid c300
                      clear c300
                      have z343 := H216.out.cell 0 rfl 0 rfl
                      have z344 := H216.out.cell 0 rfl 1 rfl
                      have z345 := H216.out.cell 0 rfl 2 rfl
                      have z346 := H216.out.cell 0 rfl 3 rfl
                      have z347 := H216.out.cell 0 rfl 4 rfl
                      have z348 := H216.out.cell 0 rfl 5 rfl
                      have z349 := H216.out.cell 0 rfl 6 rfl
                      have z350 := H216.out.cell 0 rfl 7 rfl
                      have z351 := H216.out.cell 0 rfl 8 rfl
                      have z352 := H216.out.cell 0 rfl 9 rfl
                      have z353 := H216.out.cell 0 rfl 10 rfl
                      have z354 := H216.out.cell 0 rfl 11 rfl
                      have z355 := H216.out.cell 0 rfl 12 rfl
                      have z356 := H216.out.cell 0 rfl 13 rfl
                      have z357 := H216.out.cell 0 rfl 14 rfl
                      have z358 := H216.out.cell 0 rfl 15 rfl
                      have z359 := H216.out.cell 0 rfl 16 rfl
                      have z360 := H216.out.cell 0 rfl 17 rfl
                      go_wp2_with fail
                      clear z343 z344 z345 z346 z347 z348 z349 z350 z351 z352 z353 z354 z355 z356 z357 z358 z359 z360
                      go_ret
                      exact ⟨ret_b (by unfold stFine; rw [decide_eq_true (show 1 ≤ n ∧ n ≤ 128 ∧ 0 ≤ from' ∧ from' ≤ 128 ∧ 0 ≤ to' ∧ to' ≤ 128 by have := c218h.out; have := c259h.out; have := c300h.out; omega), Bool.true_and]; rw [HNb217.out, Bool.true_and]; unfold stAcc; have := c218h.out; have := c259h.out; have := c300h.out; rw [if_neg (by omega), if_neg (by omega), if_neg (by omega)]), by first | exact H216.out.below | exact H216.out.below'⟩
              | false =>
                go_wp2_with fail
                go_ret
                exact ⟨ret_b (by unfold stFine; rw [decide_eq_true (show 1 ≤ n ∧ n ≤ 128 ∧ 0 ≤ from' ∧ from' ≤ 128 ∧ 0 ≤ to' ∧ to' ≤ 128 by omega), Bool.true_and]; rw [HNb217.out]; rfl), by first | exact H216.out.below | exact H216.out.below'⟩
end Go.Proofs.Ytlidacfokgdlgaa
