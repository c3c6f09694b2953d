/-
 Contracts: which stages have needs, in the reference.
-/
import Derived.Test.YtlidacfokgdlgaaStAcc
namespace Go.Proofs.Ytlidacfokgdlgaa
open Go.RowKit
attribute [local go_sem ↓] Go.wp_at_zero Go.wp_at_succ
set_option linter.unusedVariables false
set_option linter.unusedSimpArgs false

def stFine (kd sb ep ef kw kh : Int) (wn rn cn : Nat) (sh sh2 : Int) (xn yn : Nat) (bins : Int) (on : Nat) (mx : Int) (X Y : Tbl) (n from' to' : Int) : Bool :=
 decide (1 ≤ n ∧ n ≤ 128 ∧ 0 ≤ from' ∧ from' ≤ 128 ∧ 0 ≤ to' ∧ to' ≤ 128) && (sfOk kd sb ep ef kw kh wn rn cn sh sh2 xn yn bins on mx && stAcc kd kw kh rn cn X Y)

theorem rsfields_A {kd sa sb : Int} {bar : Bool} {ep ef kw kh : Int} {wa : Option Addr} {wn wc : Nat} {ra : Option Addr} {rn rc : Nat} {ca : Option Addr} {cn cc : Nat} {sh sh2 : Int} {xa : Option Addr} {xn xc : Nat} {ya : Option Addr} {yn yc : Nat} {bins : Int} {oa : Option Addr} {on oc : Nat} {mx : Int} {A : Array Value} (hA : A = #[.int .i64 kd, .int .i64 sa, .int .i64 sb, .bool bar, .int .i64 ep, .int .i64 ef, .int .i64 kw, .int .i64 kh, .slice wa wn wc, .slice ra rn rc, .slice ca cn cc, .int .i64 sh, .int .i64 sh2, .slice xa xn xc, .slice ya yn yc, .int .i64 bins, .slice oa on oc, .int .i64 mx]) (W : World) : Calls Try.prog 56 #[.agg A] W fun e w' => e = .returned (.bool (sfOk kd sb ep ef kw kh wn rn cn sh sh2 xn yn bins on mx)) ∧ Below W.heap.size W w' := by
 subst hA; exact rsfields_any _ _ _ _ _ _ _ _ _ _ _ _ _ _ _ _ _ _ _ _ _ _ _ _ _ _ _ _ _ _ W

set_option maxRecDepth 100000 in
set_option maxHeartbeats 6400000 in
theorem rfine_A {kd sa sb : Int} {bar : Bool} {ep ef kw kh : Int} {wa : Option Addr} {wn wc : Nat} {ra : Option Addr} {rn rc : Nat} {ca : Option Addr} {cn cc : Nat} {sh sh2 : Int} {xa : Option Addr} {xn xc : Nat} {ya : Option Addr} {yn yc : Nat} {bins : Int} {oa : Option Addr} {on oc : Nat} {mx : Int} {A : Array Value} (hA : A = #[.int .i64 kd, .int .i64 sa, .int .i64 sb, .bool bar, .int .i64 ep, .int .i64 ef, .int .i64 kw, .int .i64 kh, .slice wa wn wc, .slice ra rn rc, .slice ca cn cc, .int .i64 sh, .int .i64 sh2, .slice xa xn xc, .slice ya yn yc, .int .i64 bins, .slice oa on oc, .int .i64 mx]) (n from' to' : Int) (X Y : Tbl) (W : World) (hx : Tps W xa xn xc X) (hy : Tps W ya yn yc Y) :
  Calls Try.prog 44 #[.agg A, .int .i64 n, .int .i64 from', .int .i64 to'] W fun e w' => e = .returned (.bool (stFine kd sb ep ef kw kh wn rn cn sh sh2 xn yn bins on mx X Y n from' to')) ∧ Below W.heap.size W w' := by
 obtain ⟨B, hB⟩ : ∃ B, W.heap.size = B := ⟨_, rfl⟩
 have HI0 := hid (St.init hB)
 have HX := hid hx
 have HY := hid hy
 have HA := hid hA
 clear hx hy hA
 go_enter Try.func44, Try.ntmps44
 go_upto_region 1 with fail
 have H56 := hid (show St B W [.cells B A 33] [] (W.alloc (.cells A 33)) from (HI0.out.alloc A 33 hB))
 first | refine gen_code H56.out ?_ | refine gen_list H56.out ?_ | refine gen_calls H56.out ?_
 intro w57 hG
 clear H56
 have H56 := hid hG
 clear hG
 by_cases c58 : (n : Int) < 1
 ·
  skip
  go_wp2_with fail
  go_ret
  exact ⟨ret_b (by unfold stFine; rw [decide_eq_false (by omega)]; rfl), by first | exact H56.out.below | exact H56.out.below'⟩
 ·
  skip
  by_cases c59 : (128 : Int) < n
  ·
   skip
   go_wp2_with fail
   go_ret
   exact ⟨ret_b (by unfold stFine; rw [decide_eq_false (by omega)]; rfl), by first | exact H56.out.below | exact H56.out.below'⟩
  ·
   skip
   by_cases c60 : (from' : Int) < 0
   ·
    skip
    go_wp2_with fail
    go_ret
    exact ⟨ret_b (by unfold stFine; rw [decide_eq_false (by omega)]; rfl), by first | exact H56.out.below | exact H56.out.below'⟩
   ·
    skip
    by_cases c61 : (128 : Int) < from'
    ·
     skip
     go_wp2_with fail
     go_ret
     exact ⟨ret_b (by unfold stFine; rw [decide_eq_false (by omega)]; rfl), by first | exact H56.out.below | exact H56.out.below'⟩
    ·
     skip
     by_cases c62 : (to' : Int) < 0
     ·
      skip
      go_wp2_with fail
      go_ret
      exact ⟨ret_b (by unfold stFine; rw [decide_eq_false (by omega)]; rfl), by first | exact H56.out.below | exact H56.out.below'⟩
     ·
      skip
      by_cases c63 : (128 : Int) < to'
      ·
       skip
       go_wp2_with fail
       go_ret
       exact ⟨ret_b (by unfold stFine; rw [decide_eq_false (by omega)]; rfl), by first | exact H56.out.below | exact H56.out.below'⟩
      ·
       skip
       have z64 := H56.out.loadStg 0 rfl (by rw [HA.out]; rfl)
       go_wp2_with (refine loadArm z64 (by rfl) (by rfl) ?_)
       clear z64
       refine (rsfields_A HA.out _).mono ?_
       rintro e w65 ⟨rfl, hb⟩
       have H66 := hid (H56.out.call hb)
       clear hb
       obtain ⟨b67, hb67⟩ : ∃ xx', sfOk kd sb ep ef kw kh wn rn cn sh sh2 xn yn bins on mx = xx' := ⟨_, rfl⟩
       rw [hb67]
       have HNb67 := hid hb67
       clear hb67
       cases b67 with
       | true =>
        by_cases c68 : (kd : Int) = 1
        ·
         obtain ⟨c68c, c68d⟩ : (kd : Int) ≤ 1 ∧ (1 : Int) ≤ kd := by omega
         have c68a : ((kd : Int) == (1)) = true := by simpa using c68
         have c68b : ((kd : Int) != (1)) = false := by simpa using c68
         have c68h := hid c68
         clear c68
         have z69 := H66.out.cell 0 rfl 0 (show A[0]? = some (.int .i64 kd) from by rw [HA.out]; rfl)
         have z70 := H66.out.cell 0 rfl 6 (show A[6]? = some (.int .i64 kw) from by rw [HA.out]; rfl)
         go_wp2_with fail
         clear z69 z70
         refine (rside_any _ _).mono ?_
         rintro e w71 ⟨rfl, hsw⟩
         have hsw2 : w65 = w71 := by first | exact hsw | exact hsw.symm
         clear hsw
         subst hsw2
         obtain ⟨b72, hb72⟩ : ∃ xx', sideOk (kw : Int) = xx' := ⟨_, rfl⟩
         rw [hb72]
         have HNb72 := hid hb72
         clear hb72
         cases b72 with
         | true =>
          have z73 := H66.out.cell 0 rfl 7 (show A[7]? = some (.int .i64 kh) from by rw [HA.out]; rfl)
          go_wp2_with fail
          clear z73
          refine (rside_any _ _).mono ?_
          rintro e w74 ⟨rfl, hsw⟩
          have hsw2 : w65 = w74 := by first | exact hsw | exact hsw.symm
          clear hsw
          subst hsw2
          obtain ⟨b75, hb75⟩ : ∃ xx', sideOk (kh : Int) = xx' := ⟨_, rfl⟩
          rw [hb75]
          have HNb75 := hid hb75
          clear hb75
          go_wp2_with fail
          go_ret
          exact ⟨ret_b (by unfold stFine; rw [decide_eq_true (show 1 ≤ n ∧ n ≤ 128 ∧ 0 ≤ from' ∧ from' ≤ 128 ∧ 0 ≤ to' ∧ to' ≤ 128 by have := c68h.out; omega), Bool.true_and]; rw [HNb67.out, Bool.true_and]; unfold stAcc; have := c68h.out; rw [if_pos (by omega), HNb72.out, HNb75.out]; try simp), by first | exact H66.out.below | exact H66.out.below'⟩
         | false =>
          go_wp2_with fail
          go_ret
          exact ⟨ret_b (by unfold stFine; rw [decide_eq_true (show 1 ≤ n ∧ n ≤ 128 ∧ 0 ≤ from' ∧ from' ≤ 128 ∧ 0 ≤ to' ∧ to' ≤ 128 by have := c68h.out; omega), Bool.true_and]; rw [HNb67.out, Bool.true_and]; unfold stAcc; have := c68h.out; rw [if_pos (by omega), HNb72.out]; rfl), by first | exact H66.out.below | exact H66.out.below'⟩
        ·
         have c68a : ((kd : Int) == (1)) = false := by simpa using c68
         have c68b : ((kd : Int) != (1)) = true := by simpa using c68
         have c68h := hid c68
         clear c68
         by_cases c76 : (kd : Int) = 2
         ·
          obtain ⟨c76c, c76d⟩ : (kd : Int) ≤ 2 ∧ (2 : Int) ≤ kd := by omega
          have c76a : ((kd : Int) == (2)) = true := by simpa using c76
          have c76b : ((kd : Int) != (2)) = false := by simpa using c76
          have c76h := hid c76
          clear c76
          have z77 := H66.out.cell 0 rfl 0 (show A[0]? = some (.int .i64 kd) from by rw [HA.out]; rfl)
          have z78 := H66.out.cell 0 rfl 9 (show A[9]? = some (.slice ra rn rc) from by rw [HA.out]; rfl)
          go_wp2_with fail
          clear z77 z78
          refine (rside_any _ _).mono ?_
          rintro e w79 ⟨rfl, hsw⟩
          have hsw2 : w65 = w79 := by first | exact hsw | exact hsw.symm
          clear hsw
          subst hsw2
          obtain ⟨b80, hb80⟩ : ∃ xx', sideOk (rn : Int) = xx' := ⟨_, rfl⟩
          rw [hb80]
          have HNb80 := hid hb80
          clear hb80
          cases b80 with
          | true =>
           have z81 := H66.out.cell 0 rfl 10 (show A[10]? = some (.slice ca cn cc) from by rw [HA.out]; rfl)
           go_wp2_with fail
           clear z81
           refine (rside_any _ _).mono ?_
           rintro e w82 ⟨rfl, hsw⟩
           have hsw2 : w65 = w82 := by first | exact hsw | exact hsw.symm
           clear hsw
           subst hsw2
           obtain ⟨b83, hb83⟩ : ∃ xx', sideOk (cn : Int) = xx' := ⟨_, rfl⟩
           rw [hb83]
           have HNb83 := hid hb83
           clear hb83
           go_wp2_with fail
           go_ret
           exact ⟨ret_b (by unfold stFine; rw [decide_eq_true (show 1 ≤ n ∧ n ≤ 128 ∧ 0 ≤ from' ∧ from' ≤ 128 ∧ 0 ≤ to' ∧ to' ≤ 128 by have := c68h.out; have := c76h.out; omega), Bool.true_and]; rw [HNb67.out, Bool.true_and]; unfold stAcc; have := c68h.out; have := c76h.out; rw [if_neg (by omega), if_pos (by omega), HNb80.out, HNb83.out]; try simp), by first | exact H66.out.below | exact H66.out.below'⟩
          | false =>
           go_wp2_with fail
           go_ret
           exact ⟨ret_b (by unfold stFine; rw [decide_eq_true (show 1 ≤ n ∧ n ≤ 128 ∧ 0 ≤ from' ∧ from' ≤ 128 ∧ 0 ≤ to' ∧ to' ≤ 128 by have := c68h.out; have := c76h.out; omega), Bool.true_and]; rw [HNb67.out, Bool.true_and]; unfold stAcc; have := c68h.out; have := c76h.out; rw [if_neg (by omega), if_pos (by omega), HNb80.out]; rfl), by first | exact H66.out.below | exact H66.out.below'⟩
         ·
          have c76a : ((kd : Int) == (2)) = false := by simpa using c76
          have c76b : ((kd : Int) != (2)) = true := by simpa using c76
          have c76h := hid c76
          clear c76
          by_cases c84 : (kd : Int) = 3
          ·
           obtain ⟨c84c, c84d⟩ : (kd : Int) ≤ 3 ∧ (3 : Int) ≤ kd := by omega
           have c84a : ((kd : Int) == (3)) = true := by simpa using c84
           have c84b : ((kd : Int) != (3)) = false := by simpa using c84
           have c84h := hid c84
           clear c84
           have z85 := H66.out.cell 0 rfl 0 (show A[0]? = some (.int .i64 kd) from by rw [HA.out]; rfl)
           have z86 := H66.out.cell 0 rfl 13 (show A[13]? = some (.slice xa xn xc) from by rw [HA.out]; rfl)
           go_wp2_with fail
           clear z85 z86
           refine (rtaps_any _ _ _ X _ (H66.out.oldTps HX.out)).mono ?_
           rintro e w87 ⟨rfl, hb⟩
           have H88 := hid (H66.out.call hb)
           clear hb
           obtain ⟨b89, hb89⟩ : ∃ xx', tapsOk X = xx' := ⟨_, rfl⟩
           rw [hb89]
           have HNb89 := hid hb89
           clear hb89
           cases b89 with
           | true =>
            have z90 := H88.out.cell 0 rfl 14 (show A[14]? = some (.slice ya yn yc) from by rw [HA.out]; rfl)
            go_wp2_with fail
            clear z90
            refine (rtaps_any _ _ _ Y _ (H88.out.oldTps HY.out)).mono ?_
            rintro e w91 ⟨rfl, hb⟩
            have H92 := hid (H88.out.call hb)
            clear hb
            obtain ⟨b93, hb93⟩ : ∃ xx', tapsOk Y = xx' := ⟨_, rfl⟩
            rw [hb93]
            have HNb93 := hid hb93
            clear hb93
            go_wp2_with fail
            go_ret
            exact ⟨ret_b (by unfold stFine; rw [decide_eq_true (show 1 ≤ n ∧ n ≤ 128 ∧ 0 ≤ from' ∧ from' ≤ 128 ∧ 0 ≤ to' ∧ to' ≤ 128 by have := c68h.out; have := c76h.out; have := c84h.out; omega), Bool.true_and]; rw [HNb67.out, Bool.true_and]; unfold stAcc; have := c68h.out; have := c76h.out; have := c84h.out; rw [if_neg (by omega), if_neg (by omega), if_pos (by omega), HNb89.out, HNb93.out]; try simp), by first | exact H92.out.below | exact H92.out.below'⟩
           | false =>
            go_wp2_with fail
            go_ret
            exact ⟨ret_b (by unfold stFine; rw [decide_eq_true (show 1 ≤ n ∧ n ≤ 128 ∧ 0 ≤ from' ∧ from' ≤ 128 ∧ 0 ≤ to' ∧ to' ≤ 128 by have := c68h.out; have := c76h.out; have := c84h.out; omega), Bool.true_and]; rw [HNb67.out, Bool.true_and]; unfold stAcc; have := c68h.out; have := c76h.out; have := c84h.out; rw [if_neg (by omega), if_neg (by omega), if_pos (by omega), HNb89.out]; rfl), by first | exact H88.out.below | exact H88.out.below'⟩
          ·
           have c84a : ((kd : Int) == (3)) = false := by simpa using c84
           have c84b : ((kd : Int) != (3)) = true := by simpa using c84
           have c84h := hid c84
           clear c84
           have z94 := H66.out.cell 0 rfl 0 (show A[0]? = some (.int .i64 kd) from by rw [HA.out]; rfl)
           go_wp2_with fail
           clear z94
           go_ret
           exact ⟨ret_b (by unfold stFine; rw [decide_eq_true (show 1 ≤ n ∧ n ≤ 128 ∧ 0 ≤ from' ∧ from' ≤ 128 ∧ 0 ≤ to' ∧ to' ≤ 128 by have := c68h.out; have := c76h.out; have := c84h.out; omega), Bool.true_and]; rw [HNb67.out, Bool.true_and]; unfold stAcc; have := c68h.out; have := c76h.out; have := c84h.out; rw [if_neg (by omega), if_neg (by omega), if_neg (by omega)]), by first | exact H66.out.below | exact H66.out.below'⟩
       | false =>
        go_wp2_with fail
        go_ret
        exact ⟨ret_b (by unfold stFine; rw [decide_eq_true (show 1 ≤ n ∧ n ≤ 128 ∧ 0 ≤ from' ∧ from' ≤ 128 ∧ 0 ≤ to' ∧ to' ≤ 128 by omega), Bool.true_and]; rw [HNb67.out]; rfl), by first | exact H66.out.below | exact H66.out.below'⟩
end Go.Proofs.Ytlidacfokgdlgaa
