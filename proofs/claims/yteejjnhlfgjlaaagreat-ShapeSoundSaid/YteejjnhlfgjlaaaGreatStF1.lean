/-
 Contract: which fields a stage may use, in the program.
-/
import Derived.Test.YteejjnhlfgjlaaaGreatStF
import Derived.Test.YteejjnhlfgjlaaaGreatStG1
import Derived.Test.YteejjnhlfgjlaaaGreatStG2
import Derived.Test.YteejjnhlfgjlaaaGreatStG3
import Derived.Test.YteejjnhlfgjlaaaGreatStG4
import Derived.Test.YteejjnhlfgjlaaaGreatStG5
import Derived.Test.YteejjnhlfgjlaaaGreatStG6
import Derived.Test.YteejjnhlfgjlaaaGreatKH
namespace Go.Proofs.YteejjnhlfgjlaaaGreat
open Go.RowKit
attribute [local go_sem ↓] Go.wp_at_zero Go.wp_at_succ edge_eq edge_ne
set_option linter.unusedVariables false
set_option linter.unusedSimpArgs false

set_option maxRecDepth 100000 in
set_option maxHeartbeats 6400000 in
theorem sfields_any (kd sa sb : Int) (bar : Bool) (ep ef kw kh : Int) (wa : Option Addr) (wn wc : Nat) (ra : Option Addr) (rn rc : Nat) (ca : Option Addr) (cn cc : Nat) (sh sh2 : Int) (xa : Option Addr) (xn xc : Nat) (ya : Option Addr) (yn yc : Nat) (bins : Int) (oa : Option Addr) (on oc : Nat) (mx : Int) (W : World) : Calls Tryz.prog 22 #[.agg #[.int .i64 kd, .int .i64 sa, .int .i64 sb, .bool bar, .int .i64 ep, .int .i64 ef, .int .i64 kw, .int .i64 kh, .slice wa wn wc, .slice ra rn rc, .slice ca cn cc, .int .i64 sh, .int .i64 sh2, .slice xa xn xc, .slice ya yn yc, .int .i64 bins, .slice oa on oc, .int .i64 mx]] W fun e w' => e = .returned (.bool (sfOk kd sb ep ef kw kh wn rn cn sh sh2 xn yn bins on mx)) ∧ Below W.heap.size W w' := by
 by_cases hk : 1 ≤ kd ∧ kd ≤ 6
 ·
  rcases (show kd = 1 ∨ kd = 2 ∨ kd = 3 ∨ kd = 4 ∨ kd = 5 ∨ kd = 6 by omega) with rfl | rfl | rfl | rfl | rfl | rfl
  ·
   exact sfields_1 _ _ _ _ _ _ _ _ _ _ _ _ _ _ _ _ _ _ _ _ _ _ _ _ _ _ _ _ _ _
  ·
   exact sfields_2 _ _ _ _ _ _ _ _ _ _ _ _ _ _ _ _ _ _ _ _ _ _ _ _ _ _ _ _ _ _
  ·
   exact sfields_3 _ _ _ _ _ _ _ _ _ _ _ _ _ _ _ _ _ _ _ _ _ _ _ _ _ _ _ _ _ _
  ·
   exact sfields_4 _ _ _ _ _ _ _ _ _ _ _ _ _ _ _ _ _ _ _ _ _ _ _ _ _ _ _ _ _ _
  ·
   exact sfields_5 _ _ _ _ _ _ _ _ _ _ _ _ _ _ _ _ _ _ _ _ _ _ _ _ _ _ _ _ _ _
  exact sfields_6 _ _ _ _ _ _ _ _ _ _ _ _ _ _ _ _ _ _ _ _ _ _ _ _ _ _ _ _ _ _
 obtain ⟨B, hB⟩ : ∃ B, W.heap.size = B := ⟨_, rfl⟩; have HI0 := kq (St.init hB)
 go_enter Tryz.func22, Tryz.ntmps22
 go_upto_region 1 with fail
 have H1 := kq (HI0.o.alloc #[.int .i64 kd, .int .i64 sa, .int .i64 sb, .bool bar, .int .i64 ep, .int .i64 ef, .int .i64 kw, .int .i64 kh, .slice wa wn wc, .slice ra rn rc, .slice ca cn cc, .int .i64 sh, .int .i64 sh2, .slice xa xn xc, .slice ya yn yc, .int .i64 bins, .slice oa on oc, .int .i64 mx] 34 hB); first | refine gK H1 ?_ | refine gL H1 ?_ | refine gC H1 ?_
 clear H1; intro w1 H1; by_cases c1 : (kd : Int) < 1
 ·
  have z1 := cs18 H1.o 0 rfl; go_wp2_with fail
  clear z1
  go_ret
  exact ⟨ret_b (by unfold sfOk; exact (decide_eq_false (by omega)).symm), H1.o.bl⟩
 by_cases c1 : (6 : Int) < kd
 ·
  have z1 := cs18 H1.o 0 rfl; go_wp2_with fail
  clear z1
  go_ret
  exact ⟨ret_b (by unfold sfOk; exact (decide_eq_false (by omega)).symm), H1.o.bl⟩
 exfalso; omega
end Go.Proofs.YteejjnhlfgjlaaaGreat
