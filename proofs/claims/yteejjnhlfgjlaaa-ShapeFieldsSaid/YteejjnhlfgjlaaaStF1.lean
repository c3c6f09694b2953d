/-
 Contract: which fields a stage may use, in the program.
-/
import Derived.Test.YteejjnhlfgjlaaaStF
import Derived.Test.YteejjnhlfgjlaaaStG1
import Derived.Test.YteejjnhlfgjlaaaStG2
import Derived.Test.YteejjnhlfgjlaaaStG3
import Derived.Test.YteejjnhlfgjlaaaStG4
import Derived.Test.YteejjnhlfgjlaaaStG5
import Derived.Test.YteejjnhlfgjlaaaStG6
import Derived.Test.YteejjnhlfgjlaaaKH
namespace Go.Proofs.Yteejjnhlfgjlaaa
open Go.RowKit
attribute [local go_sem ↓] Go.wp_at_zero Go.wp_at_succ edge_eq edge_ne
set_option linter.unusedVariables false
set_option linter.unusedSimpArgs false

set_option maxRecDepth 100000 in
set_option maxHeartbeats 6400000 in
theorem sfields_any (kd sa sb : Int) (bar : Bool) (ep ef kw kh : Int) (wa : Option Addr) (wn wc : Nat) (ra : Option Addr) (rn rc : Nat) (ca : Option Addr) (cn cc : Nat) (sh sh2 : Int) (xa : Option Addr) (xn xc : Nat) (ya : Option Addr) (yn yc : Nat) (bins : Int) (oa : Option Addr) (on oc : Nat) (mx : Int) (W : World) : Calls Try.prog 11 #[.agg #[.int .i64 kd, .int .i64 sa, .int .i64 sb, .bool bar, .int .i64 ep, .int .i64 ef, .int .i64 kw, .int .i64 kh, .slice wa wn wc, .slice ra rn rc, .slice ca cn cc, .int .i64 sh, .int .i64 sh2, .slice xa xn xc, .slice ya yn yc, .int .i64 bins, .slice oa on oc, .int .i64 mx]] W fun e w' => e = .returned (.bool (sfOk kd sb ep ef kw kh wn rn cn sh sh2 xn yn bins on mx)) ∧ Below W.heap.size W w' := by
 by_cases hk : 1 ≤ kd ∧ kd ≤ 6
 ·
  rcases (show kd = 1 ∨ kd = 2 ∨ kd = 3 ∨ kd = 4 ∨ kd = 5 ∨ kd = 6 by omega) with rfl | rfl | rfl | rfl | rfl | rfl
  ·
   exact sfields_1 _ _ _ _ _ _ _ _ _ _ _ _ _ _ _ _ _ _ _ _ _ _ _ _ _ _ _ _ _ _
  ·
   exact sfields_2 _ _ _ _ _ _ _ _ _ _ _ _ _ _ _ _ _ _ _ _ _ _ _ _ _ _ _ _ _ _
  ·
   exact sfields_3 _ _ _ _ _ _ _ _ _ _ _ _ _ _ _ _ _ _ _ _ _ _ _ _ _ _ _ _ _ _
  ·
   exact sfields_4 _ _ _ _ _ _ _ _ _ _ _ _ _ _ _ _ _ _ _ _ _ _ _ _ _ _ _ _ _ _
  ·
   exact sfields_5 _ _ _ _ _ _ _ _ _ _ _ _ _ _ _ _ _ _ _ _ _ _ _ _ _ _ _ _ _ _
  ·
   exact sfields_6 _ _ _ _ _ _ _ _ _ _ _ _ _ _ _ _ _ _ _ _ _ _ _ _ _ _ _ _ _ _
 obtain ⟨B, hB⟩ : ∃ B, W.heap.size = B := ⟨_, rfl⟩
 have HI0 := hid (St.init hB)
 go_enter Try.func11, Try.ntmps11
 go_upto_region 1 with fail
 have H758 := hid (HI0.out.alloc #[.int .i64 kd, .int .i64 sa, .int .i64 sb, .bool bar, .int .i64 ep, .int .i64 ef, .int .i64 kw, .int .i64 kh, .slice wa wn wc, .slice ra rn rc, .slice ca cn cc, .int .i64 sh, .int .i64 sh2, .slice xa xn xc, .slice ya yn yc, .int .i64 bins, .slice oa on oc, .int .i64 mx] 33 hB)
 first | refine gen_code H758.out ?_ | refine gen_list H758.out ?_ | refine gen_calls H758.out ?_
 intro w759 hG
 clear H758
 have H758 := hid hG
 clear hG
 by_cases c760 : (kd : Int) < 1
 ·
  skip
  obtain ⟨z761, z762, z763, z764, z765, z766, z767, z768, z769, z770, z771, z772, z773, z774, z775, z776, z777, z778⟩ := cs18 H758.out 0 rfl
  go_wp2_with fail
  clear z761 z762 z763 z764 z765 z766 z767 z768 z769 z770 z771 z772 z773 z774 z775 z776 z777 z778
  go_ret
  exact ⟨ret_b (by unfold sfOk; exact (decide_eq_false (by omega)).symm), by first | exact H758.out.below | exact H758.out.below'⟩
 ·
  skip
  by_cases c779 : (6 : Int) < kd
  ·
   skip
   obtain ⟨z780, z781, z782, z783, z784, z785, z786, z787, z788, z789, z790, z791, z792, z793, z794, z795, z796, z797⟩ := cs18 H758.out 0 rfl
   go_wp2_with fail
   clear z780 z781 z782 z783 z784 z785 z786 z787 z788 z789 z790 z791 z792 z793 z794 z795 z796 z797
   go_ret
   exact ⟨ret_b (by unfold sfOk; exact (decide_eq_false (by omega)).symm), by first | exact H758.out.below | exact H758.out.below'⟩
  ·
   skip
   exfalso; omega
end Go.Proofs.Yteejjnhlfgjlaaa
