/-
  Contract: the examples of the chapter on floating point values.
-/
import Derived.Test.YtfmahdcnikeaiaaDoorIeeeQz
import Derived.Test.YtfmahdcnikeaiaaDoorIeeeTk
namespace Go.Proofs.YtfmahdcnikeaiaaDoor
open Go.RowKit
attribute [local go_sem ↓] Go.wp_at_zero Go.wp_at_succ
set_option linter.unusedVariables false
set_option linter.unusedSimpArgs false

def thirdL : List Int := [4599676419421066581, 4599676419421066581, 4599676419421066581]
theorem third_u : U64s thirdL := u64s_all (by intro x hx; simp only [thirdL, List.mem_cons, List.not_mem_nil, or_false] at hx; omega)
theorem third_q : qCode (nats thirdL) 8 = 0 ∧ qList (nats thirdL) 8 = [86, 85, 85] := by decide +kernel
set_option maxRecDepth 100000 in
set_option maxHeartbeats 6400000 in
theorem sane6 (W : World) (hT : Tab W) : Calls Tryd.prog 14 #[] W fun e w' => e = .returned (.bool true) ∧ Below W.heap.size W w' := by
  obtain ⟨B, hB⟩ : ∃ B, W.heap.size = B := ⟨_, rfl⟩
  have HI0 := hid (St.init hB)
  have HT := hid hT
  have HB0 := hid (show 0 < B from by rw [← hB]; exact hT.pos)
  clear hT
  go_enter Tryd.func14, Tryd.ntmps14
  go_wp2_with fail
  refine (scale_any 4591870180066957722 10 (by omega) _ (HT.out.below (by first | exact HI0.out.below' | exact HI0.out.below) HB0.out)).mono ?_
  rintro e w1 ⟨rfl, hb⟩
  have H2 := hid (HI0.out.call hb)
  clear hb
  rw [show scV ((4591870180066957722 : Int).toNat) 10 = 102 from by decide +kernel, show scC ((4591870180066957722 : Int).toNat) 10 = 0 from by decide +kernel]
  obtain ⟨D3, hD3⟩ : ∃ D, w1.heap.size = D := ⟨_, rfl⟩
  go_wp2_with fail
  have H4 := hid (show St B W [.cells D3 #[.int .u64 4599676419421066581, .int .u64 4599676419421066581, .int .u64 4599676419421066581] 23] [] (w1.alloc (.cells #[.int .u64 4599676419421066581, .int .u64 4599676419421066581, .int .u64 4599676419421066581] 23)) from (H2.out.alloc #[.int .u64 4599676419421066581, .int .u64 4599676419421066581, .int .u64 4599676419421066581] 23 hD3))
  first | refine gen_code H4.out ?_ | refine gen_list H4.out ?_ | refine gen_calls H4.out ?_
  intro w5 hG
  clear H4
  have H4 := hid hG
  clear hG
  clear hD3
  refine (quantize_any _ _ _ thirdL 8 _ (H4.out.litU 0 thirdL rfl (by decide)) third_u (HT.out.below (by first | exact H4.out.below' | exact H4.out.below) HB0.out)).mono ?_
  rintro e w6 ⟨v, rfl, ho, hb⟩
  rw [third_q.2] at ho
  rw [third_q.1]
  have H7 := hid (H4.out.grow hb ho)
  obtain ⟨qg, qc, rfl⟩ := ho.pos (by decide)
  clear ho hb
  go_wp2_with fail
  refine (scale_any 4602678819172646912 0 (by omega) _ (HT.out.below (by first | exact H7.out.below' | exact H7.out.below) HB0.out)).mono ?_
  rintro e w8 ⟨rfl, hb⟩
  have H9 := hid (H7.out.call hb)
  clear hb
  rw [show scV ((4602678819172646912 : Int).toNat) 0 = 0 from by decide +kernel, show scC ((4602678819172646912 : Int).toNat) 0 = 0 from by decide +kernel]
  go_wp2_with fail
  refine (scale_any 4609434218613702656 0 (by omega) _ (HT.out.below (by first | exact H9.out.below' | exact H9.out.below) HB0.out)).mono ?_
  rintro e w10 ⟨rfl, hb⟩
  have H11 := hid (H9.out.call hb)
  clear hb
  rw [show scV ((4609434218613702656 : Int).toNat) 0 = 2 from by decide +kernel, show scC ((4609434218613702656 : Int).toNat) 0 = 0 from by decide +kernel]
  go_wp2_with fail
  refine (parts_anyI 13832806255468478464 (by omega) _ (HT.out.below (by first | exact H11.out.below' | exact H11.out.below) HB0.out)).mono ?_
  rintro e w12 ⟨rfl, hsw⟩
  have hsw2 : w10 = w12 := by first | exact hsw | exact hsw.symm
  clear hsw
  subst hsw2
  rw [show ieM ((13832806255468478464 : Int).toNat) = (-3) from by decide +kernel, show ieE ((13832806255468478464 : Int).toNat) = (-1) from by decide +kernel, show ieOk ((13832806255468478464 : Int).toNat) = true from by decide +kernel]
  go_upto_region 7 with fail
  have s1 := (H11.out.get 0 rfl (j := 0) (by decide)).1
  have s2 := (H11.out.get 0 rfl (j := 1) (by decide)).1
  rw [show ([86, 85, 85] : List Int).getD 0 0 = 86 from rfl] at s1
  rw [show ([86, 85, 85] : List Int).getD 1 0 = 85 from rfl] at s2
  go_wp2_with fail
  refine (class_anyI 9223372036854775808 (by omega) _).mono ?_
  rintro e w13 ⟨rfl, hsw⟩
  have hsw2 : w10 = w13 := by first | exact hsw | exact hsw.symm
  clear hsw
  subst hsw2
  rw [show clsV ((9223372036854775808 : Int).toNat) = 0 from by decide +kernel]
  go_wp2_with fail
  go_ret
  exact ⟨rfl, by first | exact H11.out.below | exact H11.out.below'⟩
end Go.Proofs.YtfmahdcnikeaiaaDoor
