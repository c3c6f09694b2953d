/-
  The walk of GridOrder: tiles are numbered row by row.
-/
import Derived.Test.YtekpekhdkghnmaaAgrees
import Derived.Test.YtekpekhdkghnmaaBorder
import Derived.Test.YtekpekhdkghnmaaFrame
import Derived.Deep.RegionHeld3
import Derived.Deep.DrawnRows
namespace Go.Proofs.Ytekpekhdkghnmaa
open Go.RowKit
set_option linter.unusedVariables false
attribute [local go_sem ↓] Go.wp_at_zero Go.wp_at_succ

theorem since_keep {B : Nat} {a w w' : World} (hb : Below w.heap.size w w') (h : Below B a w ∧ B ≤ w.heap.size) : Below B a w' ∧ B ≤ w'.heap.size :=
  ⟨(Since.call ⟨h.1, h.2⟩ hb).below, (Since.call ⟨h.1, h.2⟩ hb).size⟩

/-- The numbers of the tiles of a point, of one to the right and of one below. -/
theorem order_law {a b c d u v u' v' : Int} (hg : gOk a b c d = true) (h1 : 0 ≤ u) (h2 : u ≤ u') (h3 : u' < a) (h4 : 0 ≤ v) (h5 : v ≤ v') (h6 : v' < b) :
    0 ≤ gOf a b c d u v ∧ gOf a b c d u v ≤ 100000 ∧ gOf a b c d u' v ≤ 100000 ∧ gOf a b c d u v' ≤ 100000 ∧ gOf a b c d u v ≤ gOf a b c d u' v ∧ gOf a b c d u' v - gOf a b c d u v < gNx a b c d ∧ gOf a b c d u v ≤ gOf a b c d u v' ∧
    (gOf a b c d u v' - gOf a b c d u v) % gNx a b c d = 0 ∧ (gOf a b c d u v' = gOf a b c d u v ↔ v / d = v' / d) ∧
    gOfOk a b c d u v = true ∧ gOfOk a b c d u' v = true ∧ gOfOk a b c d u v' = true := by
  obtain ⟨n1, n2, n3, n4, _, n6, _, n8⟩ := gN_bd hg
  obtain ⟨g1, g2, g3, g4, g5, g6, g7, g8⟩ := gOk_iff.1 hg
  have k1 : gOfOk a b c d u v = true := gOfOk_iff.2 ⟨hg, by omega⟩
  have k2 : gOfOk a b c d u' v = true := gOfOk_iff.2 ⟨hg, by omega⟩
  have k3 : gOfOk a b c d u v' = true := gOfOk_iff.2 ⟨hg, by omega⟩
  simp only [gOf, k1, k2, k3, if_true, and_self, and_true]
  have d1 : 0 ≤ u / c := Int.ediv_nonneg (by omega) (by omega)
  have d2 : u / c ≤ u' / c := Int.ediv_le_ediv (by omega) h2
  have d3 : u' / c < gNx a b c d := Int.ediv_lt_of_lt_mul (by omega) (by omega)
  have e1 : 0 ≤ v / d := Int.ediv_nonneg (by omega) (by omega)
  have e2 : v / d ≤ v' / d := Int.ediv_le_ediv (by omega) h5
  have e3 : v' / d ≤ v' := Int.ediv_le_self _ (by omega)
  have p1 : 0 ≤ v / d * gNx a b c d := Int.mul_nonneg e1 (by omega)
  have p2 : v / d * gNx a b c d ≤ v' / d * gNx a b c d := Int.mul_le_mul_of_nonneg_right e2 (by omega)
  have p3 : v' / d * gNx a b c d ≤ 128 * 128 := Int.mul_le_mul (by omega) n2 (by omega) (by omega)
  have q : v' / d * gNx a b c d + u / c - (v / d * gNx a b c d + u / c) = (v' / d - v / d) * gNx a b c d := by rw [Int.sub_mul]; omega
  refine ⟨by omega, by omega, by omega, by omega, by omega, by omega, by omega, by rw [q, Int.mul_emod_left], ?_⟩
  constructor
  · intro h
    have : (v' / d - v / d) * gNx a b c d = 0 := by rw [← q]; omega
    rcases Int.mul_eq_zero.1 this with h | h <;> omega
  · intro h; rw [h]

set_option maxRecDepth 100000 in
set_option maxHeartbeats 1600000 in
theorem walk_GridOrder (w h tw th x y by' : Int) (W : World) (_ : I64 w) (_ : I64 h) (_ : I64 tw) (_ : I64 th) (_ : I64 x) (_ : I64 y) (_ : I64 by') :
    Calls Try.prog 8 #[.int .i64 w, .int .i64 h, .int .i64 tw, .int .i64 th, .int .i64 x, .int .i64 y, .int .i64 by'] W fun e w' => e = .returned (.bool true) ∧ Below W.heap.size W w' := by
  have a1 := Int.emod_nonneg w (b := 30) (by omega)
  have a2 := Int.emod_lt_of_pos w (b := 30) (by omega)
  have a3 := Int.emod_nonneg h (b := 30) (by omega)
  have a4 := Int.emod_lt_of_pos h (b := 30) (by omega)
  have a5 := Int.emod_nonneg tw (b := 9) (by omega)
  have a6 := Int.emod_lt_of_pos tw (b := 9) (by omega)
  have a7 := Int.emod_nonneg th (b := 9) (by omega)
  have a8 := Int.emod_lt_of_pos th (b := 9) (by omega)
  have b1 := Int.emod_nonneg by' (b := 12) (by omega)
  have b2 := Int.emod_lt_of_pos by' (b := 12) (by omega)
  obtain ⟨a, ha, ha1, ha2⟩ : ∃ a, 1 + w % 30 = a ∧ 1 ≤ a ∧ a ≤ 30 := ⟨_, rfl, by omega, by omega⟩
  obtain ⟨b, hb, hb1, hb2⟩ : ∃ b, 1 + h % 30 = b ∧ 1 ≤ b ∧ b ≤ 30 := ⟨_, rfl, by omega, by omega⟩
  obtain ⟨c, hc, hc1, hc2⟩ : ∃ c, 1 + tw % 9 = c ∧ 1 ≤ c ∧ c ≤ 9 := ⟨_, rfl, by omega, by omega⟩
  obtain ⟨d, hd, hd1, hd2⟩ : ∃ d, 1 + th % 9 = d ∧ 1 ≤ d ∧ d ≤ 9 := ⟨_, rfl, by omega, by omega⟩
  obtain ⟨s, hs, hs1, hs2⟩ : ∃ s, by' % 12 = s ∧ 0 ≤ s ∧ s < 12 := ⟨_, rfl, b1, b2⟩
  clear b1 b2
  have u1 := Int.emod_nonneg x (b := a) (by omega)
  have u2 := Int.emod_lt_of_pos x (b := a) (by omega)
  have v1 := Int.emod_nonneg y (b := b) (by omega)
  have v2 := Int.emod_lt_of_pos y (b := b) (by omega)
  obtain ⟨u, hu, hu1, hu2⟩ : ∃ u, x % a = u ∧ 0 ≤ u ∧ u < a := ⟨_, rfl, u1, u2⟩
  obtain ⟨v, hv, hv1, hv2⟩ : ∃ v, y % b = v ∧ 0 ≤ v ∧ v < b := ⟨_, rfl, v1, v2⟩
  clear u1 u2 v1 v2
  have emin : ∀ x y : Int, (if y < x then y else x) = min x y := fun x y => by omega
  have hg : gOk a b c d = true := gOk_iff.2 (by omega)
  obtain ⟨o1, o2, o3, o4, o5, o6, o7, o8, o9, o10, o11, o12⟩ := order_law (u := u) (v := v) (u' := min (u + s) (a - 1)) (v' := min (v + s) (b - 1)) hg hu1 (by omega) (by omega) hv1 (by omega) (by omega)
  have o8' : ((gOf a b c d u (min (v + s) (b - 1)) - gOf a b c d u v) % gNx a b c d == 0) = true := by simpa using o8
  have o9' : ((gOf a b c d u (min (v + s) (b - 1)) == gOf a b c d u v) == (v / d == min (v + s) (b - 1) / d)) = true := by
    rw [beq_iff_eq, Bool.eq_iff_iff]; simpa using o9
  obtain ⟨n1, n2, n3, n4, _, n6, _, n8⟩ := gN_bd hg
  clear o8 o9 hg n6 n8
  go_enter Try.func8, Try.ntmps8
  go_wp2_with (first
    | (go_at_call 12; refine (mod_any _ _ _ (by omega) (by omega)).mono ?_; rintro e w' ⟨rfl, rfl⟩)
    | (go_at_call 24; refine (count_any _ _ _ _ _).mono ?_; rintro e w' ⟨rfl, rfl⟩)
    | (go_at_call 23; refine (of_any _ _ _ _ _ _ _).mono ?_; rintro e w' ⟨rfl, m, rfl⟩)
    | (go_at_call 25; refine (sane5 _).mono ?_; rintro e w' ⟨rfl, hbs⟩))
  have e0 : (gNx a b c d == 0) = false := by simp; omega
  have dn : d ≠ 0 := by omega
  have gn : gNx a b c d ≠ 0 := by omega
  have t1 : v.tdiv d = v / d := Int.tdiv_eq_ediv_of_nonneg hv1
  have t2 : (min (v + s) (b - 1)).tdiv d = min (v + s) (b - 1) / d := Int.tdiv_eq_ediv_of_nonneg (by omega)
  have t3 : (gOf a b c d u (min (v + s) (b - 1)) - gOf a b c d u v).tmod (gNx a b c d) = (gOf a b c d u (min (v + s) (b - 1)) - gOf a b c d u v) % gNx a b c d := Int.tmod_eq_emod_of_nonneg (by omega)
  have r1 : 0 ≤ v / d ∧ v / d ≤ v := ⟨Int.ediv_nonneg (by omega) (by omega), Int.ediv_le_self _ (by omega)⟩
  have r2 : 0 ≤ min (v + s) (b - 1) / d ∧ min (v + s) (b - 1) / d ≤ min (v + s) (b - 1) := ⟨Int.ediv_nonneg (by omega) (by omega), Int.ediv_le_self _ (by omega)⟩
  have t4 : IntKind.i64.wrap (v / d) = v / d := IntWalk.i64_in _ (by omega)
  have t5 : IntKind.i64.wrap (min (v + s) (b - 1) / d) = min (v + s) (b - 1) / d := IntWalk.i64_in _ (by omega)
  have t6 : IntKind.i64.wrap ((gOf a b c d u (min (v + s) (b - 1)) - gOf a b c d u v) % gNx a b c d) = (gOf a b c d u (min (v + s) (b - 1)) - gOf a b c d u v) % gNx a b c d := IntWalk.i64_in _ (by rw [beq_iff_eq] at o8'; omega)
  clear r1 r2
  have t7 : IntKind.i64.wrap (v + s) = v + s := IntWalk.i64_in _ (by omega)
  have t8 : IntKind.i64.wrap (b - 1) = b - 1 := IntWalk.i64_in _ (by omega)
  have SS : Since W.heap.size W W := .self rfl
  have q1 : IntKind.i64.wrap (gOf a b c d (min (u + s) (a - 1)) v - gOf a b c d u v) = gOf a b c d (min (u + s) (a - 1)) v - gOf a b c d u v := IntWalk.i64_in _ (by omega)
  have q2 : IntKind.i64.wrap (gOf a b c d u (min (v + s) (b - 1)) - gOf a b c d u v) = gOf a b c d u (min (v + s) (b - 1)) - gOf a b c d u v := IntWalk.i64_in _ (by omega)
  go_region_held3 (fun w' => Below W.heap.size W w' ∧ W.heap.size ≤ w'.heap.size) (first | exact ⟨(((SS.drewN _).drew).below), (((SS.drewN _).drew).size)⟩ | (refine since_keep hbs ?_; assumption) | assumption) (first
    | (go_at_call 12; refine (mod_any _ _ _ (by omega) (by omega)).mono ?_; rintro e w' ⟨rfl, rfl⟩)
    | (go_at_call 25; refine (sane5 _).mono ?_; rintro e w' ⟨rfl, hbs⟩))
  rename_i hz
  have HZ := hid hz
  clear hz
  go_wp2_with fail
  go_ret
  exact ⟨rfl, HZ.out.1⟩
end Go.Proofs.Ytekpekhdkghnmaa
