/-
 ShapeChecks: for every input the law answers true, and every argument reads behind the call as it read before it. No condition.
-/
import Derived.Test.YteejjnhlfgjlaaaRows
import Derived.Test.YteejjnhlfgjlaaaKX
import Derived.Test.YteejjnhlfgjlaaaWShapeChecks
namespace Go.Proofs.Yteejjnhlfgjlaaa
open Go.ChangeShapes Go.WideShapes Go.ChangeAt Go.RowKit
set_option linter.unusedVariables false

theorem own_ShapeChecks : ownKnob Try.prog.godebug = none := by kernel_rfl
theorem laidOut_ShapeChecks : laidOutB Try.prog = true := by kernel_rfl

set_option maxRecDepth 100000 in
theorem lifted_ShapeChecks (os : Os) (started : os.Started) (H : Type) (enc : TypeId × Value → H) :
    ReturnsInHanded {} Try.checked os 3 .any (Rows.shapeChecksSpec.pre6 enc Try.prog Try.f3 Rows.shapeChecksRow.domain false) (Rows.shapeChecksSpec.post enc Try.prog Try.f3 false true false false) := by
  refine returnsInHanded_of_change (C := Try.checked) own_ShapeChecks started (by kernel_rfl) Try.func3
    (ChangeSpec.witness6 (enc := enc) (C := Try.checked) false ⟨#[], #[.slice none 0 0, .agg #[.int .i64 0, .int .i64 0, .int .i64 0], .agg #[.int .i64 0, .int .i64 0, .int .i64 0]], []⟩ 8 (by kernel_rfl) (by kernel_rfl) (by kernel_rfl) (by kernel_rfl)) ?_
  intro W base args ds gs before hval0 hW hcnd _; have hval : ∀ (j : Nat) t v, Try.f3.params[j]? = some t → args[j]? = some v → Value.okWide Try.prog W .any base t v := hval0; have hW' := hW; obtain ⟨p, q, hA0, hV, rfl, hfz, hnd⟩ := hW; have hA : DataW.TrodAll enc Try.prog W 0 (fun _ => true) true Try.f3.params.toList args.toList ds p := hA0; rw [Try.params3] at hA hval; obtain ⟨v0, vs0, d0, ds0, p0, q0, hargs, rfl, rfl, h0, r0⟩ := trodAll_cons hA; obtain ⟨v1, vs1, d1, ds1, p1, q1, rfl, rfl, rfl, h1, r1⟩ := trodAll_cons r0; obtain ⟨v2, vs2, d2, ds2, p2, q2, rfl, rfl, rfl, h2, r2⟩ := trodAll_cons r1; obtain ⟨rfl, rfl, rfl⟩ := trodAll_nil r2; obtain rfl : args = #[v0, v1, v2] := by cases args; simp_all
  obtain ⟨rfl, rfl⟩ := trodVars_none hV; have lt0 : ∀ x ∈ p0, x.block < W.heap.size := by obtain ⟨m, hm⟩ := h0; exact DataW.trod_lt m _ _ _ hm
  obtain ⟨a0, n0, c0, z0, rfl, w0⟩ := open_row Try.underlying22 Try.underlying3 (by kernel_rfl) (hval 0 22 v0 rfl rfl) h0; have lt1 : ∀ x ∈ p1, x.block < W.heap.size := by obtain ⟨m, hm⟩ := h1; exact DataW.trod_lt m _ _ _ hm
  obtain ⟨a1_0, a1_1, a1_2, rfl, w1_0, w1_1, w1_2⟩ := open_i3 Try.underlying24 (by kernel_rfl) (by kernel_rfl) Try.underlying3 Try.underlying3 Try.underlying3 (hval 1 24 v1 rfl rfl) h1; have lt2 : ∀ x ∈ p2, x.block < W.heap.size := by obtain ⟨m, hm⟩ := h2; exact DataW.trod_lt m _ _ _ hm
  obtain ⟨a2_0, a2_1, a2_2, rfl, w2_0, w2_1, w2_2⟩ := open_i3 Try.underlying24 (by kernel_rfl) (by kernel_rfl) Try.underlying3 Try.underlying3 Try.underlying3 (hval 2 24 v2 rfl rfl) h2; clear hA0 hval0; refine (walk_ShapeChecks a0 n0 c0 z0 a1_0 a1_1 a1_2 a2_0 a2_1 a2_2 W w0 w1_0 w1_1 w1_2 w2_0 w2_1 w2_2).mono fun e W' ⟨he, bel⟩ => ?_
  subst he; exact ⟨_, rfl, _, _, _, [], _, [], hW', trodAll_mk1 (shut_bool Try.underlying4 _), (trodAll_cons_mk (Below.trod laidOut_ShapeChecks (by kernel_rfl) (of_decide_eq_true (by kernel_rfl)) h0 bel lt0) (trodAll_cons_mk (Below.trod laidOut_ShapeChecks (by kernel_rfl) (of_decide_eq_true (by kernel_rfl)) h1 bel lt1) (trodAll_cons_mk (Below.trod laidOut_ShapeChecks (by kernel_rfl) (of_decide_eq_true (by kernel_rfl)) h2 bel lt2) trodAll_mk0))), rfl, bel.frame _, fun h => by cases h⟩

theorem over_ShapeChecks : Rows.shapeChecksRow.holds Try.pinned (OpenSpec.ofChange Rows.shapeChecksSpec) :=
  OpenClaim.holds_of_wide 3 Try.f3 rfl rfl rfl rfl rfl rfl rfl ⟨rfl, rfl, rfl, rfl, rfl⟩ rfl rfl rfl rfl rfl (by kernel_rfl) Try.func3 (by kernel_rfl)
    (of_decide_eq_true (by kernel_rfl)) (by unfold Func.isWrapper; first | (rw [if_pos (by decide +kernel)]; kernel_rfl) | (rw [if_neg (by decide +kernel)]; exact ⟨rfl, rfl⟩))
    (fun os started H enc _ => lifted_ShapeChecks os started H enc)

theorem shapeChecks_holds : Rows.ShapeChecksSaid := over_ShapeChecks
#print axioms shapeChecks_holds
end Go.Proofs.Yteejjnhlfgjlaaa
