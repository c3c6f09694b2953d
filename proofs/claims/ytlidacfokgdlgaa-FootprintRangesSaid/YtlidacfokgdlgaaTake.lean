/-
  Shorter words for the walk of a region that draws its order.
-/
import Derived.Test.YtlidacfokgdlgaaPrs
import Derived.Deep.RegionHeld
namespace Go.Proofs.Ytlidacfokgdlgaa
open Go.RowKit

theorem p1 : type_of% @List.getElem_toArray := @List.getElem_toArray
theorem p2 : type_of% @List.getElem_cons_zero := @List.getElem_cons_zero
theorem p3 : type_of% @List.getElem_cons_succ := @List.getElem_cons_succ
theorem p4 : type_of% @List.setIfInBounds_toArray := @List.setIfInBounds_toArray
theorem p5 : type_of% @List.set_cons_zero := @List.set_cons_zero
theorem p6 : type_of% @List.set_cons_succ := @List.set_cons_succ
section
variable {P : Program} {ops : Array Oper} {Q : Exit → Act → World → Prop} {md : Region.Mode} {S : World → Prop}
theorem tkA (i : Nat) {oi : Oper} {v : Value} {fuel : Nat} {listed : Array Bool} {a : Act} {w : World} (h : wpAnyH P md ops Q S fuel (listed.setIfInBounds i true) (a.put oi.dst v) w) (hi : ops[i]? = some oi := by exact rfl)
    (hs : Region.noSelect ops = true := by kernel_rfl) (hf : Region.free md ops listed i = true := by kernel_rfl) (hr : (Region.ready md ops listed).contains i = true := by kernel_rfl)
    (hw : Region.wanted oi (yielded ops a.tmps) = true := by rfl)
    (hy : ∀ w, S w → (execOp a.eval oi).run P w = .ok (.value v) w := by (intro wS hSw; (try dsimp only at hSw); go_simp; (try with_reducible rfl))) (hQ : ∀ c a w, Q (.panic c) (a.put oi.dst v) w → Q (.panic c) a w := by exact fun _ _ _ h => h) (hS : S w := by assumption) :
    wpAnyH P md ops Q S (fuel + 1) listed a w :=
  wpAnyH_take hi hs hf hr hQ (Or.inl ⟨hw, hy⟩) hS h
theorem tkU (i : Nat) {oi : Oper} {v : Value} {fuel : Nat} {listed : Array Bool} {a : Act} {w : World} (h : wpAnyH P md ops Q S fuel (listed.setIfInBounds i true) (a.put oi.dst v) w) (hi : ops[i]? = some oi := by exact rfl)
    (hs : Region.noSelect ops = true := by kernel_rfl) (hf : Region.free md ops listed i = true := by kernel_rfl) (hr : (Region.ready md ops listed).contains i = true := by kernel_rfl)
    (hw : Region.wanted oi (yielded ops a.tmps) = false := by rfl) (hv : v = undef := by rfl) (hQ : ∀ c a w, Q (.panic c) (a.put oi.dst v) w → Q (.panic c) a w := by exact fun _ _ _ h => h) (hS : S w := by assumption) :
    wpAnyH P md ops Q S (fuel + 1) listed a w :=
  wpAnyH_take hi hs hf hr hQ (Or.inr ⟨hw, hv⟩) hS h
end
end Go.Proofs.Ytlidacfokgdlgaa
