/-
  The table of math/bits as the call finds it: what the card's condition gives a walk.
-/
import Derived.Test.YtgpblcddebhphaaDoorRows
import Derived.Test.YtgpblcddebhphaaDoorKX
import Derived.Test.YtgpblcddebhphaaDoorIeee2
import Derived.LaidMore
import Derived.Stop.Joined
namespace Go.Proofs.YtgpblcddebhphaaDoor
open Go.ChangeShapes Go.WideShapes Go.ChangeAt Go.WideMaps Go.WideElems Go.RowKit
set_option linter.unusedVariables false

theorem gTab : Tryd.prog.globalNamed "math/bits.deBruijn64tab" = some 0 := by kernel_rfl
theorem tTab : (Tryd.prog.globals[0]?).map (·.type) = some 68 := by kernel_rfl
def laidList : List (String × DataW Unit) := [("math/bits.deBruijn64tab", Rows.laid_math_bits_deBruijn64tab)]
theorem laid_data : (Rows.laid_math_bits_deBruijn64tab : DataW Unit) = .agg (Go.Lib.deBruijn64tab.map fun (n : Nat) => .lit (.int .u8 (n : Int))) := by rfl
theorem tab_of_laid {W : World} (h : laidMetH Tryd.prog laidList W) : Tab W := by
  rw [MakeChecks.laidMetH_plain _ _ _ (by kernel_rfl)] at h
  obtain ⟨ps, ⟨g0, t0, cs0, f0, p0, q0, hg0, ht0, hv0, hd0, _, _⟩, _, _⟩ := h
  obtain rfl := Option.some.inj (gTab.symm.trans hg0)
  obtain rfl := Option.some.inj (tTab.symm.trans ht0)
  obtain ⟨xs, m1, rfl, hx1, hlen, hn, hel⟩ := DataW.trod_array Tryd.underlying68 hd0
  have c1 : Tryd.prog.cellsOf 5 = 1 := by kernel_rfl
  intro j hj
  have h0 := hel j hj
  rw [c1, Nat.mul_one] at h0
  simp only [Prod.mk.injEq] at hx1
  have hx := hx1.1
  rw [laid_data] at hx
  simp only [DataW.agg.injEq] at hx
  obtain ⟨x, hxj⟩ : ∃ x, xs[j]? = some x := ⟨_, List.getElem?_eq_getElem (by omega)⟩
  rw [hxj] at h0
  obtain ⟨k, e1, e2, _⟩ := DataW.trod_int Tryd.underlying5 h0
  have hb : (Go.Lib.deBruijn64tab.map fun (n : Nat) => (DataW.lit (.int .u8 (n : Int)) : DataW Unit))[j]? = some x.1 := by rw [hx, List.getElem?_map, hxj]; rfl
  rw [List.getElem?_map] at hb
  have hbl : Go.Lib.deBruijn64tab.length = 64 := by decide
  rw [List.getElem?_eq_getElem (by omega)] at hb
  simp only [Option.map_some, Option.some.injEq] at hb
  rw [e2] at hb
  have hk : k = ((Go.Lib.deBruijn64tab.getD j 0 : Nat) : Int) := by
    rw [List.getD_eq_getElem?_getD, List.getElem?_eq_getElem (by omega)]
    simp only [DataW.lit.injEq, Lit.int.injEq, true_and] at hb
    exact hb.symm
  have hc := World.var?_cell hg0 hv0 j
  rw [hc, ← hk]
  have : cs0.toList[j]? = some (.int .u8 k) := by
    have := congrArg (fun l => l[0]?) e1
    simpa using this
  simpa using this
theorem door_met (os : Os) (args : Array Value) : laidMetH Tryd.prog laidList ((World.doorLaid Tryd.prog 400 os).forCall (fun _ _ => 0) ⟨#[], args, []⟩).memory :=
  laidMetH_of_parts3 (fuel := 8) (laidMet_of_run' 8 (by kernel_rfl) (by kernel_rfl)) (by kernel_rfl) (by kernel_rfl)
end Go.Proofs.YtgpblcddebhphaaDoor
