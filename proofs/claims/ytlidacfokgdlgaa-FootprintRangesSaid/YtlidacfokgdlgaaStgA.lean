/-
  A stage as an array of values behind a letter: its load out of a box, and the contracts of the functions that take a stage.
-/
import Derived.Test.YtlidacfokgdlgaaStAc2
import Derived.Test.YtlidacfokgdlgaaStAc3
import Derived.Laws.Rows
namespace Go.Proofs.Ytlidacfokgdlgaa
open Go.RowKit
set_option linter.unusedVariables false
section
variable {B : Nat} {W w w' : World} {l : List Ch} {rs : List Ro}
theorem St.loadStg (h : St B W l rs w) (i : Nat) {b : Nat} {A : Array Value} (hi : l[i]? = some (.cells b A 33)) (hA : A.size = 18) : (Instr.loadAt 33 (.pointer (some ⟨b, 0, none⟩))).run Try.prog w = .ok (.agg A) w := by
  simp only [Instr.loadAt, Instr.sureAddr, Sem.run_bind, Sem.run_pure, Result.andThen]
  exact run_loadVar_row _ _ 33 33 _ (0, 0) _ (h.all i _ hi).2 Try.underlying33 rfl (by
    have : (Try.prog.info? 33).map (·.size) = some 18 := by kernel_rfl
    rw [this, hA])
end
theorem loadExec {P : Program} {ρ : Operand → Value} {w : World} {d : Option Nat} {T ty : TypeId} {x : Operand} {pos : String} {af : _} {gd : _} {b : Nat} {A : Array Value}
    (hf : (Instr.loadAt T (.pointer (some ⟨b, 0, none⟩))).run P w = .ok (.agg A) w) (hx : ρ x = .pointer (some ⟨b, 0, none⟩)) :
    (execOp ρ { dst := d, op := .load T x, type := ty, pos := pos, after := af, guard := gd }).run P w = .ok (.value (.agg A)) w := by
  unfold execOp; simp only [hx]; rw [Sem.run_bind, hf]; rfl
theorem loadArm {P : Program} {ops : Array Oper} {Q : Exit → Act → World → Prop} {rest : List Oper} {a : Act} {w : World} {d : Option Nat} {T ty : TypeId} {x : Operand} {pos : String} {af : _} {gd : _} {b : Nat} {A : Array Value}
    (hf : (Instr.loadAt T (.pointer (some ⟨b, 0, none⟩))).run P w = .ok (.agg A) w) (hx : a.eval x = .pointer (some ⟨b, 0, none⟩))
    (hw : Region.wanted { dst := d, op := .load T x, type := ty, pos := pos, after := af, guard := gd } (yielded ops a.tmps) = true) (h : wpList P ops Q rest (a.put d (.agg A)) w) :
    wpList P ops Q ({ dst := d, op := .load T x, type := ty, pos := pos, after := af, guard := gd } :: rest) a w :=
  wpList_step fun K hK => by
    rw [if_pos hw]; unfold Oper.wp execOp; simp only [hx]; rw [Sem.run_bind, hf]
    exact hK _ _ h

theorem facc_A {kd sa sb : Int} {bar : Bool} {ep ef kw kh : Int} {wa : Option Addr} {wn wc : Nat} {ra : Option Addr} {rn rc : Nat} {ca : Option Addr} {cn cc : Nat} {sh sh2 : Int} {xa : Option Addr} {xn xc : Nat} {ya : Option Addr} {yn yc : Nat} {bins : Int} {oa : Option Addr} {on oc : Nat} {mx : Int} {A : Array Value} (hA : A = #[.int .i64 kd, .int .i64 sa, .int .i64 sb, .bool bar, .int .i64 ep, .int .i64 ef, .int .i64 kw, .int .i64 kh, .slice wa wn wc, .slice ra rn rc, .slice ca cn cc, .int .i64 sh, .int .i64 sh2, .slice xa xn xc, .slice ya yn yc, .int .i64 bins, .slice oa on oc, .int .i64 mx]) (X Y : Tbl) (W : World) (hx : Tps W xa xn xc X) (hy : Tps W ya yn yc Y) : Calls Try.prog 42 #[.agg A] W fun e w' => e = .returned (.bool (sfOk kd sb ep ef kw kh wn rn cn sh sh2 xn yn bins on mx && stAcc kd kw kh rn cn X Y)) ∧ Below W.heap.size W w' := by
  subst hA; exact facc_any _ _ _ _ _ _ _ _ _ _ _ _ _ _ _ _ _ _ _ _ _ _ _ _ _ _ _ _ _ _ X Y W hx hy

theorem rfine_A {kd sa sb : Int} {bar : Bool} {ep ef kw kh : Int} {wa : Option Addr} {wn wc : Nat} {ra : Option Addr} {rn rc : Nat} {ca : Option Addr} {cn cc : Nat} {sh sh2 : Int} {xa : Option Addr} {xn xc : Nat} {ya : Option Addr} {yn yc : Nat} {bins : Int} {oa : Option Addr} {on oc : Nat} {mx : Int} {A : Array Value} (hA : A = #[.int .i64 kd, .int .i64 sa, .int .i64 sb, .bool bar, .int .i64 ep, .int .i64 ef, .int .i64 kw, .int .i64 kh, .slice wa wn wc, .slice ra rn rc, .slice ca cn cc, .int .i64 sh, .int .i64 sh2, .slice xa xn xc, .slice ya yn yc, .int .i64 bins, .slice oa on oc, .int .i64 mx]) (n from' to' : Int) (X Y : Tbl) (W : World) (hx : Tps W xa xn xc X) (hy : Tps W ya yn yc Y) : Calls Try.prog 44 #[.agg A, .int .i64 n, .int .i64 from', .int .i64 to'] W fun e w' => e = .returned (.bool (stFine kd sb ep ef kw kh wn rn cn sh sh2 xn yn bins on mx X Y n from' to')) ∧ Below W.heap.size W w' := by
  subst hA; exact rfine_any _ _ _ _ _ _ _ _ _ _ _ _ _ _ _ _ _ _ _ _ _ _ _ _ _ _ _ _ _ _ n from' to' X Y W hx hy

theorem fspan16_A {kd sa sb : Int} {bar : Bool} {ep ef kw kh : Int} {wa : Option Addr} {wn wc : Nat} {ra : Option Addr} {rn rc : Nat} {ca : Option Addr} {cn cc : Nat} {sh sh2 : Int} {xa : Option Addr} {xn xc : Nat} {ya : Option Addr} {yn yc : Nat} {bins : Int} {oa : Option Addr} {on oc : Nat} {mx : Int} {A : Array Value} (hA : A = #[.int .i64 kd, .int .i64 sa, .int .i64 sb, .bool bar, .int .i64 ep, .int .i64 ef, .int .i64 kw, .int .i64 kh, .slice wa wn wc, .slice ra rn rc, .slice ca cn cc, .int .i64 sh, .int .i64 sh2, .slice xa xn xc, .slice ya yn yc, .int .i64 bins, .slice oa on oc, .int .i64 mx]) (i side : Int) (a : Option Addr) (m c : Nat) (T : Tbl) (W : World) (hs : Tps W a m c T) (hi : 0 ≤ i ∧ i ≤ 128) (hsd : kd = 1 ∨ kd = 2 → 1 ≤ side ∧ side ≤ 9) : Calls Try.prog 43 #[.agg A, .int .i64 i, .int .i64 side, .slice a m c] W fun e w' => e = .returned (.tuple #[.int .i64 (spF kd i side T), .int .i64 (spC kd i side T)]) ∧ Below W.heap.size W w' := by
  subst hA; exact fspan16_any _ _ _ _ _ _ _ _ _ _ _ _ _ _ _ _ _ _ _ _ _ _ _ _ _ _ _ _ _ _ i side a m c T W hs hi hsd
end Go.Proofs.Ytlidacfokgdlgaa
