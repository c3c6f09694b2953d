/-
 Contracts: new planes, equal lists and equal planes, in the program. copy into a row that the call made itself. Contracts: the greatest of a list, and a copy of a list. Contract: a tile of an integral plane, in the program. Contract: the integral plane of a plane, in the program. Contracts: the sum of a rectangle out of an integral plane, in the program and in the reference. Contract: a tile of an integral plane, in the reference. Contract: the integral plane of a plane, in the reference. Contracts: crops, in the program and in the reference. Contracts: blits, in the program and in the reference. Contract: blits, in the reference. Contracts: the pixels of planes, also outside of them, in the program and in the reference; edges that the tape makes. Plain law: crops and blits of planes: what fits, what is read back, what stays.
-/
import Derived.Test.YteejjnhlfgjlaaaKB
import Derived.Test.YteejjnhlfgjlaaaKC
import Derived.Test.YteejjnhlfgjlaaaKA
import Derived.Laws.CopyOwn
import Derived.WalkLawsBesides
import Derived.WalkSpells
import Derived.StillTailTactics
import Derived.Deep.DeepCutAuto
import Derived.Deep.DrawnRows
import Derived.Deep.RegionHeld3
import Derived.Test.YteejjnhlfgjlaaaKD
namespace Go.Proofs.Yteejjnhlfgjlaaa
section
open Go.RowKit
attribute [local go_sem ↓] Go.wp_at_zero Go.wp_at_succ
set_option linter.unusedVariables false
set_option linter.unusedSimpArgs false
end

section
open Go.RowKit
end

section
open Go.RowKit
attribute [local go_sem ↓] Go.wp_at_zero Go.wp_at_succ
set_option linter.unusedVariables false
set_option linter.unusedSimpArgs false
end

section
open Go.RowKit
attribute [local go_sem ↓] Go.wp_at_zero Go.wp_at_succ
set_option linter.unusedVariables false
set_option linter.unusedSimpArgs false
end

section
open Go.RowKit
set_option linter.unusedVariables false
set_option linter.unusedSimpArgs false
end

section
open Go.RowKit
set_option linter.unusedVariables false
set_option linter.unusedSimpArgs false
end

section
open Go.RowKit
attribute [local go_sem ↓] Go.wp_at_zero Go.wp_at_succ
set_option linter.unusedVariables false
set_option linter.unusedSimpArgs false
end

section
open Go.RowKit
attribute [local go_sem ↓] Go.wp_at_zero Go.wp_at_succ
set_option linter.unusedVariables false
set_option linter.unusedSimpArgs false
end

section
open Go.RowKit
attribute [local go_sem ↓] Go.wp_at_zero Go.wp_at_succ
set_option linter.unusedVariables false
set_option linter.unusedSimpArgs false
end

section
open Go.RowKit
attribute [local go_sem ↓] Go.wp_at_zero Go.wp_at_succ
set_option linter.unusedVariables false
set_option linter.unusedSimpArgs false

def bRow (qs : List Int) (qw k j : Nat) : List Int := (List.range j).map fun b => qs.getD (k * qw + b) 0
def bl (zs qs : List Int) (nw X Y qw : Nat) : Nat → List Int
 | 0 => zs
 | k + 1 => splice (bl zs qs nw X Y qw k) ((Y + k) * nw + X) (bRow qs qw k qw)
end

section
open Go.RowKit
attribute [local go_sem ↓] Go.wp_at_zero Go.wp_at_succ
set_option linter.unusedVariables false
set_option linter.unusedSimpArgs false
end

section
open Go.RowKit
attribute [local go_sem ↓] Go.wp_at_zero Go.wp_at_succ
set_option linter.unusedVariables false
set_option linter.unusedSimpArgs false

def EdgePost (B0 k : Nat) (W : World) (e : Ending) (w' : World) : Prop := ∃ p f : Int, e = .returned (.agg #[.int .i64 p, .int .i64 f]) ∧ TapeB B0 w' k ∧ W.grownBy w' (some k)

section
variable {B0 k B : Nat} {W w : World} {l : List Ch}
theorem gen_tcode {P : Program} {c : Code} {Q : Exit → Act → World → Prop} {a : Act} (h : Tk B0 k B W l w) (q : ∀ w', Tk B0 k B W l w' → c.wp P Q a w') : c.wp P Q a w := q w h
theorem gen_tlist {P : Program} {ops : Array Oper} {Q : Exit → Act → World → Prop} {o : List Oper} {a : Act} (h : Tk B0 k B W l w) (q : ∀ w', Tk B0 k B W l w' → wpList P ops Q o a w') : wpList P ops Q o a w := q w h
theorem gen_tcalls {P : Program} {f : Nat} {args : Array Value} {post : Ending → World → Prop} (h : Tk B0 k B W l w) (q : ∀ w', Tk B0 k B W l w' → Calls P f args w' post) : Calls P f args w post := q w h
end
set_option maxRecDepth 100000 in
set_option maxHeartbeats 1600000 in
theorem edge_any (B0 k : Nat) (m : Int) (W : World) (ht : TapeB B0 W k) :
    Calls Try.prog 21 #[.pointer (some ⟨k, 0, none⟩), .int .i64 m] W (EdgePost B0 k W) := by
  obtain ⟨B, hB⟩ : ∃ B, W.heap.size = B := ⟨_, rfl⟩; have HI0 := hid (Tk.init ht hB); clear ht
  go_enter Try.func21, Try.ntmps21
  go_upto_region 1 with fail
  have H1 := hid (show Tk B0 k B W [.cells B #[.int .i64 0, .int .i64 0] 29] (W.alloc (.cells #[.int .i64 0, .int .i64 0] 29)) from (HI0.out.alloc #[.int .i64 0, .int .i64 0] 29 hB)); first | refine gen_tcode H1.out ?_ | refine gen_tlist H1.out ?_ | refine gen_tcalls H1.out ?_
  intro w1 hG; clear H1; have H1 := hid hG; clear hG; go_wp2_with fail
  refine (nextB_any B0 k _ _ (by omega) (H1.out.tape)).mono ?_; rintro e w1 ⟨x1, rfl, x1a, x1b, htn, hgn, hsn⟩; have H2 := hid (H1.out.next htn hgn); clear htn hgn hsn; obtain ⟨D1, hD1⟩ : ∃ D, w1.heap.size = D := ⟨_, rfl⟩; go_upto_region 2 with fail
  have H1 := hid (show Tk B0 k B W [.cells D1 #[.int .i64 x1, .int .i64 0] 29, .cells B #[.int .i64 0, .int .i64 0] 29] (w1.alloc (.cells #[.int .i64 x1, .int .i64 0] 29)) from (H2.out.alloc #[.int .i64 x1, .int .i64 0] 29 hD1)); first | refine gen_tcode H1.out ?_ | refine gen_tlist H1.out ?_ | refine gen_tcalls H1.out ?_
  intro w1 hG; clear H1; have H1 := hid hG; clear hG; clear hD1; by_cases hz : x1 = 3
  · skip
    have hz1 : (x1 == 3) = true := by simpa using hz
    have HZZ := hid hz; clear hz; obtain ⟨m2, hm3⟩ : ∃ q, wrap64 (m.tdiv 2) = q := ⟨_, rfl⟩; have z1 := H1.out.cell 0 rfl 0 rfl; have z2 := H1.out.cell 0 rfl 1 rfl; go_upto_region 3 with fail
    clear z1 z2; obtain ⟨D2, hD1⟩ : ∃ D, w1.heap.size = D := ⟨_, rfl⟩; go_wp2_with fail
    have H2 := hid (show Tk B0 k B W [.cells D2 #[.int .i64 0, .int .i64 m, .int .i64 m2] 3, .cells D1 #[.int .i64 x1, .int .i64 0] 29, .cells B #[.int .i64 0, .int .i64 0] 29] (w1.alloc (.cells #[.int .i64 0, .int .i64 m, .int .i64 m2] 3)) from (H1.out.alloc #[.int .i64 0, .int .i64 m, .int .i64 m2] 3 hD1)); first | refine gen_tcode H2.out ?_ | refine gen_tlist H2.out ?_ | refine gen_tcalls H2.out ?_
    intro w2 hG; clear H2; have H2 := hid hG; clear hG; clear hD1; refine (pickB_any B0 k _ 3 3 [0, m, m2] _ (by omega) (by omega) (H2.out.tape) (H2.out.lit 0 [0, m, m2] rfl (by simp)).row (H2.out.far 0 rfl _)).mono ?_; rintro e w2 ⟨x2, rfl, hx1, htn, hgn, hsn⟩; have H3 := hid (H2.out.next htn hgn); clear htn hgn hsn; clear hx1; have z1 := H3.out.cell 1 rfl 0 rfl; have z2 := H3.out.free 1 rfl 0; have z3 := H3.out.cell 1 rfl 1 rfl; have z4 := H3.out.free 1 rfl 1; go_upto_region 4 with fail
    clear z1 z2 z3 z4; have H2 := hid (show Tk B0 k B W [.cells D2 #[.int .i64 0, .int .i64 m, .int .i64 m2] 3, .cells D1 #[.int .i64 x1, .int .i64 x2] 29, .cells B #[.int .i64 0, .int .i64 0] 29] (w2.setCell ⟨D1, 1, none⟩ (.int .i64 x2)) from (H3.out.set 1 rfl 1 (.int .i64 x2))); first | refine gen_tcode H2.out ?_ | refine gen_tlist H2.out ?_ | refine gen_tcalls H2.out ?_
    intro w2 hG; clear H2; have H2 := hid hG; clear hG; have z1 := H2.out.cell 1 rfl 0 rfl; have z2 := H2.out.cell 1 rfl 1 rfl; have z3 := H2.out.cell 2 rfl 0 rfl; have z4 := H2.out.free 2 rfl 0; have z5 := H2.out.cell 2 rfl 1 rfl; have z6 := H2.out.free 2 rfl 1; go_wp2_with fail
    clear z1 z2 z3 z4 z5 z6; have H3 := hid (show Tk B0 k B W [.cells D2 #[.int .i64 0, .int .i64 m, .int .i64 m2] 3, .cells D1 #[.int .i64 x1, .int .i64 x2] 29, .cells B #[.int .i64 x1, .int .i64 x2] 29] ((w2.setCell ⟨B, 0, none⟩ (.int .i64 x1)).setCell ⟨B, 1, none⟩ (.int .i64 x2)) from ((H2.out.set 2 rfl 0 (.int .i64 x1)).set 2 rfl 1 (.int .i64 x2))); have q1 := H3.out.cell 2 rfl 0 rfl; have q2 := H3.out.cell 2 rfl 1 rfl; refine bodyPost_ret (v := .agg #[.int .i64 x1, .int .i64 x2]) ?_ rfl ⟨x1, x2, rfl, H3.out.tape, H3.out.grown⟩; simp [results, Try.results21, go_sem, q1, q2]
  · skip
    have hz1 : (x1 == 3) = false := by simpa using hz
    have z1 := H1.out.cell 0 rfl 0 rfl; have z2 := H1.out.cell 0 rfl 1 rfl; have z3 := H1.out.cell 1 rfl 0 rfl; have z4 := H1.out.free 1 rfl 0; have z5 := H1.out.cell 1 rfl 1 rfl; have z6 := H1.out.free 1 rfl 1; go_wp2_with fail
    clear z1 z2 z3 z4 z5 z6; have H2 := hid (show Tk B0 k B W [.cells D1 #[.int .i64 x1, .int .i64 0] 29, .cells B #[.int .i64 x1, .int .i64 0] 29] ((w1.setCell ⟨B, 0, none⟩ (.int .i64 x1)).setCell ⟨B, 1, none⟩ (.int .i64 0)) from ((H1.out.set 1 rfl 0 (.int .i64 x1)).set 1 rfl 1 (.int .i64 0))); have q1 := H2.out.cell 1 rfl 0 rfl; have q2 := H2.out.cell 1 rfl 1 rfl; refine bodyPost_ret (v := .agg #[.int .i64 x1, .int .i64 0]) ?_ rfl ⟨x1, 0, rfl, H2.out.tape, H2.out.grown⟩; simp [results, Try.results21, go_sem, q1, q2]
end

section
open Go.RowKit
set_option linter.unusedVariables false
end
end Go.Proofs.Yteejjnhlfgjlaaa
