/-
 Contracts: new planes, equal lists and equal planes, in the program. copy into a row that the call made itself. Contracts: the greatest of a list, and a copy of a list. Contract: a tile of an integral plane, in the program. Contract: the integral plane of a plane, in the program. Contracts: the sum of a rectangle out of an integral plane, in the program and in the reference. Contract: a tile of an integral plane, in the reference. Contract: the integral plane of a plane, in the reference. Contracts: crops, in the program and in the reference. Contracts: blits, in the program and in the reference. Contract: blits, in the reference. Contracts: the pixels of planes, also outside of them, in the program and in the reference; edges that the tape makes. Plain law: crops and blits of planes: what fits, what is read back, what stays.
-/
import Derived.Test.YteejjnhlfgjlaaaKB
import Derived.Test.YteejjnhlfgjlaaaKC
import Derived.Test.YteejjnhlfgjlaaaKA
import Derived.Laws.CopyOwn
import Derived.WalkLawsBesides
import Derived.WalkSpells
import Derived.StillTailTactics
import Derived.Deep.DeepCutAuto
import Derived.Deep.DrawnRows
import Derived.Deep.RegionHeld3
import Derived.Test.YteejjnhlfgjlaaaKD
namespace Go.Proofs.Yteejjnhlfgjlaaa
section
open Go.RowKit
attribute [local go_sem ↓] Go.wp_at_zero Go.wp_at_succ
set_option linter.unusedVariables false
set_option linter.unusedSimpArgs false
end

section
open Go.RowKit
end

section
open Go.RowKit
attribute [local go_sem ↓] Go.wp_at_zero Go.wp_at_succ
set_option linter.unusedVariables false
set_option linter.unusedSimpArgs false
end

section
open Go.RowKit
attribute [local go_sem ↓] Go.wp_at_zero Go.wp_at_succ
set_option linter.unusedVariables false
set_option linter.unusedSimpArgs false
end

section
open Go.RowKit
set_option linter.unusedVariables false
set_option linter.unusedSimpArgs false
end

section
open Go.RowKit
set_option linter.unusedVariables false
set_option linter.unusedSimpArgs false
end

section
open Go.RowKit
attribute [local go_sem ↓] Go.wp_at_zero Go.wp_at_succ
set_option linter.unusedVariables false
set_option linter.unusedSimpArgs false
end

section
open Go.RowKit
attribute [local go_sem ↓] Go.wp_at_zero Go.wp_at_succ
set_option linter.unusedVariables false
set_option linter.unusedSimpArgs false
end

section
open Go.RowKit
attribute [local go_sem ↓] Go.wp_at_zero Go.wp_at_succ
set_option linter.unusedVariables false
set_option linter.unusedSimpArgs false
end

section
open Go.RowKit
attribute [local go_sem ↓] Go.wp_at_zero Go.wp_at_succ
set_option linter.unusedVariables false
set_option linter.unusedSimpArgs false
end

section
open Go.RowKit
attribute [local go_sem ↓] Go.wp_at_zero Go.wp_at_succ
set_option linter.unusedVariables false
set_option linter.unusedSimpArgs false
end

section
open Go.RowKit
attribute [local go_sem ↓] Go.wp_at_zero Go.wp_at_succ
set_option linter.unusedVariables false
set_option linter.unusedSimpArgs false

def EdgePost (B0 k : Nat) (W : World) (e : Ending) (w' : World) : Prop := ∃ p f : Int, e = .returned (.agg #[.int .i64 p, .int .i64 f]) ∧ TapeB B0 w' k ∧ W.grownBy w' (some k)

section
variable {B0 k B : Nat} {W w : World} {l : List Ch}
theorem gen_tcode {P : Program} {c : Code} {Q : Exit → Act → World → Prop} {a : Act} (h : Tk B0 k B W l w) (q : ∀ w', Tk B0 k B W l w' → c.wp P Q a w') : c.wp P Q a w := q w h
theorem gen_tlist {P : Program} {ops : Array Oper} {Q : Exit → Act → World → Prop} {o : List Oper} {a : Act} (h : Tk B0 k B W l w) (q : ∀ w', Tk B0 k B W l w' → wpList P ops Q o a w') : wpList P ops Q o a w := q w h
theorem gen_tcalls {P : Program} {f : Nat} {args : Array Value} {post : Ending → World → Prop} (h : Tk B0 k B W l w) (q : ∀ w', Tk B0 k B W l w' → Calls P f args w' post) : Calls P f args w post := q w h
end
set_option maxRecDepth 100000 in
set_option maxHeartbeats 1600000 in
theorem edge_any (B0 k : Nat) (m : Int) (W : World) (ht : TapeB B0 W k) :
    Calls Try.prog 21 #[.pointer (some ⟨k, 0, none⟩), .int .i64 m] W (EdgePost B0 k W) := by
  obtain ⟨B, hB⟩ : ∃ B, W.heap.size = B := ⟨_, rfl⟩
  have HI0 := hid (Tk.init ht hB)
  clear ht
  go_enter Try.func21, Try.ntmps21
  go_upto_region 1 with fail
  have H87 := hid (show Tk B0 k B W [.cells B #[.int .i64 0, .int .i64 0] 29] (W.alloc (.cells #[.int .i64 0, .int .i64 0] 29)) from (HI0.out.alloc #[.int .i64 0, .int .i64 0] 29 hB))
  first | refine gen_tcode H87.out ?_ | refine gen_tlist H87.out ?_ | refine gen_tcalls H87.out ?_
  intro w88 hG
  clear H87
  have H87 := hid hG
  clear hG
  go_wp2_with fail
  refine (nextB_any B0 k _ _ (by omega) (H87.out.tape)).mono ?_
  rintro e w90 ⟨x89, rfl, x89a, x89b, htn, hgn, hsn⟩
  have H91 := hid (H87.out.next htn hgn)
  clear htn hgn hsn
  obtain ⟨D92, hD92⟩ : ∃ D, w90.heap.size = D := ⟨_, rfl⟩
  go_upto_region 2 with fail
  have H93 := hid (show Tk B0 k B W [.cells D92 #[.int .i64 x89, .int .i64 0] 29, .cells B #[.int .i64 0, .int .i64 0] 29] (w90.alloc (.cells #[.int .i64 x89, .int .i64 0] 29)) from (H91.out.alloc #[.int .i64 x89, .int .i64 0] 29 hD92))
  first | refine gen_tcode H93.out ?_ | refine gen_tlist H93.out ?_ | refine gen_tcalls H93.out ?_
  intro w94 hG
  clear H93
  have H93 := hid hG
  clear hG
  clear hD92
  by_cases hz : x89 = 3
  · skip
    have hz1 : (x89 == 3) = true := by simpa using hz
    have HZZ := hid hz
    clear hz
    obtain ⟨m2, hm3⟩ : ∃ q, wrap64 (m.tdiv 2) = q := ⟨_, rfl⟩
    have z95 := H93.out.cell 0 rfl 0 rfl
    have z96 := H93.out.cell 0 rfl 1 rfl
    go_upto_region 3 with fail
    clear z95 z96
    obtain ⟨D97, hD97⟩ : ∃ D, w94.heap.size = D := ⟨_, rfl⟩
    go_wp2_with fail
    have H98 := hid (show Tk B0 k B W [.cells D97 #[.int .i64 0, .int .i64 m, .int .i64 m2] 3, .cells D92 #[.int .i64 x89, .int .i64 0] 29, .cells B #[.int .i64 0, .int .i64 0] 29] (w94.alloc (.cells #[.int .i64 0, .int .i64 m, .int .i64 m2] 3)) from (H93.out.alloc #[.int .i64 0, .int .i64 m, .int .i64 m2] 3 hD97))
    first | refine gen_tcode H98.out ?_ | refine gen_tlist H98.out ?_ | refine gen_tcalls H98.out ?_
    intro w99 hG
    clear H98
    have H98 := hid hG
    clear hG
    clear hD97
    refine (pickB_any B0 k _ 3 3 [0, m, m2] _ (by omega) (by omega) (H98.out.tape) (H98.out.lit 0 [0, m, m2] rfl (by simp)).row (H98.out.far 0 rfl _)).mono ?_
    rintro e w101 ⟨x100, rfl, hx100, htn, hgn, hsn⟩
    have H102 := hid (H98.out.next htn hgn)
    clear htn hgn hsn
    clear hx100
    have z103 := H102.out.cell 1 rfl 0 rfl
    have z104 := H102.out.free 1 rfl 0
    have z105 := H102.out.cell 1 rfl 1 rfl
    have z106 := H102.out.free 1 rfl 1
    go_upto_region 4 with fail
    clear z103 z104 z105 z106
    have H107 := hid (show Tk B0 k B W [.cells D97 #[.int .i64 0, .int .i64 m, .int .i64 m2] 3, .cells D92 #[.int .i64 x89, .int .i64 x100] 29, .cells B #[.int .i64 0, .int .i64 0] 29] (w101.setCell ⟨D92, 1, none⟩ (.int .i64 x100)) from (H102.out.set 1 rfl 1 (.int .i64 x100)))
    first | refine gen_tcode H107.out ?_ | refine gen_tlist H107.out ?_ | refine gen_tcalls H107.out ?_
    intro w108 hG
    clear H107
    have H107 := hid hG
    clear hG
    have z109 := H107.out.cell 1 rfl 0 rfl
    have z110 := H107.out.cell 1 rfl 1 rfl
    have z111 := H107.out.cell 2 rfl 0 rfl
    have z112 := H107.out.free 2 rfl 0
    have z113 := H107.out.cell 2 rfl 1 rfl
    have z114 := H107.out.free 2 rfl 1
    go_wp2_with fail
    clear z109 z110 z111 z112 z113 z114
    have H115 := hid (show Tk B0 k B W [.cells D97 #[.int .i64 0, .int .i64 m, .int .i64 m2] 3, .cells D92 #[.int .i64 x89, .int .i64 x100] 29, .cells B #[.int .i64 x89, .int .i64 x100] 29] ((w108.setCell ⟨B, 0, none⟩ (.int .i64 x89)).setCell ⟨B, 1, none⟩ (.int .i64 x100)) from ((H107.out.set 2 rfl 0 (.int .i64 x89)).set 2 rfl 1 (.int .i64 x100)))
    have q116 := H115.out.cell 2 rfl 0 rfl
    have q117 := H115.out.cell 2 rfl 1 rfl
    refine bodyPost_ret (v := .agg #[.int .i64 x89, .int .i64 x100]) ?_ rfl ⟨x89, x100, rfl, H115.out.tape, H115.out.grown⟩
    simp [results, Try.results21, go_sem, q116, q117]
  · skip
    have hz1 : (x89 == 3) = false := by simpa using hz
    have z118 := H93.out.cell 0 rfl 0 rfl
    have z119 := H93.out.cell 0 rfl 1 rfl
    have z120 := H93.out.cell 1 rfl 0 rfl
    have z121 := H93.out.free 1 rfl 0
    have z122 := H93.out.cell 1 rfl 1 rfl
    have z123 := H93.out.free 1 rfl 1
    go_wp2_with fail
    clear z118 z119 z120 z121 z122 z123
    have H124 := hid (show Tk B0 k B W [.cells D92 #[.int .i64 x89, .int .i64 0] 29, .cells B #[.int .i64 x89, .int .i64 0] 29] ((w94.setCell ⟨B, 0, none⟩ (.int .i64 x89)).setCell ⟨B, 1, none⟩ (.int .i64 0)) from ((H93.out.set 1 rfl 0 (.int .i64 x89)).set 1 rfl 1 (.int .i64 0)))
    have q125 := H124.out.cell 1 rfl 0 rfl
    have q126 := H124.out.cell 1 rfl 1 rfl
    refine bodyPost_ret (v := .agg #[.int .i64 x89, .int .i64 0]) ?_ rfl ⟨x89, 0, rfl, H124.out.tape, H124.out.grown⟩
    simp [results, Try.results21, go_sem, q125, q126]
end

section
open Go.RowKit
set_option linter.unusedVariables false
end
end Go.Proofs.Yteejjnhlfgjlaaa
