/-
  Contract: the tape's Edge makes valid edges.
-/
import Derived.Test.YtaefdkinpaonkaaKE
import Derived.Test.YtaefdkinpaonkaaKA
namespace Go.Proofs.Ytaefdkinpaonkaa
open Go.RowKit
attribute [local go_sem ↓] Go.wp_at_zero Go.wp_at_succ
set_option linter.unusedVariables false
set_option linter.unusedSimpArgs false

set_option maxRecDepth 100000 in
set_option maxHeartbeats 1600000 in
theorem edgeok_any (B0 k : Nat) (m : Int) (W : World) (hm : 0 ≤ m ∧ m ≤ 4294967296) (ht : TapeB B0 W k) :
    Calls Try.prog 15 #[.pointer (some ⟨k, 0, none⟩), .int .i64 m] W fun e w' => ∃ p f : Int, e = .returned (.agg #[.int .i64 p, .int .i64 f]) ∧ bValid p f m = true ∧ TapeB B0 w' k ∧ W.grownBy w' (some k) := by
  obtain ⟨B, hB⟩ : ∃ B, W.heap.size = B := ⟨_, rfl⟩
  have HI0 := hid (Tk.init ht hB)
  obtain ⟨m0, m1⟩ := hm
  clear ht
  go_enter Try.func15, Try.ntmps15
  go_upto_region 1 with fail
  have H1 := hid (show Tk B0 k B W [.cells B #[.int .i64 0, .int .i64 0] 43] (W.alloc (.cells #[.int .i64 0, .int .i64 0] 43)) from (HI0.out.alloc #[.int .i64 0, .int .i64 0] 43 hB))
  first | refine gen_tcode H1.out ?_ | refine gen_tlist H1.out ?_ | refine gen_tcalls H1.out ?_
  intro w2 hG
  clear H1
  have H1 := hid hG
  clear hG
  go_wp2_with fail
  refine (nextB_any B0 k _ _ (by omega) (H1.out.tape)).mono ?_
  rintro e w4 ⟨x3, rfl, x3a, x3b, htn, hgn, hsn⟩
  have H5 := hid (H1.out.next htn hgn)
  clear htn hgn hsn
  obtain ⟨D6, hD6⟩ : ∃ D, w4.heap.size = D := ⟨_, rfl⟩
  go_upto_region 2 with fail
  have H7 := hid (show Tk B0 k B W [.cells D6 #[.int .i64 x3, .int .i64 0] 43, .cells B #[.int .i64 0, .int .i64 0] 43] (w4.alloc (.cells #[.int .i64 x3, .int .i64 0] 43)) from (H5.out.alloc #[.int .i64 x3, .int .i64 0] 43 hD6))
  first | refine gen_tcode H7.out ?_ | refine gen_tlist H7.out ?_ | refine gen_tcalls H7.out ?_
  intro w8 hG
  clear H7
  have H7 := hid hG
  clear hG
  clear hD6
  by_cases hz : x3 = 3
  · skip
    have hz1 : (x3 == 3) = true := by simpa using hz
    have HZZ := hid hz
    clear hz
    obtain ⟨m2, hm3⟩ : ∃ q, m.tdiv 2 = q := ⟨_, rfl⟩
    obtain ⟨m3, m4⟩ : 0 ≤ m2 ∧ m2 ≤ m := by rw [← hm3, Int.tdiv_eq_ediv_of_nonneg (by omega)]; omega
    have hm5 : IntKind.i64.wrap m2 = m2 := IntWalk.i64_in _ (by omega)
    have z9 := H7.out.cell 0 rfl 0 rfl
    have z10 := H7.out.cell 0 rfl 1 rfl
    go_upto_region 3 with fail
    clear z9 z10
    obtain ⟨D11, hD11⟩ : ∃ D, w8.heap.size = D := ⟨_, rfl⟩
    go_wp2_with fail
    have H12 := hid (show Tk B0 k B W [.cells D11 #[.int .i64 0, .int .i64 m, .int .i64 m2] 3, .cells D6 #[.int .i64 x3, .int .i64 0] 43, .cells B #[.int .i64 0, .int .i64 0] 43] (w8.alloc (.cells #[.int .i64 0, .int .i64 m, .int .i64 m2] 3)) from (H7.out.alloc #[.int .i64 0, .int .i64 m, .int .i64 m2] 3 hD11))
    first | refine gen_tcode H12.out ?_ | refine gen_tlist H12.out ?_ | refine gen_tcalls H12.out ?_
    intro w13 hG
    clear H12
    have H12 := hid hG
    clear hG
    clear hD11
    refine (pickB_any B0 k _ 3 3 [0, m, m2] _ (by omega) (by omega) (H12.out.tape) (H12.out.lit 0 [0, m, m2] rfl (by simp)).row (H12.out.far 0 rfl _)).mono ?_
    rintro e w15 ⟨x14, rfl, hx14, htn, hgn, hsn⟩
    have H16 := hid (H12.out.next htn hgn)
    clear htn hgn hsn
    have HPK := hid (show 0 ≤ x14 ∧ x14 ≤ m from by simp only [List.mem_cons, List.not_mem_nil, or_false] at hx14; omega)
    clear hx14
    have z17 := H16.out.cell 1 rfl 0 rfl
    have z18 := H16.out.free 1 rfl 0
    have z19 := H16.out.cell 1 rfl 1 rfl
    have z20 := H16.out.free 1 rfl 1
    go_upto_region 4 with fail
    clear z17 z18 z19 z20
    have H21 := hid (show Tk B0 k B W [.cells D11 #[.int .i64 0, .int .i64 m, .int .i64 m2] 3, .cells D6 #[.int .i64 x3, .int .i64 x14] 43, .cells B #[.int .i64 0, .int .i64 0] 43] (w15.setCell ⟨D6, 1, none⟩ (.int .i64 x14)) from (H16.out.set 1 rfl 1 (.int .i64 x14)))
    first | refine gen_tcode H21.out ?_ | refine gen_tlist H21.out ?_ | refine gen_tcalls H21.out ?_
    intro w22 hG
    clear H21
    have H21 := hid hG
    clear hG
    have z23 := H21.out.cell 1 rfl 0 rfl
    have z24 := H21.out.cell 1 rfl 1 rfl
    have z25 := H21.out.cell 2 rfl 0 rfl
    have z26 := H21.out.free 2 rfl 0
    have z27 := H21.out.cell 2 rfl 1 rfl
    have z28 := H21.out.free 2 rfl 1
    go_wp2_with fail
    clear z23 z24 z25 z26 z27 z28
    have H29 := hid (show Tk B0 k B W [.cells D11 #[.int .i64 0, .int .i64 m, .int .i64 m2] 3, .cells D6 #[.int .i64 x3, .int .i64 x14] 43, .cells B #[.int .i64 x3, .int .i64 x14] 43] ((w22.setCell ⟨B, 0, none⟩ (.int .i64 x3)).setCell ⟨B, 1, none⟩ (.int .i64 x14)) from ((H21.out.set 2 rfl 0 (.int .i64 x3)).set 2 rfl 1 (.int .i64 x14)))
    have q30 := H29.out.cell 2 rfl 0 rfl
    have q31 := H29.out.cell 2 rfl 1 rfl
    refine bodyPost_ret (v := .agg #[.int .i64 x3, .int .i64 x14]) ?_ rfl ⟨x3, x14, rfl, by unfold bValid; rw [if_neg (by have := HZZ.out; omega), if_pos HZZ.out]; exact decide_eq_true HPK.out, H29.out.tape, H29.out.grown⟩
    simp [results, Try.results15, go_sem, q30, q31]
  · skip
    have hz1 : (x3 == 3) = false := by simpa using hz
    have HZZ := hid hz
    clear hz
    have z32 := H7.out.cell 0 rfl 0 rfl
    have z33 := H7.out.cell 0 rfl 1 rfl
    have z34 := H7.out.cell 1 rfl 0 rfl
    have z35 := H7.out.free 1 rfl 0
    have z36 := H7.out.cell 1 rfl 1 rfl
    have z37 := H7.out.free 1 rfl 1
    go_wp2_with fail
    clear z32 z33 z34 z35 z36 z37
    have H38 := hid (show Tk B0 k B W [.cells D6 #[.int .i64 x3, .int .i64 0] 43, .cells B #[.int .i64 x3, .int .i64 0] 43] ((w8.setCell ⟨B, 0, none⟩ (.int .i64 x3)).setCell ⟨B, 1, none⟩ (.int .i64 0)) from ((H7.out.set 1 rfl 0 (.int .i64 x3)).set 1 rfl 1 (.int .i64 0)))
    have q39 := H38.out.cell 1 rfl 0 rfl
    have q40 := H38.out.cell 1 rfl 1 rfl
    refine bodyPost_ret (v := .agg #[.int .i64 x3, .int .i64 0]) ?_ rfl ⟨x3, 0, rfl, by unfold bValid; rw [if_pos (by have := HZZ.out; omega)]; rfl, H38.out.tape, H38.out.grown⟩
    simp [results, Try.results15, go_sem, q39, q40]
end Go.Proofs.Ytaefdkinpaonkaa
