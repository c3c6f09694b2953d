/-
  Contract: the tape's Weights: small weights; the tape alone has changed.
-/
import Derived.Test.YtocikgdkigcjbaaKE
import Derived.Test.YtocikgdkigcjbaaKA
namespace Go.Proofs.Ytocikgdkigcjbaa
open Go.RowKit
attribute [local go_sem ↓] Go.wp_at_zero Go.wp_at_succ
set_option linter.unusedVariables false
set_option linter.unusedSimpArgs false

theorem in_app {lw : List Int} {z m M : Int} (h : ∀ i, m ≤ lw.getD i 0 ∧ lw.getD i 0 ≤ M) (hz : m ≤ z ∧ z ≤ M) (h0 : m ≤ 0 ∧ 0 ≤ M) : ∀ i, m ≤ (lw ++ [z]).getD i 0 ∧ (lw ++ [z]).getD i 0 ≤ M := fun i => by
  rw [List.getD_eq_getElem?_getD, List.getElem?_append]
  split
  · rw [← List.getD_eq_getElem?_getD]; exact h i
  · cases hk : i - lw.length with
    | zero => exact hz
    | succ n => exact h0
def WeightsPost (B0 k : Nat) (W : World) (n : Int) (e : Ending) (w' : World) : Prop :=
  ∃ (v : Value) (ws : List Int), e = .returned v ∧ ws.length = n.toNat ∧ (∀ i, -20 ≤ ws.getD i 0 ∧ ws.getD i 0 ≤ 20) ∧ Own W.heap.size w' v ws ∧ TapeB B0 w' k ∧ W.grownBy w' (some k)

set_option maxRecDepth 100000 in
set_option maxHeartbeats 3200000 in
theorem weights_any (B0 k : Nat) (n : Int) (W : World) (hn : n ≤ 1000000) (ht : TapeB B0 W k) :
    Calls Try.prog 10 #[.pointer (some ⟨k, 0, none⟩), .int .i64 n] W (WeightsPost B0 k W n) := by
  obtain ⟨B, hB⟩ : ∃ B, W.heap.size = B := ⟨_, rfl⟩
  have HI0 := hid (Tk.init ht hB)
  clear ht
  go_enter Try.func10, Try.ntmps10
  go_wp2_with fail
  have H1 := hid (show Tk B0 k B W [.own (.slice none 0 0) ([])] W from HI0.out.grow (Below.refl _ _) (Own.nil _ _))
  go_loopw [6, 5] (fun i v wr => ∃ (j : Nat) (la : Option Addr) (lc : Nat) (lw : List Int), j ≤ n.toNat ∧ lw.length = j ∧ (∀ i, -20 ≤ lw.getD i 0 ∧ lw.getD i 0 ≤ 20) ∧ i = .int .i64 j ∧ v = .slice la lw.length lc ∧ Tk B0 k B W [.own (.slice la lw.length lc) lw] wr) (fun i _ _ => n.toNat - (intOf i).toNat)
  case atStart => exact ⟨0, _, _, [], by omega, rfl, fun i => ⟨show (-20 : Int) ≤ 0 by omega, show (0 : Int) ≤ 20 by omega⟩, rfl, rfl, H1.out⟩
  case round =>
    obtain ⟨j, la, lc, lw, hj, hlw, hin, rfl, rfl, hst⟩ := hrel
    obtain ⟨u2, rfl⟩ : ∃ u2 : World, u2 = wr := ⟨_, rfl⟩
    have H3 := hid hst
    clear hst
    have HLW := hid hlw
    have HIN := hid hin
    have hlw2 : lw.length ≤ 1000000 := by omega
    clear hlw hin
    by_cases hjn : j < n.toNat
    · skip
      have hjn' : (j : Int) < n := by omega
      go_wp2_with fail
      refine (nextB_any B0 k _ _ (by omega) (H3.out.tape)).mono ?_
      rintro e w5 ⟨x4, rfl, x4a, x4b, htn, hgn, hsn⟩
      have H6 := hid (H3.out.next htn hgn)
      clear htn hgn hsn
      obtain ⟨D7, hD7⟩ : ∃ D, w5.heap.size = D := ⟨_, rfl⟩
      go_wp2_with fail
      have H8 := hid (show Tk B0 k B W [.cells D7 #[.int .i64 1, .int .i64 2, .int .i64 (-1), .int .i64 0, .int .i64 (x4 - 20), .int .i64 5] 3, .own (.slice la lw.length lc) lw] (w5.alloc (.cells #[.int .i64 1, .int .i64 2, .int .i64 (-1), .int .i64 0, .int .i64 (x4 - 20), .int .i64 5] 3)) from (H6.out.alloc #[.int .i64 1, .int .i64 2, .int .i64 (-1), .int .i64 0, .int .i64 (x4 - 20), .int .i64 5] 3 hD7))
      first | refine gen_tcode H8.out ?_ | refine gen_tlist H8.out ?_ | refine gen_tcalls H8.out ?_
      intro w9 hG
      clear H8
      have H8 := hid hG
      clear hG
      clear hD7
      refine (pickB_any B0 k _ 6 6 [1, 2, (-1), 0, x4 - 20, 5] _ (by omega) (by omega) (H8.out.tape) (H8.out.lit 0 [1, 2, (-1), 0, x4 - 20, 5] rfl (by simp)).row (H8.out.far 0 rfl _)).mono ?_
      rintro e w11 ⟨x10, rfl, hx10, htn, hgn, hsn⟩
      have H12 := hid (H8.out.next htn hgn)
      clear htn hgn hsn
      have HZP := hid (show -20 ≤ x10 ∧ x10 ≤ 20 from by simp only [List.mem_cons, List.not_mem_nil, or_false] at hx10; omega)
      clear hx10
      obtain ⟨D13, hD13⟩ : ∃ D, w11.heap.size = D := ⟨_, rfl⟩
      have H14 := hid (show Tk B0 k B W [.cells D13 #[.int .i64 x10] 3, .cells D7 #[.int .i64 1, .int .i64 2, .int .i64 (-1), .int .i64 0, .int .i64 (x4 - 20), .int .i64 5] 3, .own (.slice la lw.length lc) lw] (w11.alloc (.cells #[.int .i64 x10] 3)) from (H12.out.alloc #[.int .i64 x10] 3 hD13))
      go_upto_region 4 with (at_builtin; refine append_int rfl _ _ rfl B _ lw x10 D13 1 rfl rfl (H14.out.own 2 rfl) (H14.out.cell 0 rfl 0 rfl) (by omega) H14.out.size ?_; intro v17 w18 ho hg hv; have H15 := hid (H14.out.append 2 rfl ho hg hv); clear ho hg hv)
      clear H14
      obtain ⟨v17a, v17c, hva, _⟩ := (H15.out.own 2 rfl).slc
      subst hva
      have H16 := hid (show Tk B0 k B W [.cells D7 #[.int .i64 1, .int .i64 2, .int .i64 (-1), .int .i64 0, .int .i64 (x4 - 20), .int .i64 5] 3, .own (.slice v17a ((lw ++ [x10]).length) v17c) (lw ++ [x10])] w18 from H15.out.pick [1, 2] rfl (by decide))
      clear hD13
      go_wp2_with fail
      go_roundw
      case rel => exact ⟨j + 1, _, _, _, by omega, by have := HLW.out; simp; omega, in_app HIN.out HZP.out (by omega), by go_num, rfl, H16.out.pick [1] rfl (by decide)⟩
      case measure => first | (simp [intOf]; omega) | (simp [intOf]; done)
    · skip
      have hjn' : ¬ ((j : Int) < n) := by omega
      have HJN := hid (show j = n.toNat by omega)
      go_wp2_with fail
      go_ret
      exact ⟨_, lw, rfl, HLW.out.trans HJN.out, HIN.out, by rw [hB]; exact H3.out.own 0 rfl, H3.out.tape, H3.out.grown⟩
end Go.Proofs.Ytocikgdkigcjbaa
