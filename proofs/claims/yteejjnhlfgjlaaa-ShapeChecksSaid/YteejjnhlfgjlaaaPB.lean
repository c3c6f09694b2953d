/-
 Contracts: the value of a program, in the program. Contracts: the value of a program, with its errors, in the program and in the reference.
-/
import Derived.Test.YteejjnhlfgjlaaaPw7
namespace Go.Proofs.Yteejjnhlfgjlaaa
section
open Go.RowKit
attribute [local go_sem ↓] Go.wp_at_zero Go.wp_at_succ
set_option linter.unusedVariables false
set_option linter.unusedSimpArgs false

theorem stk_take {α : Type} {st L : List α} {K T : Nat} (hL : L = st.reverse) (hT : T + K = st.length) (v : α) : L.take T ++ [v] = (v :: st.drop K).reverse := by
 rw [hL, List.take_reverse, List.reverse_cons, show st.length - T = K by omega]
theorem stk_get {α : Type} {st L : List α} {K T : Nat} (d : α) (hL : L = st.reverse) (h1 : 1 ≤ K) (hT : T + K = st.length) : L.getD T d = st.getD (K - 1) d := by
 rw [hL, List.getD_eq_getElem?_getD, List.getD_eq_getElem?_getD, List.getElem?_reverse (by omega), show st.length - 1 - T = K - 1 by omega]
theorem vGo_step {d k : Nat} {l : List (Int × Int)} (h : vGo l true (d + 1 - k) = 0) (hk : k ≤ d) {m : Nat} (hm : m + k = d + 1) : vGo l true m = 0 := by
 rw [← h]; congr 1; omega
theorem acc_arg {g : Int} (h : pwArg 2 g = true) : accOk g = true := by
 have : -4294967296 ≤ g ∧ g ≤ 4294967296 := by simpa [pwArg] using h
 rw [accOk_iff]; omega
end

section
open Go.RowKit
attribute [local go_sem ↓] Go.wp_at_zero Go.wp_at_succ
set_option linter.unusedVariables false
set_option linter.unusedSimpArgs false
end
end Go.Proofs.Yteejjnhlfgjlaaa
