/-
  Contracts: equal rows and equal planes, in the reference; the tape's Plane and Edge.
-/
import Derived.Test.YtoojiabdgaflgaaTk
import Derived.Test.YtoojiabdgaflgaaPlane2
import Derived.Deep.QuietTactic
import Derived.BigQuiet
namespace Go.Proofs.Ytoojiabdgaflgaa
open Go.RowKit
set_option linter.unusedVariables false
set_option linter.unusedSimpArgs false

theorem ne_of_getD {xs ys : List Int} {j : Nat} (hx : j < xs.length) (hy : j < ys.length) (h : xs.getD j 0 ≠ ys.getD j 0) : xs ≠ ys := fun e => h (by rw [e])
theorem eq_of_getD {xs ys : List Int} (hl : xs.length = ys.length) (h : ∀ i, i < xs.length → xs.getD i 0 = ys.getD i 0) : xs = ys := by
  refine List.ext_getElem hl fun i h1 h2 => ?_
  have := h i h1
  rwa [List.getD_eq_getElem?_getD, List.getD_eq_getElem?_getD, List.getElem?_eq_getElem h1, List.getElem?_eq_getElem h2] at this

def lEq (xs ys : List Int) : Bool := decide (xs = ys)
set_option maxRecDepth 100000 in
set_option maxHeartbeats 1600000 in
theorem qsame_any (a : Option Addr) (n c : Nat) (xs : List Int) (a' : Option Addr) (n' c' : Nat) (ys : List Int) (W : World) (hx : Slc W a n c xs) (hy : Slc W a' n' c' ys) :
    Calls Try.prog 34 #[.slice a n c, .slice a' n' c'] W fun e w' => e = .returned (.bool (lEq xs ys)) ∧ ∃ m, w' = W.drewN m := by
  have HX := hid hx
  have HY := hid hy
  have LX := hid hx.len
  have LY := hid hy.len
  obtain ⟨nc1, nc2⟩ := And.intro hx.nc hx.cap
  have nm : (n : Int) ≤ 9223372036854775807 := by omega
  clear hx hy nc1 nc2
  by_cases hn : n = n'
  · subst hn
    go_enter Try.func34, Try.ntmps34
    go_wp2_with fail
    go_loopw [5] (fun i wr => ∃ j : Nat, j ≤ n ∧ i = .int .i64 j ∧ (∀ i, i < j → xs.getD i 0 = ys.getD i 0) ∧ ∃ m, wr = W.drewN m) (fun i _ => n - (intOf i).toNat)
    case atStart => exact ⟨0, by omega, rfl, fun i hi => by omega, 0, rfl⟩
    case round =>
      obtain ⟨j, hj, rfl, ha, m, hm⟩ := hrel
      obtain ⟨w1, rfl⟩ : ∃ w1 : World, w1 = wr := ⟨_, rfl⟩
      have HA := hid ha
      have HM := hid hm
      have HX1 := hid (show Slc w1 a n c xs by rw [hm]; exact HX.out.drewN m)
      have HY1 := hid (show Slc w1 a' n c' ys by rw [hm]; exact HY.out.drewN m)
      clear ha hm
      by_cases hjn : j < n
      · obtain ⟨b, o, rfl⟩ := row_at HX1.out.row (by omega)
        obtain ⟨b', o', rfl⟩ := row_at HY1.out.row (by omega)
        have cx := row_cell HX1.out.row hjn
        have cy := row_cell HY1.out.row hjn
        have hjn' : (j : Int) < n := by omega
        have HB := hid (fun h : xs.getD j 0 ≠ ys.getD j 0 => ne_of_getD (by have := LX.out; omega) (by have := LY.out; omega) h)
        have HI := hid (show xs.getD j 0 = ys.getD j 0 → ∀ i, i < j + 1 → xs.getD i 0 = ys.getD i 0 from fun hg i hi => by
          rcases Nat.lt_or_ge i j with h' | h'
          · exact HA.out i h'
          · obtain rfl : i = j := by omega
            exact hg)
        generalize xs.getD j 0 = x at *
        generalize ys.getD j 0 = y at *
        by_cases hxy : x = y
        · have h1 : (x != y) = false := by simp [hxy]
          have HXY := hid hxy
          clear hxy
          go_wp2_with fail
          go_quiet (fail)
          go_wp2_with fail
          go_roundw
          case rel => exact ⟨j + 1, by omega, by go_num, HI.out HXY.out, _, by rw [HM.out, World.drewN_drewN]⟩
          case measure => simp [intOf]; omega
        · have h1 : (x != y) = true := by simp [hxy]
          have h2 : (x == y) = false := by simp [hxy]
          go_wp2_with fail
          go_quiet (fail)
          go_wp2_with fail
          go_ret
          exact ⟨ret_b (by unfold lEq; rw [eq_comm, decide_eq_false_iff_not]; exact HB.out hxy), _, by rw [HM.out, World.drewN_drewN]⟩
      · obtain rfl : n = j := by omega
        go_wp2_with fail
        go_ret
        exact ⟨ret_b (by unfold lEq; rw [eq_comm, decide_eq_true_eq]; exact eq_of_getD (by rw [LX.out, LY.out]) (fun i hi => HA.out i (by rw [LX.out] at hi; exact hi))), m, HM.out⟩
  · have h1 : ((n : Int) != (n' : Int)) = true := by simp; omega
    have h2 : ((n : Int) == (n' : Int)) = false := by simp; omega
    go_enter Try.func34, Try.ntmps34
    go_wp2_with fail
    go_ret
    exact ⟨ret_b (by unfold lEq; rw [eq_comm, decide_eq_false_iff_not]; exact fun e => hn (by rw [← LX.out, ← LY.out, e])), 0, rfl⟩
end Go.Proofs.Ytoojiabdgaflgaa
