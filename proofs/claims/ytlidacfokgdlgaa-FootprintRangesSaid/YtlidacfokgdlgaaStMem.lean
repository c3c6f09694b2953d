/-
  Contracts: whether a list has a number of a range, in the program and in the reference; whether it has a number.
-/
import Derived.Test.YtlidacfokgdlgaaStTl
namespace Go.Proofs.Ytlidacfokgdlgaa
open Go.RowKit
attribute [local go_sem ↓] Go.wp_at_zero Go.wp_at_succ
set_option linter.unusedVariables false
set_option linter.unusedSimpArgs false

def hasL (l : List Int) (n : Int) : Bool := l.any fun v => decide (v = n)
theorem hasL_yes {l : List Int} {n : Int} {i : Nat} (hi : i < l.length) (h : l.getD i 0 = n) : hasL l n = true := by
  unfold hasL; rw [List.any_eq_true]
  refine ⟨l.getD i 0, ?_, by simpa using h⟩
  rw [List.getD_eq_getElem?_getD, List.getElem?_eq_getElem hi]; exact List.getElem_mem hi
theorem hasL_no {l : List Int} {n : Int} (h : ∀ i, i < l.length → ¬ l.getD i 0 = n) : hasL l n = false := by
  unfold hasL; rw [List.any_eq_false]
  intro x hx
  obtain ⟨i, hi, rfl⟩ := List.mem_iff_getElem.1 hx
  have := h i hi
  rw [List.getD_eq_getElem?_getD, List.getElem?_eq_getElem hi] at this
  simpa using this

set_option maxRecDepth 100000 in
set_option maxHeartbeats 1600000 in
theorem stwithin_any (a : Option Addr) (m c : Nat) (ts : List Int) (fa fb : Int) (W : World) (hs : Slc W a m c ts) : Calls Try.prog 31 #[.slice a m c, .int .i64 fa, .int .i64 fb] W fun e w' => e = .returned (.bool (memL ts fa fb)) ∧ Below W.heap.size W w' := by
  obtain ⟨B, hB⟩ : ∃ B, W.heap.size = B := ⟨_, rfl⟩
  have HI0 := hid (St.init hB)
  have HL := hid hs.len
  have nmx : (m : Int) ≤ 9223372036854775807 := by have := hs.nc; have := hs.cap; omega
  have HS := hid hs
  clear hs
  go_enter Try.func31, Try.ntmps31
  go_wp2_with fail
  go_loopw [11] (fun i wr => ∃ j : Nat, j ≤ m ∧ (∀ i, i < j → ¬ (fa ≤ ts.getD i 0 ∧ ts.getD i 0 < fb)) ∧ i = .int .i64 j ∧ St B W [] [] wr) (fun i _ => m - (intOf i).toNat)
  case atStart => exact ⟨0, by omega, fun i hi => by omega, rfl, HI0.out⟩
  case round =>
    obtain ⟨j, hj, hall, rfl, hst⟩ := hrel
    obtain ⟨u1, rfl⟩ : ∃ u1 : World, u1 = wr := ⟨_, rfl⟩
    have H2 := hid hst
    clear hst
    have HALL := hid hall
    clear hall
    by_cases hjn : j < m
    · skip
      have hjn' : (j : Int) < m := by omega
      obtain ⟨pb, po, hpa⟩ := row_at HS.out.row (by omega)
      subst hpa
      have cz := row_cell (H2.out.old HS.out).row hjn
      obtain ⟨z, hz⟩ : ∃ z, ts.getD j 0 = z := ⟨_, rfl⟩
      rw [hz] at cz
      have HZ := hid hz
      clear hz
      by_cases c3 : (fa : Int) ≤ z
      · skip
        by_cases c4 : (z : Int) < fb
        · skip
          go_wp2_with fail
          go_ret
          exact ⟨ret_b (memL_yes (i := j) (by rw [HL.out]; omega) (by rw [HZ.out]; omega)).symm, by first | exact H2.out.below | exact H2.out.below'⟩
        · skip
          go_wp2_with fail
          go_roundw
          case rel => exact ⟨j + 1, by omega, fun i hi => by rcases Nat.lt_or_ge i j with h' | h'; exact HALL.out i h'; rw [show i = j by omega, HZ.out]; omega, by go_num, H2.out.pick [] rfl (by decide)⟩
          case measure => first | (simp [intOf]; omega) | (simp [intOf]; done)
      · skip
        go_wp2_with fail
        go_roundw
        case rel => exact ⟨j + 1, by omega, fun i hi => by rcases Nat.lt_or_ge i j with h' | h'; exact HALL.out i h'; rw [show i = j by omega, HZ.out]; omega, by go_num, H2.out.pick [] rfl (by decide)⟩
        case measure => first | (simp [intOf]; omega) | (simp [intOf]; done)
    · skip
      have hjn' : ¬ ((j : Int) < m) := by omega
      have HJM := hid (show j = m by omega)
      go_wp2_with fail
      go_ret
      exact ⟨ret_b (memL_no fun i hi => HALL.out i (by rw [HL.out] at hi; rw [HJM.out]; exact hi)).symm, by first | exact H2.out.below | exact H2.out.below'⟩

set_option maxRecDepth 100000 in
set_option maxHeartbeats 1600000 in
theorem rsome_any (a : Option Addr) (m c : Nat) (ts : List Int) (fa fb : Int) (W : World) (hs : Slc W a m c ts) : Calls Try.prog 35 #[.slice a m c, .int .i64 fa, .int .i64 fb] W fun e w' => e = .returned (.bool (memL ts fa fb)) ∧ Below W.heap.size W w' := by
  obtain ⟨B, hB⟩ : ∃ B, W.heap.size = B := ⟨_, rfl⟩
  have HI0 := hid (St.init hB)
  have HL := hid hs.len
  have nmx : (m : Int) ≤ 9223372036854775807 := by have := hs.nc; have := hs.cap; omega
  have HS := hid hs
  clear hs
  go_enter Try.func35, Try.ntmps35
  go_wp2_with fail
  go_loopw [7] (fun i wr => ∃ j : Nat, j ≤ m ∧ (∀ i, i < j → ¬ (fa ≤ ts.getD i 0 ∧ ts.getD i 0 < fb)) ∧ i = .int .i64 j ∧ St B W [] [] wr) (fun i _ => m - (intOf i).toNat)
  case atStart => exact ⟨0, by omega, fun i hi => by omega, rfl, HI0.out⟩
  case round =>
    obtain ⟨j, hj, hall, rfl, hst⟩ := hrel
    obtain ⟨u5, rfl⟩ : ∃ u5 : World, u5 = wr := ⟨_, rfl⟩
    have H6 := hid hst
    clear hst
    have HALL := hid hall
    clear hall
    by_cases hjn : j < m
    · skip
      have hjn' : (j : Int) < m := by omega
      obtain ⟨pb, po, hpa⟩ := row_at HS.out.row (by omega)
      subst hpa
      have cz := row_cell (H6.out.old HS.out).row hjn
      obtain ⟨z, hz⟩ : ∃ z, ts.getD j 0 = z := ⟨_, rfl⟩
      rw [hz] at cz
      have HZ := hid hz
      clear hz
      by_cases c7 : (fa : Int) ≤ z
      · skip
        by_cases c8 : (z : Int) < fb
        · skip
          go_wp2_with fail
          go_ret
          exact ⟨ret_b (memL_yes (i := j) (by rw [HL.out]; omega) (by rw [HZ.out]; omega)).symm, by first | exact H6.out.below | exact H6.out.below'⟩
        · skip
          go_wp2_with fail
          go_roundw
          case rel => exact ⟨j + 1, by omega, fun i hi => by rcases Nat.lt_or_ge i j with h' | h'; exact HALL.out i h'; rw [show i = j by omega, HZ.out]; omega, by go_num, H6.out.pick [] rfl (by decide)⟩
          case measure => first | (simp [intOf]; omega) | (simp [intOf]; done)
      · skip
        go_wp2_with fail
        go_roundw
        case rel => exact ⟨j + 1, by omega, fun i hi => by rcases Nat.lt_or_ge i j with h' | h'; exact HALL.out i h'; rw [show i = j by omega, HZ.out]; omega, by go_num, H6.out.pick [] rfl (by decide)⟩
        case measure => first | (simp [intOf]; omega) | (simp [intOf]; done)
    · skip
      have hjn' : ¬ ((j : Int) < m) := by omega
      have HJM := hid (show j = m by omega)
      go_wp2_with fail
      go_ret
      exact ⟨ret_b (memL_no fun i hi => HALL.out i (by rw [HL.out] at hi; rw [HJM.out]; exact hi)).symm, by first | exact H6.out.below | exact H6.out.below'⟩

set_option maxRecDepth 100000 in
set_option maxHeartbeats 1600000 in
theorem has16_any (a : Option Addr) (m c : Nat) (ts : List Int) (fa : Int) (W : World) (hs : Slc W a m c ts) : Calls Try.prog 20 #[.slice a m c, .int .i64 fa] W fun e w' => e = .returned (.bool (hasL ts fa)) ∧ Below W.heap.size W w' := by
  obtain ⟨B, hB⟩ : ∃ B, W.heap.size = B := ⟨_, rfl⟩
  have HI0 := hid (St.init hB)
  have HL := hid hs.len
  have nmx : (m : Int) ≤ 9223372036854775807 := by have := hs.nc; have := hs.cap; omega
  have HS := hid hs
  clear hs
  go_enter Try.func20, Try.ntmps20
  go_wp2_with fail
  go_loopw [5] (fun i wr => ∃ j : Nat, j ≤ m ∧ (∀ i, i < j → ¬ (ts.getD i 0 = fa)) ∧ i = .int .i64 j ∧ St B W [] [] wr) (fun i _ => m - (intOf i).toNat)
  case atStart => exact ⟨0, by omega, fun i hi => by omega, rfl, HI0.out⟩
  case round =>
    obtain ⟨j, hj, hall, rfl, hst⟩ := hrel
    obtain ⟨u9, rfl⟩ : ∃ u9 : World, u9 = wr := ⟨_, rfl⟩
    have H10 := hid hst
    clear hst
    have HALL := hid hall
    clear hall
    by_cases hjn : j < m
    · skip
      have hjn' : (j : Int) < m := by omega
      obtain ⟨pb, po, hpa⟩ := row_at HS.out.row (by omega)
      subst hpa
      have cz := row_cell (H10.out.old HS.out).row hjn
      obtain ⟨z, hz⟩ : ∃ z, ts.getD j 0 = z := ⟨_, rfl⟩
      rw [hz] at cz
      have HZ := hid hz
      clear hz
      by_cases c11 : (z : Int) = fa
      · obtain ⟨c11c, c11d⟩ : (z : Int) ≤ fa ∧ (fa : Int) ≤ z := by omega
        have c11a : ((z : Int) == (fa)) = true := by simpa using c11
        have c11b : ((z : Int) != (fa)) = false := by simpa using c11
        have c11h := hid c11
        clear c11
        go_wp2_with fail
        go_ret
        exact ⟨ret_b (hasL_yes (i := j) (by rw [HL.out]; omega) (by rw [HZ.out]; have := c11h.out; omega)).symm, by first | exact H10.out.below | exact H10.out.below'⟩
      · have c11a : ((z : Int) == (fa)) = false := by simpa using c11
        have c11b : ((z : Int) != (fa)) = true := by simpa using c11
        have c11h := hid c11
        clear c11
        go_wp2_with fail
        go_roundw
        case rel => exact ⟨j + 1, by omega, fun i hi => by rcases Nat.lt_or_ge i j with h' | h'; exact HALL.out i h'; rw [show i = j by omega, HZ.out]; have := c11h.out; omega, by go_num, H10.out.pick [] rfl (by decide)⟩
        case measure => first | (simp [intOf]; omega) | (simp [intOf]; done)
    · skip
      have hjn' : ¬ ((j : Int) < m) := by omega
      have HJM := hid (show j = m by omega)
      go_wp2_with fail
      go_ret
      exact ⟨ret_b (hasL_no fun i hi => HALL.out i (by rw [HL.out] at hi; rw [HJM.out]; exact hi)).symm, by first | exact H10.out.below | exact H10.out.below'⟩
end Go.Proofs.Ytlidacfokgdlgaa
