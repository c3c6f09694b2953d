/-
 Contracts: which fields a stage may use, in the program and in the reference.
-/
import Derived.Test.YteejjnhlfgjlaaaKJ
namespace Go.Proofs.Yteejjnhlfgjlaaa
open Go.RowKit
attribute [local go_sem ↓] Go.wp_at_zero Go.wp_at_succ
set_option linter.unusedVariables false
set_option linter.unusedSimpArgs false

def sfOk (kd b ep ef kw kh : Int) (wn rn cn : Nat) (sh sh2 : Int) (xn yn : Nat) (bins : Int) (on : Nat) (mx : Int) : Bool :=
 decide (1 ≤ kd ∧ kd ≤ 6 ∧ (kd = 6 ∨ b = -1) ∧ (kd ≤ 3 ∨ (ep = 0 ∧ ef = 0)) ∧ (kd = 1 ∨ (kw = 0 ∧ kh = 0 ∧ wn = 0)) ∧ (kd = 2 ∨ (rn = 0 ∧ cn = 0)) ∧ (kd ≤ 3 ∨ sh = 0) ∧ (kd = 2 ∨ kd = 3 ∨ sh2 = 0) ∧ (kd = 3 ∨ (xn = 0 ∧ yn = 0)) ∧ (kd = 4 ∨ bins = 0) ∧ (kd = 6 ∨ on = 0) ∧ (kd ≤ 3 ∨ kd = 6 ∨ mx = 0))
def edOk (k : Int) : Bool := decide (k = 1 ∨ k = 2 ∨ k = 3)
theorem cs18 {B : Nat} {W w : World} {l : List Ch} {rs : List Ro} (h : St B W l rs w) (i : Nat) {b : Nat} {t : TypeId} {a0 a1 a2 a3 a4 a5 a6 a7 a8 a9 a10 a11 a12 a13 a14 a15 a16 a17 : Value} (hi : l[i]? = some (.cells b #[a0, a1, a2, a3, a4, a5, a6, a7, a8, a9, a10, a11, a12, a13, a14, a15, a16, a17] t)) : w.cell? ⟨b, 0, none⟩ = some a0 ∧ w.cell? ⟨b, 1, none⟩ = some a1 ∧ w.cell? ⟨b, 2, none⟩ = some a2 ∧ w.cell? ⟨b, 3, none⟩ = some a3 ∧ w.cell? ⟨b, 4, none⟩ = some a4 ∧ w.cell? ⟨b, 5, none⟩ = some a5 ∧ w.cell? ⟨b, 6, none⟩ = some a6 ∧ w.cell? ⟨b, 7, none⟩ = some a7 ∧ w.cell? ⟨b, 8, none⟩ = some a8 ∧ w.cell? ⟨b, 9, none⟩ = some a9 ∧ w.cell? ⟨b, 10, none⟩ = some a10 ∧ w.cell? ⟨b, 11, none⟩ = some a11 ∧ w.cell? ⟨b, 12, none⟩ = some a12 ∧ w.cell? ⟨b, 13, none⟩ = some a13 ∧ w.cell? ⟨b, 14, none⟩ = some a14 ∧ w.cell? ⟨b, 15, none⟩ = some a15 ∧ w.cell? ⟨b, 16, none⟩ = some a16 ∧ w.cell? ⟨b, 17, none⟩ = some a17 :=
 ⟨h.cell i hi 0 rfl, h.cell i hi 1 rfl, h.cell i hi 2 rfl, h.cell i hi 3 rfl, h.cell i hi 4 rfl, h.cell i hi 5 rfl, h.cell i hi 6 rfl, h.cell i hi 7 rfl, h.cell i hi 8 rfl, h.cell i hi 9 rfl, h.cell i hi 10 rfl, h.cell i hi 11 rfl, h.cell i hi 12 rfl, h.cell i hi 13 rfl, h.cell i hi 14 rfl, h.cell i hi 15 rfl, h.cell i hi 16 rfl, h.cell i hi 17 rfl⟩
theorem cf18 {B : Nat} {W w : World} {l : List Ch} {rs : List Ro} (h : St B W l rs w) (i : Nat) {b : Nat} {t : TypeId} {a0 a1 a2 a3 a4 a5 a6 a7 a8 a9 a10 a11 a12 a13 a14 a15 a16 a17 : Value} (hi : l[i]? = some (.cells b #[a0, a1, a2, a3, a4, a5, a6, a7, a8, a9, a10, a11, a12, a13, a14, a15, a16, a17] t)) : w.cell? ⟨b, 0, none⟩ = some a0 ∧ w.frozen? ⟨b, 0, none⟩ = false ∧ w.cell? ⟨b, 1, none⟩ = some a1 ∧ w.frozen? ⟨b, 1, none⟩ = false ∧ w.cell? ⟨b, 2, none⟩ = some a2 ∧ w.frozen? ⟨b, 2, none⟩ = false ∧ w.cell? ⟨b, 3, none⟩ = some a3 ∧ w.frozen? ⟨b, 3, none⟩ = false ∧ w.cell? ⟨b, 4, none⟩ = some a4 ∧ w.frozen? ⟨b, 4, none⟩ = false ∧ w.cell? ⟨b, 5, none⟩ = some a5 ∧ w.frozen? ⟨b, 5, none⟩ = false ∧ w.cell? ⟨b, 6, none⟩ = some a6 ∧ w.frozen? ⟨b, 6, none⟩ = false ∧ w.cell? ⟨b, 7, none⟩ = some a7 ∧ w.frozen? ⟨b, 7, none⟩ = false ∧ w.cell? ⟨b, 8, none⟩ = some a8 ∧ w.frozen? ⟨b, 8, none⟩ = false ∧ w.cell? ⟨b, 9, none⟩ = some a9 ∧ w.frozen? ⟨b, 9, none⟩ = false ∧ w.cell? ⟨b, 10, none⟩ = some a10 ∧ w.frozen? ⟨b, 10, none⟩ = false ∧ w.cell? ⟨b, 11, none⟩ = some a11 ∧ w.frozen? ⟨b, 11, none⟩ = false ∧ w.cell? ⟨b, 12, none⟩ = some a12 ∧ w.frozen? ⟨b, 12, none⟩ = false ∧ w.cell? ⟨b, 13, none⟩ = some a13 ∧ w.frozen? ⟨b, 13, none⟩ = false ∧ w.cell? ⟨b, 14, none⟩ = some a14 ∧ w.frozen? ⟨b, 14, none⟩ = false ∧ w.cell? ⟨b, 15, none⟩ = some a15 ∧ w.frozen? ⟨b, 15, none⟩ = false ∧ w.cell? ⟨b, 16, none⟩ = some a16 ∧ w.frozen? ⟨b, 16, none⟩ = false ∧ w.cell? ⟨b, 17, none⟩ = some a17 ∧ w.frozen? ⟨b, 17, none⟩ = false :=
 ⟨h.cell i hi 0 rfl, h.free i hi 0, h.cell i hi 1 rfl, h.free i hi 1, h.cell i hi 2 rfl, h.free i hi 2, h.cell i hi 3 rfl, h.free i hi 3, h.cell i hi 4 rfl, h.free i hi 4, h.cell i hi 5 rfl, h.free i hi 5, h.cell i hi 6 rfl, h.free i hi 6, h.cell i hi 7 rfl, h.free i hi 7, h.cell i hi 8 rfl, h.free i hi 8, h.cell i hi 9 rfl, h.free i hi 9, h.cell i hi 10 rfl, h.free i hi 10, h.cell i hi 11 rfl, h.free i hi 11, h.cell i hi 12 rfl, h.free i hi 12, h.cell i hi 13 rfl, h.free i hi 13, h.cell i hi 14 rfl, h.free i hi 14, h.cell i hi 15 rfl, h.free i hi 15, h.cell i hi 16 rfl, h.free i hi 16, h.cell i hi 17 rfl, h.free i hi 17⟩
theorem eqIn_edge (d : Nat) (p f : Int) (w : World) : (Op.equalIn (d + 2) 29 (.agg #[.int .i64 p, .int .i64 f]) (.agg #[.int .i64 0, .int .i64 0])).run Try.prog w = .ok (decide (p = 0 ∧ f = 0)) w := by
 have h := Try.underlying29; have h2 := Try.underlying3; simp [Op.equalIn, run_underlying h, run_underlying h2, part, go_sem]
 by_cases hp : p = 0 <;> by_cases hf : f = 0 <;> simp [hp, hf]
theorem edge_eq (p f : Int) (w : World) : (binOp .eql 29 (.agg #[.int .i64 p, .int .i64 f]) (.agg #[.int .i64 0, .int .i64 0])).run Try.prog w = .ok (.bool (decide (p = 0 ∧ f = 0))) w := by
 have h := Try.underlying29; simp [binOp, run_underlying h, go_sem, Op.equal, Op.maxDepth, eqIn_edge 9998]
theorem edge_ne (p f : Int) (w : World) : (binOp .neq 29 (.agg #[.int .i64 p, .int .i64 f]) (.agg #[.int .i64 0, .int .i64 0])).run Try.prog w = .ok (.bool (!decide (p = 0 ∧ f = 0))) w := by
 have h := Try.underlying29; simp [binOp, run_underlying h, go_sem, Op.equal, Op.maxDepth, eqIn_edge 9998]
attribute [local go_sem ↓] edge_eq edge_ne

set_option maxHeartbeats 800000 in
theorem edged_any (k : Int) (W : World) : Calls Try.prog 26 #[.int .i64 k] W fun e w' => e = .returned (.bool (edOk k)) ∧ w' = W := by
 obtain ⟨B, hB⟩ : ∃ B, W.heap.size = B := ⟨_, rfl⟩; have HI0 := hid (St.init hB)
 go_enter Try.func26, Try.ntmps26
 by_cases c1 : (k : Int) = 1
 ·
  obtain ⟨c1c, c1d⟩ : (k : Int) ≤ 1 ∧ (1 : Int) ≤ k := by omega
  have c1a : ((k : Int) == (1)) = true := by simpa using c1
  have c1b : ((k : Int) != (1)) = false := by simpa using c1
  have c1h := hid c1; clear c1; go_wp2_with fail
  go_ret
  exact ⟨ret_b (by unfold edOk; have := c1h.out; exact (decide_eq_true (by omega)).symm), rfl⟩
 have c1a : ((k : Int) == (1)) = false := by simpa using c1
 have c1b : ((k : Int) != (1)) = true := by simpa using c1
 have c1h := hid c1; clear c1; by_cases c2 : (k : Int) = 2
 ·
  obtain ⟨c2c, c2d⟩ : (k : Int) ≤ 2 ∧ (2 : Int) ≤ k := by omega
  have c2a : ((k : Int) == (2)) = true := by simpa using c2
  have c2b : ((k : Int) != (2)) = false := by simpa using c2
  have c2h := hid c2; clear c2; go_wp2_with fail
  go_ret
  exact ⟨ret_b (by unfold edOk; have := c1h.out; have := c2h.out; exact (decide_eq_true (by omega)).symm), rfl⟩
 have c2a : ((k : Int) == (2)) = false := by simpa using c2
 have c2b : ((k : Int) != (2)) = true := by simpa using c2
 have c2h := hid c2; clear c2; go_wp2_with fail
 go_ret
 exact ⟨ret_b (by unfold edOk; have := c1h.out; have := c2h.out; rw [Bool.eq_iff_iff]; simp; omega), rfl⟩

set_option maxHeartbeats 800000 in
theorem redged_any (k : Int) (W : World) : Calls Try.prog 30 #[.int .i64 k] W fun e w' => e = .returned (.bool (edOk k)) ∧ w' = W := by
 obtain ⟨B, hB⟩ : ∃ B, W.heap.size = B := ⟨_, rfl⟩; have HI0 := hid (St.init hB)
 go_enter Try.func30, Try.ntmps30
 by_cases c3 : (k : Int) = 1
 ·
  obtain ⟨c3c, c3d⟩ : (k : Int) ≤ 1 ∧ (1 : Int) ≤ k := by omega
  have c3a : ((k : Int) == (1)) = true := by simpa using c3
  have c3b : ((k : Int) != (1)) = false := by simpa using c3
  have c3h := hid c3; clear c3; go_wp2_with fail
  go_ret
  exact ⟨ret_b (by unfold edOk; have := c3h.out; exact (decide_eq_true (by omega)).symm), rfl⟩
 have c3a : ((k : Int) == (1)) = false := by simpa using c3
 have c3b : ((k : Int) != (1)) = true := by simpa using c3
 have c3h := hid c3; clear c3; by_cases c4 : (k : Int) = 2
 ·
  obtain ⟨c4c, c4d⟩ : (k : Int) ≤ 2 ∧ (2 : Int) ≤ k := by omega
  have c4a : ((k : Int) == (2)) = true := by simpa using c4
  have c4b : ((k : Int) != (2)) = false := by simpa using c4
  have c4h := hid c4; clear c4; go_wp2_with fail
  go_ret
  exact ⟨ret_b (by unfold edOk; have := c3h.out; have := c4h.out; exact (decide_eq_true (by omega)).symm), rfl⟩
 have c4a : ((k : Int) == (2)) = false := by simpa using c4
 have c4b : ((k : Int) != (2)) = true := by simpa using c4
 have c4h := hid c4; clear c4; go_wp2_with fail
 go_ret
 exact ⟨ret_b (by unfold edOk; have := c3h.out; have := c4h.out; rw [Bool.eq_iff_iff]; simp; omega), rfl⟩

def isIn (k : Int) (ls : List Int) : Bool := ls.any fun z => decide (k = z)
set_option maxHeartbeats 1600000 in
theorem is_any (a : Option Addr) (n c : Nat) (ls : List Int) (bs : Nat) (kd : Int) (W : World) (hs : Slc W a n c ls) (h0 : 0 < n) (CK : Hid (W.cell? ⟨bs, 0, none⟩ = some (.int .i64 kd))) :
    Calls Try.prog 33 #[.slice a n c, .pointer (some ⟨bs, 0, none⟩)] W fun e w' => e = .returned (.bool (isIn kd ls)) ∧ Below W.heap.size W w' := by
  obtain ⟨B, hB⟩ : ∃ B, W.heap.size = B := ⟨_, rfl⟩; have HI0 := hid (St.init hB); have HL := hid hs.len; have nmx : (n : Int) ≤ 9223372036854775807 := by have := hs.nc; have := hs.cap; omega
  obtain ⟨lb, lo, hla⟩ := row_at hs.row h0; subst hla; have HS := hid hs; clear hs
  go_enter Try.func33, Try.ntmps33
  go_wp2_with fail
  go_loopw [8] (fun i wr => ∃ j : Nat, j ≤ n ∧ (∀ i, i < j → kd ≠ ls.getD i 0) ∧ i = .int .i64 j ∧ St B W [] [] wr) (fun i _ => n - (intOf i).toNat)
  case atStart => exact ⟨0, by omega, fun i hi => by omega, rfl, HI0.out⟩
  case round =>
    obtain ⟨j, hj, hall, rfl, hst⟩ := hrel; obtain ⟨u5, rfl⟩ : ∃ u5 : World, u5 = wr := ⟨_, rfl⟩; have H6 := hid hst; clear hst; have HALL := hid hall; clear hall; by_cases hjn : j < n
    · skip
      have hjn' : (j : Int) < n := by omega
      have cz := row_cell (H6.out.old HS.out).row (j := j) hjn; obtain ⟨z, hz⟩ : ∃ z, ls.getD j 0 = z := ⟨_, rfl⟩; rw [hz] at cz; have HZ := hid hz; clear hz; by_cases hkz : kd = z
      · skip
        have ke : (kd == z) = true := by simpa using hkz
        have HKZ := hid hkz; clear hkz; have z7 := H6.out.oldCell CK.out; go_wp2_with fail
        clear z7
        go_ret
        exact ⟨ret_b (by unfold isIn; exact (List.any_eq_true.2 ⟨z, by rw [← HZ.out, List.getD_eq_getElem?_getD, List.getElem?_eq_getElem (by rw [HL.out]; exact hjn)]; exact List.getElem_mem _, by simpa using HKZ.out⟩).symm), H6.out.bl⟩
      · skip
        have ke : (kd == z) = false := by simpa using hkz
        have HNE := hid (show kd ≠ z from hkz); clear hkz; have z8 := H6.out.oldCell CK.out; go_wp2_with fail
        clear z8
        go_roundw
        case rel => exact ⟨j + 1, by omega, fun i hi => by rcases Nat.lt_or_ge i j with h' | h'; exact HALL.out i h'; rw [show i = j by omega, HZ.out]; exact HNE.out, by go_num, H6.out⟩
        case measure => first | (simp [intOf]; omega) | (simp [intOf]; done)
    · skip
      have hjn' : ¬ ((j : Int) < n) := by omega
      have HJN := hid (show n = j by omega); go_wp2_with fail
      go_ret
      exact ⟨ret_b (by unfold isIn; refine (List.any_eq_false.2 fun x hx => ?_).symm; obtain ⟨i, hi, rfl⟩ := mem_getD' hx; simpa using HALL.out i (by rw [HL.out, HJN.out] at hi; exact hi)), H6.out.bl⟩
end Go.Proofs.Yteejjnhlfgjlaaa
