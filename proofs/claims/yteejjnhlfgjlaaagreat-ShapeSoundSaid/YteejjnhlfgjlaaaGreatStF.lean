/-
 Contracts: which fields a stage may use, in the program and in the reference.
-/
import Derived.Test.YteejjnhlfgjlaaaGreatKJ
namespace Go.Proofs.YteejjnhlfgjlaaaGreat
open Go.RowKit
attribute [local go_sem ↓] Go.wp_at_zero Go.wp_at_succ
set_option linter.unusedVariables false
set_option linter.unusedSimpArgs false

def sfOk (kd b ep ef kw kh : Int) (wn rn cn : Nat) (sh sh2 : Int) (xn yn : Nat) (bins : Int) (on : Nat) (mx : Int) : Bool :=
 decide (1 ≤ kd ∧ kd ≤ 6 ∧ (kd = 6 ∨ b = -1) ∧ (kd ≤ 3 ∨ (ep = 0 ∧ ef = 0)) ∧ (kd = 1 ∨ (kw = 0 ∧ kh = 0 ∧ wn = 0)) ∧ (kd = 2 ∨ (rn = 0 ∧ cn = 0)) ∧ (kd ≤ 3 ∨ sh = 0) ∧ (kd = 2 ∨ kd = 3 ∨ sh2 = 0) ∧ (kd = 3 ∨ (xn = 0 ∧ yn = 0)) ∧ (kd = 4 ∨ bins = 0) ∧ (kd = 6 ∨ on = 0) ∧ (kd ≤ 3 ∨ kd = 6 ∨ mx = 0))
def edOk (k : Int) : Bool := decide (k = 1 ∨ k = 2 ∨ k = 3)
theorem cs18 {B : Nat} {W w : World} {l : List Ch} {rs : List Ro} (h : St B W l rs w) (i : Nat) {b : Nat} {t : TypeId} {a0 a1 a2 a3 a4 a5 a6 a7 a8 a9 a10 a11 a12 a13 a14 a15 a16 a17 : Value} (hi : l[i]? = some (.cells b #[a0, a1, a2, a3, a4, a5, a6, a7, a8, a9, a10, a11, a12, a13, a14, a15, a16, a17] t)) : w.cell? ⟨b, 0, none⟩ = some a0 ∧ w.cell? ⟨b, 1, none⟩ = some a1 ∧ w.cell? ⟨b, 2, none⟩ = some a2 ∧ w.cell? ⟨b, 3, none⟩ = some a3 ∧ w.cell? ⟨b, 4, none⟩ = some a4 ∧ w.cell? ⟨b, 5, none⟩ = some a5 ∧ w.cell? ⟨b, 6, none⟩ = some a6 ∧ w.cell? ⟨b, 7, none⟩ = some a7 ∧ w.cell? ⟨b, 8, none⟩ = some a8 ∧ w.cell? ⟨b, 9, none⟩ = some a9 ∧ w.cell? ⟨b, 10, none⟩ = some a10 ∧ w.cell? ⟨b, 11, none⟩ = some a11 ∧ w.cell? ⟨b, 12, none⟩ = some a12 ∧ w.cell? ⟨b, 13, none⟩ = some a13 ∧ w.cell? ⟨b, 14, none⟩ = some a14 ∧ w.cell? ⟨b, 15, none⟩ = some a15 ∧ w.cell? ⟨b, 16, none⟩ = some a16 ∧ w.cell? ⟨b, 17, none⟩ = some a17 :=
 ⟨h.cell i hi 0 rfl, h.cell i hi 1 rfl, h.cell i hi 2 rfl, h.cell i hi 3 rfl, h.cell i hi 4 rfl, h.cell i hi 5 rfl, h.cell i hi 6 rfl, h.cell i hi 7 rfl, h.cell i hi 8 rfl, h.cell i hi 9 rfl, h.cell i hi 10 rfl, h.cell i hi 11 rfl, h.cell i hi 12 rfl, h.cell i hi 13 rfl, h.cell i hi 14 rfl, h.cell i hi 15 rfl, h.cell i hi 16 rfl, h.cell i hi 17 rfl⟩
theorem cf18 {B : Nat} {W w : World} {l : List Ch} {rs : List Ro} (h : St B W l rs w) (i : Nat) {b : Nat} {t : TypeId} {a0 a1 a2 a3 a4 a5 a6 a7 a8 a9 a10 a11 a12 a13 a14 a15 a16 a17 : Value} (hi : l[i]? = some (.cells b #[a0, a1, a2, a3, a4, a5, a6, a7, a8, a9, a10, a11, a12, a13, a14, a15, a16, a17] t)) : w.cell? ⟨b, 0, none⟩ = some a0 ∧ w.frozen? ⟨b, 0, none⟩ = false ∧ w.cell? ⟨b, 1, none⟩ = some a1 ∧ w.frozen? ⟨b, 1, none⟩ = false ∧ w.cell? ⟨b, 2, none⟩ = some a2 ∧ w.frozen? ⟨b, 2, none⟩ = false ∧ w.cell? ⟨b, 3, none⟩ = some a3 ∧ w.frozen? ⟨b, 3, none⟩ = false ∧ w.cell? ⟨b, 4, none⟩ = some a4 ∧ w.frozen? ⟨b, 4, none⟩ = false ∧ w.cell? ⟨b, 5, none⟩ = some a5 ∧ w.frozen? ⟨b, 5, none⟩ = false ∧ w.cell? ⟨b, 6, none⟩ = some a6 ∧ w.frozen? ⟨b, 6, none⟩ = false ∧ w.cell? ⟨b, 7, none⟩ = some a7 ∧ w.frozen? ⟨b, 7, none⟩ = false ∧ w.cell? ⟨b, 8, none⟩ = some a8 ∧ w.frozen? ⟨b, 8, none⟩ = false ∧ w.cell? ⟨b, 9, none⟩ = some a9 ∧ w.frozen? ⟨b, 9, none⟩ = false ∧ w.cell? ⟨b, 10, none⟩ = some a10 ∧ w.frozen? ⟨b, 10, none⟩ = false ∧ w.cell? ⟨b, 11, none⟩ = some a11 ∧ w.frozen? ⟨b, 11, none⟩ = false ∧ w.cell? ⟨b, 12, none⟩ = some a12 ∧ w.frozen? ⟨b, 12, none⟩ = false ∧ w.cell? ⟨b, 13, none⟩ = some a13 ∧ w.frozen? ⟨b, 13, none⟩ = false ∧ w.cell? ⟨b, 14, none⟩ = some a14 ∧ w.frozen? ⟨b, 14, none⟩ = false ∧ w.cell? ⟨b, 15, none⟩ = some a15 ∧ w.frozen? ⟨b, 15, none⟩ = false ∧ w.cell? ⟨b, 16, none⟩ = some a16 ∧ w.frozen? ⟨b, 16, none⟩ = false ∧ w.cell? ⟨b, 17, none⟩ = some a17 ∧ w.frozen? ⟨b, 17, none⟩ = false :=
 ⟨h.cell i hi 0 rfl, h.free i hi 0, h.cell i hi 1 rfl, h.free i hi 1, h.cell i hi 2 rfl, h.free i hi 2, h.cell i hi 3 rfl, h.free i hi 3, h.cell i hi 4 rfl, h.free i hi 4, h.cell i hi 5 rfl, h.free i hi 5, h.cell i hi 6 rfl, h.free i hi 6, h.cell i hi 7 rfl, h.free i hi 7, h.cell i hi 8 rfl, h.free i hi 8, h.cell i hi 9 rfl, h.free i hi 9, h.cell i hi 10 rfl, h.free i hi 10, h.cell i hi 11 rfl, h.free i hi 11, h.cell i hi 12 rfl, h.free i hi 12, h.cell i hi 13 rfl, h.free i hi 13, h.cell i hi 14 rfl, h.free i hi 14, h.cell i hi 15 rfl, h.free i hi 15, h.cell i hi 16 rfl, h.free i hi 16, h.cell i hi 17 rfl, h.free i hi 17⟩
theorem eqIn_edge (d : Nat) (p f : Int) (w : World) : (Op.equalIn (d + 2) 30 (.agg #[.int .i64 p, .int .i64 f]) (.agg #[.int .i64 0, .int .i64 0])).run Tryz.prog w = .ok (decide (p = 0 ∧ f = 0)) w := by
 have h := Tryz.underlying30; have h2 := Tryz.underlying3; simp [Op.equalIn, run_underlying h, run_underlying h2, part, go_sem]
 by_cases hp : p = 0 <;> by_cases hf : f = 0 <;> simp [hp, hf]
theorem edge_eq (p f : Int) (w : World) : (binOp .eql 30 (.agg #[.int .i64 p, .int .i64 f]) (.agg #[.int .i64 0, .int .i64 0])).run Tryz.prog w = .ok (.bool (decide (p = 0 ∧ f = 0))) w := by
 have h := Tryz.underlying30; simp [binOp, run_underlying h, go_sem, Op.equal, Op.maxDepth, eqIn_edge 9998]
theorem edge_ne (p f : Int) (w : World) : (binOp .neq 30 (.agg #[.int .i64 p, .int .i64 f]) (.agg #[.int .i64 0, .int .i64 0])).run Tryz.prog w = .ok (.bool (!decide (p = 0 ∧ f = 0))) w := by
 have h := Tryz.underlying30; simp [binOp, run_underlying h, go_sem, Op.equal, Op.maxDepth, eqIn_edge 9998]
attribute [local go_sem ↓] edge_eq edge_ne

set_option maxHeartbeats 800000 in
theorem edged_any (k : Int) (W : World) : Calls Tryz.prog 24 #[.int .i64 k] W fun e w' => e = .returned (.bool (edOk k)) ∧ w' = W := by
 obtain ⟨B, hB⟩ : ∃ B, W.heap.size = B := ⟨_, rfl⟩; have HI0 := kq (St.init hB)
 go_enter Tryz.func24, Tryz.ntmps24
 rcases eqZ k 1 with ⟨c1a, c1b, c1c, c1d, c1h⟩ | ⟨c1a, c1b, c1h⟩
 ·
  go_wp2_with fail
  go_ret
  exact ⟨ret_b (by unfold edOk; have := c1h.o; exact (decide_eq_true (by omega)).symm), rfl⟩
 rcases eqZ k 2 with ⟨c2a, c2b, c2c, c2d, c2h⟩ | ⟨c2a, c2b, c2h⟩
 ·
  go_wp2_with fail
  go_ret
  exact ⟨ret_b (by unfold edOk; have := c1h.o; have := c2h.o; exact (decide_eq_true (by omega)).symm), rfl⟩
 go_wp2_with fail
 go_ret
 exact ⟨ret_b (by unfold edOk; have := c1h.o; have := c2h.o; rw [Bool.eq_iff_iff]; simp; omega), rfl⟩

set_option maxHeartbeats 800000 in
theorem redged_any (k : Int) (W : World) : Calls Tryz.prog 46 #[.int .i64 k] W fun e w' => e = .returned (.bool (edOk k)) ∧ w' = W := by
 obtain ⟨B, hB⟩ : ∃ B, W.heap.size = B := ⟨_, rfl⟩; have HI0 := kq (St.init hB)
 go_enter Tryz.func46, Tryz.ntmps46
 rcases eqZ k 1 with ⟨c3a, c3b, c3c, c3d, c3h⟩ | ⟨c3a, c3b, c3h⟩
 ·
  go_wp2_with fail
  go_ret
  exact ⟨ret_b (by unfold edOk; have := c3h.o; exact (decide_eq_true (by omega)).symm), rfl⟩
 rcases eqZ k 2 with ⟨c4a, c4b, c4c, c4d, c4h⟩ | ⟨c4a, c4b, c4h⟩
 ·
  go_wp2_with fail
  go_ret
  exact ⟨ret_b (by unfold edOk; have := c3h.o; have := c4h.o; exact (decide_eq_true (by omega)).symm), rfl⟩
 go_wp2_with fail
 go_ret
 exact ⟨ret_b (by unfold edOk; have := c3h.o; have := c4h.o; rw [Bool.eq_iff_iff]; simp; omega), rfl⟩

def isIn (k : Int) (ls : List Int) : Bool := ls.any fun z => decide (k = z)
set_option maxHeartbeats 1600000 in
theorem is_any (a : Option Addr) (n c : Nat) (ls : List Int) (bs : Nat) (kd : Int) (W : World) (hs : Slc W a n c ls) (h0 : 0 < n) (CK : Kq (W.cell? ⟨bs, 0, none⟩ = some (.int .i64 kd))) :
  Calls Tryz.prog 38 #[.slice a n c, .pointer (some ⟨bs, 0, none⟩)] W fun e w' => e = .returned (.bool (isIn kd ls)) ∧ Below W.heap.size W w' := by
 obtain ⟨B, hB⟩ : ∃ B, W.heap.size = B := ⟨_, rfl⟩; have HI0 := kq (St.init hB); have HL := kq hs.len; have nmx : (n : Int) ≤ 9223372036854775807 := by have := hs.nc; have := hs.cap; omega
 obtain ⟨lb, lo, hla⟩ := row_at hs.row h0; subst hla; have HS := kq hs; clear hs
 go_enter Tryz.func38, Tryz.ntmps38
 go_wp2_with fail
 go_loopw [8] (fun i wr => ∃ j : Nat, j ≤ n ∧ (∀ i, i < j → kd ≠ ls.getD i 0) ∧ i = .int .i64 j ∧ St B W [] [] wr) (fun i _ => n - (intOf i).toNat)
 case atStart => exact ⟨0, by omega, fun i hi => by omega, rfl, HI0.o⟩
 case round =>
  obtain ⟨j, hj, hall, rfl, hst⟩ := hrel; obtain ⟨u5, rfl⟩ : ∃ u5 : World, u5 = wr := ⟨_, rfl⟩; have H6 := kq hst; clear hst; have HALL := kq hall; clear hall; by_cases hjn : j < n
  ·
   have hjn' : (j : Int) < n := by omega
   have cz := row_cell (H6.o.old HS.o).row (j := j) hjn; obtain ⟨z, hz⟩ := nK (ls.getD j 0); rw [hz] at cz; have HZ := kq hz; clear hz; by_cases hkz : kd = z
   ·
    have ke : (kd == z) = true := by simpa using hkz
    have HKZ := kq hkz; clear hkz; have z7 := H6.o.oldCell CK.o; go_wp2_with fail
    clear z7
    go_ret
    exact ⟨ret_b (by unfold isIn; exact (List.any_eq_true.2 ⟨z, by rw [← HZ.o, List.getD_eq_getElem?_getD, List.getElem?_eq_getElem (by rw [HL.o]; exact hjn)]; exact List.getElem_mem _, by simpa using HKZ.o⟩).symm), H6.o.bl⟩
   have ke : (kd == z) = false := by simpa using hkz
   have HNE := kq (show kd ≠ z from hkz); clear hkz; have z8 := H6.o.oldCell CK.o; go_wp2_with fail
   clear z8
   go_roundw
   case rel => exact ⟨j + 1, by omega, fun i hi => by rcases Nat.lt_or_ge i j with h' | h'; exact HALL.o i h'; rw [show i = j by omega, HZ.o]; exact HNE.o, by go_num, H6.o⟩
   case measure => first | (simp [intOf]; omega) | (simp [intOf]; done)
  have hjn' : ¬ ((j : Int) < n) := by omega
  have HJN := kq (show n = j by omega); go_wp2_with fail
  go_ret
  exact ⟨ret_b (by unfold isIn; refine (List.any_eq_false.2 fun x hx => ?_).symm; obtain ⟨i, hi, rfl⟩ := mem_getD' hx; simpa using HALL.o i (by rw [HL.o, HJN.o] at hi; exact hi)), H6.o.bl⟩
end Go.Proofs.YteejjnhlfgjlaaaGreat
