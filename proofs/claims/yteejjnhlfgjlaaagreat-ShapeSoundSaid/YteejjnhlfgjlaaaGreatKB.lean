/-
 Contracts of package rect and of its reference. Contracts: one rectangle inside another, and full rectangles. Contracts: products with a limit, and the areas of planes. Contracts: which planes are valid, in the program and in the reference. Contract: new planes, in the reference. Contracts: which edges are valid, in the program and in the reference. Contracts: products with a limit, for all integers. Contracts: how great the pixels of an integral plane may be, in the program and in the reference. Contracts: the bin of a pixel. Contract: the histogram of a rectangle of a plane, in the program. Contracts: the rectangle that a plane covers. Contracts: numbers beyond a limit; the sum of a rectangle out of an integral plane, in the program and in the reference. Contracts: equal rows and equal planes, in the reference; the tape's Plane and Edge.
-/
import Derived.Test.YteejjnhlfgjlaaaGreatProg
import Derived.Test.YteejjnhlfgjlaaaGreatKA
import Derived.WalkLawsBesides
import Derived.WalkSpells
import Derived.Deep.Light
import Derived.Deep.QuietTactic
import Derived.BigQuiet
import Derived.Deep.RegionHeld3
namespace Go.Proofs.YteejjnhlfgjlaaaGreat
section
open Go.RowKit

set_option maxHeartbeats 400000 in
theorem rcoord_any (v : Int) (w : World) :
  Calls Tryz.prog 112 #[.int .i64 v] w fun e w' => e = .returned (.bool (rIn v)) ∧ w = w' := by
 go_enter Tryz.func112, Tryz.ntmps112
 go_wp2
 all_goals go_ret
 all_goals refine ⟨ret_b ?_, rfl⟩
 all_goals go_light
 all_goals (unfold rIn; simp; try omega)

set_option maxHeartbeats 400000 in
theorem qempty_any (x0 y0 x1 y1 : Int) (w : World) :
  Calls Tryz.prog 99 #[.agg #[.int .i64 x0, .int .i64 y0, .int .i64 x1, .int .i64 y1]] w fun e w' => e = .returned (.bool (rEmpty x0 y0 x1 y1)) ∧ Below w.heap.size w w' := by
 go_enter Tryz.func99, Tryz.ntmps99
 go_wp2
 all_goals go_ret
 all_goals refine ⟨ret_b ?_, below_self _ _⟩
 all_goals go_light
 all_goals (unfold rEmpty; simp [*])

set_option maxHeartbeats 800000 in
theorem qvalid_any (x0 y0 x1 y1 : Int) (w : World) :
    Calls Tryz.prog 98 #[.agg #[.int .i64 x0, .int .i64 y0, .int .i64 x1, .int .i64 y1]] w fun e w' => e = .returned (.bool (rValid x0 y0 x1 y1)) ∧ Below w.heap.size w w' := by
  go_enter Tryz.func98, Tryz.ntmps98
  go_wp2_with (first
      | (go_at_call 112; refine (rcoord_any _ _).mono ?_; rintro e w' ⟨rfl, rfl⟩))
  all_goals go_ret
  all_goals refine ⟨ret_b ?_, below_self _ _⟩
  all_goals go_light
  all_goals (try simp only [rIn, decide_eq_true_eq] at *)
  all_goals (refine bool_of_iff ?_; rw [rValid_iff]; simp; try omega)
end

section
open Go.RowKit
set_option linter.unusedVariables false

set_option maxRecDepth 100000 in
set_option maxHeartbeats 1600000 in
theorem qinside_any (a0 a1 a2 a3 b0 b1 b2 b3 : Int) (w : World) :
  Calls Tryz.prog 74 #[.agg #[.int .i64 a0, .int .i64 a1, .int .i64 a2, .int .i64 a3], .agg #[.int .i64 b0, .int .i64 b1, .int .i64 b2, .int .i64 b3]] w fun e w' => e = .returned (.bool (rInside a0 a1 a2 a3 b0 b1 b2 b3)) ∧ Below w.heap.size w w' := by
 obtain ⟨B, hB⟩ : ∃ B, w.heap.size = B := ⟨_, rfl⟩; cases va : rValid a0 a1 a2 a3 with
 | false =>
  have VA := kq va; clear va
  go_enter Tryz.func74, Tryz.ntmps74
  go_wp2_with fail
  refine (qvalid_any _ _ _ _ _).mono ?_; rintro e w1 ⟨rfl, hb⟩; rw [VA.o]; have S1 := kq (Since.call (((Since.self hB).alloc _).alloc _) hb); clear hb
  go_wp2
  go_ret
  exact ⟨ret_b (by simp [rInside, VA.o]), by first | exact S1.o.all hB | exact S1.o.below⟩
 | true =>
  have VA := kq va; clear va; cases vb : rValid b0 b1 b2 b3 with
  | false =>
   have VB := kq vb; clear vb
   go_enter Tryz.func74, Tryz.ntmps74
   go_wp2_with fail
   refine (qvalid_any _ _ _ _ _).mono ?_; rintro e w1 ⟨rfl, hb⟩; rw [VA.o]; have KA := kept hb (alloc_past _ (alloc_at _ hB)); obtain ⟨KP, p1_0, p1_1, p1_2, p1_3⟩ := kept4 hb (alloc_at _ (alloc_size _ hB)); have S1 := kq (Since.call (((Since.self hB).alloc _).alloc _) hb); have HA1 := kq KA; have HP1 := kq KP; clear hb KA KP; go_wp2_with fail
   refine (qvalid_any _ _ _ _ _).mono ?_; rintro e w2 ⟨rfl, hb⟩; rw [VB.o]; have S2 := kq (Since.call S1.o hb); clear hb
   go_wp2
   go_ret
   exact ⟨ret_b (by simp [rInside, VB.o]), by first | exact S2.o.all hB | exact S2.o.below⟩
  | true =>
   have VB := kq vb; clear vb; cases he : rEmpty a0 a1 a2 a3 with
   | true =>
    have HE := kq he; clear he
    go_enter Tryz.func74, Tryz.ntmps74
    go_wp2_with fail
    refine (qvalid_any _ _ _ _ _).mono ?_; rintro e w1 ⟨rfl, hb⟩; rw [VA.o]; have KA := kept hb (alloc_past _ (alloc_at _ hB)); obtain ⟨KP, p1_0, p1_1, p1_2, p1_3⟩ := kept4 hb (alloc_at _ (alloc_size _ hB)); have S1 := kq (Since.call (((Since.self hB).alloc _).alloc _) hb); have HA1 := kq KA; have HP1 := kq KP; clear hb KA KP; go_wp2_with fail
    refine (qvalid_any _ _ _ _ _).mono ?_; rintro e w2 ⟨rfl, hb⟩; rw [VB.o]; clear p1_0 p1_1 p1_2 p1_3; obtain ⟨KA, a2_0, a2_1, a2_2, a2_3⟩ := kept4 hb HA1.o; have KP := kept hb HP1.o; have S2 := kq (Since.call S1.o hb); have HA2 := kq KA; have HP2 := kq KP; clear hb KA KP; go_wp2_with fail
    refine (qempty_any _ _ _ _ _).mono ?_; rintro e w3 ⟨rfl, hb⟩; rw [HE.o]; clear a2_0 a2_1 a2_2 a2_3; have S3 := kq (Since.call S2.o hb); clear hb
    go_wp2
    go_ret
    exact ⟨ret_b (by simp [rInside, VA.o, VB.o, HE.o]), by first | exact S3.o.all hB | exact S3.o.below⟩
   | false =>
    have HE := kq he; clear he
    go_enter Tryz.func74, Tryz.ntmps74
    go_wp2_with fail
    refine (qvalid_any _ _ _ _ _).mono ?_; rintro e w1 ⟨rfl, hb⟩; rw [VA.o]; have KA := kept hb (alloc_past _ (alloc_at _ hB)); obtain ⟨KP, p1_0, p1_1, p1_2, p1_3⟩ := kept4 hb (alloc_at _ (alloc_size _ hB)); have S1 := kq (Since.call (((Since.self hB).alloc _).alloc _) hb); have HA1 := kq KA; have HP1 := kq KP; clear hb KA KP; go_wp2_with fail
    refine (qvalid_any _ _ _ _ _).mono ?_; rintro e w2 ⟨rfl, hb⟩; rw [VB.o]; clear p1_0 p1_1 p1_2 p1_3; obtain ⟨KA, a2_0, a2_1, a2_2, a2_3⟩ := kept4 hb HA1.o; have KP := kept hb HP1.o; have S2 := kq (Since.call S1.o hb); have HA2 := kq KA; have HP2 := kq KP; clear hb KA KP; go_wp2_with fail
    refine (qempty_any _ _ _ _ _).mono ?_; rintro e w3 ⟨rfl, hb⟩; rw [HE.o]; clear a2_0 a2_1 a2_2 a2_3; obtain ⟨KA, a3_0, a3_1, a3_2, a3_3⟩ := kept4 hb HA2.o; obtain ⟨KP, p3_0, p3_1, p3_2, p3_3⟩ := kept4 hb HP2.o; have S3 := kq (Since.call S2.o hb); have HA3 := kq KA; have HP3 := kq KP; clear hb KA KP
    go_wp2
    all_goals go_ret
    all_goals refine ⟨ret_b ?_, by first | exact S3.o.all hB | exact S3.o.below⟩
    all_goals (simp only [rInside, VA.o, VB.o, HE.o])
    all_goals go_light
    all_goals (refine bool_of_iff ?_; simp; try omega)

def rFull (a0 a1 a2 a3 : Int) : Bool := rValid a0 a1 a2 a3 && !rEmpty a0 a1 a2 a3

set_option maxRecDepth 100000 in
theorem qfull_any (a0 a1 a2 a3 : Int) (w : World) :
  Calls Tryz.prog 73 #[.agg #[.int .i64 a0, .int .i64 a1, .int .i64 a2, .int .i64 a3]] w fun e w' => e = .returned (.bool (rFull a0 a1 a2 a3)) ∧ Below w.heap.size w w' := by
 obtain ⟨B, hB⟩ : ∃ B, w.heap.size = B := ⟨_, rfl⟩
 go_enter Tryz.func73, Tryz.ntmps73
 go_wp2_with fail
 refine (qvalid_any _ _ _ _ _).mono ?_; rintro e w1 ⟨rfl, hb⟩; obtain ⟨KA, a1_0, a1_1, a1_2, a1_3⟩ := kept4 hb (alloc_at _ hB); have S1 := kq (Since.call ((Since.self hB).alloc _) hb); clear hb KA; cases va : rValid a0 a1 a2 a3 with
 | false =>
  have VA := kq va; clear va
  go_wp2
  go_ret
  exact ⟨ret_b (by simp [rFull, VA.o]), by first | exact S1.o.all hB | exact S1.o.below⟩
 | true =>
  have VA := kq va; clear va; go_wp2_with fail
  refine (qempty_any _ _ _ _ _).mono ?_; rintro e w2 ⟨rfl, hb⟩; have S2 := kq (Since.call S1.o hb); clear hb
  go_wp2
  go_ret
  exact ⟨ret_b (by simp [rFull, VA.o]), by first | exact S2.o.all hB | exact S2.o.below⟩
end

section
open Go.RowKit
set_option linter.unusedVariables false
set_option linter.unusedSimpArgs false

theorem qsize_any (a b mx : Int) (w : World) :
  Calls Tryz.prog 35 #[.int .i64 a, .int .i64 b, .int .i64 mx] w fun e w' => e = .returned (.bool (pOk a b mx)) ∧ w' = w := by
 by_cases h : 1 ≤ a ∧ a ≤ 128 ∧ 1 ≤ b ∧ b ≤ 128
 ·
  obtain ⟨a1, a2, b1, b2⟩ := h; have p1 : a * b ≤ 128 * 128 := Int.mul_le_mul a2 b2 (by omega) (by omega); have p2 : 0 ≤ a * b := Int.mul_nonneg (by omega) (by omega); have e : pOk a b mx = decide (a * b ≤ 4096 ∧ 1 ≤ mx ∧ mx ≤ 4294967296) := bool_of_iff (by rw [pOk_iff, decide_eq_true_eq]; omega); rw [e]; clear e
  go_enter Tryz.func35, Tryz.ntmps35
  go_wp2
  all_goals (go_ret; refine ⟨ret_b (bool_of_iff ?_), rfl⟩; simp only [decide_eq_true_eq, Bool.false_eq_true, false_iff, true_iff, Bool.and_eq_true, iff_false, iff_true] <;> omega)
 have e1 : pOk a b mx = false := by rw [← Bool.not_eq_true, pOk_iff]; omega
 rw [e1]; clear e1
 go_enter Tryz.func35, Tryz.ntmps35
 go_wp2
 all_goals first
  | (go_ret; exact ⟨rfl, rfl⟩)
  | (exfalso; omega)
end

section
open Go.RowKit
set_option linter.unusedVariables false

structure PBox (B : Nat) (w h mx : Int) (a : Option Addr) (n c : Nat) (zs : List Int) (W w' : World) : Prop where
 box : w'.heap[B]? = some (.cells #[.int .i64 w, .int .i64 h, .int .i64 mx, .slice a n c] 26 (0, 0))
 row : Row w' .i64 a n zs
 since : Since B W w'
theorem PBox.cells {B : Nat} {w h mx : Int} {a : Option Addr} {n c : Nat} {zs : List Int} {W w' : World} (p : PBox B w h mx a n c zs W w') : w'.cell? ⟨B, 0, none⟩ = some (.int .i64 w) ∧ w'.cell? ⟨B, 1, none⟩ = some (.int .i64 h) ∧ w'.cell? ⟨B, 2, none⟩ = some (.int .i64 mx) ∧ w'.cell? ⟨B, 3, none⟩ = some (.slice a n c) :=
 ⟨cell_of p.box rfl, cell_of p.box rfl, cell_of p.box rfl, cell_of p.box rfl⟩
theorem PBox.call {B : Nat} {w h mx : Int} {a : Option Addr} {n c : Nat} {zs : List Int} {W w1 w' : World} (p : PBox B w h mx a n c zs W w1) (hb : Below w1.heap.size w1 w') : PBox B w h mx a n c zs W w' := ⟨kept hb p.box, p.row.below hb, p.since.call hb⟩
theorem PBox.drewN {B : Nat} {w h mx : Int} {a : Option Addr} {n c : Nat} {zs : List Int} {W w1 : World} (p : PBox B w h mx a n c zs W w1) (m : Nat) : PBox B w h mx a n c zs W (w1.drewN m) := p.call (below_drewN (Below.refl _ _) _)

set_option maxRecDepth 100000 in
set_option maxHeartbeats 1600000 in
theorem qpvalid_any (w h mx : Int) (a : Option Addr) (n c : Nat) (zs : List Int) (W : World) (hn : n ≤ 9223372036854775807) (hr : Row W .i64 a n zs) :
  Calls Tryz.prog 15 #[.agg #[.int .i64 w, .int .i64 h, .int .i64 mx, .slice a n c]] W fun e w' => e = .returned (.bool (pValid w h mx zs)) ∧ Below W.heap.size W w' := by
 obtain ⟨B, hB⟩ : ∃ B, W.heap.size = B := ⟨_, rfl⟩; have P0 := kq (PBox.mk (w := w) (h := h) (mx := mx) (c := c) (alloc_at (.cells #[.int .i64 w, .int .i64 h, .int .i64 mx, .slice a n c] 26) hB) (hr.alloc _) ((Since.self hB).alloc _)); have HL := kq hr.len; clear hr
 go_enter Tryz.func15, Tryz.ntmps15
 go_wp2_with fail
 refine (qsize_any _ _ _ _).mono ?_; rintro e w' ⟨rfl, rfl⟩; cases hp : pOk w h mx with
 | false =>
  have HV := kq (pValid_no (w := w) (h := h) (mx := mx) (zs := zs) (.inl hp)); clear hp; go_wp2_with fail
  go_ret
  exact ⟨by rw [HV.o]; rfl, by first | exact P0.o.since.all hB | exact P0.o.since.below⟩
 | true =>
  obtain ⟨p1, p2, p3, p4, p5, _, _⟩ := pOk_iff.1 hp; have p0' : 0 ≤ w * h := Int.mul_nonneg (by omega) (by omega); obtain ⟨s, hs, wr⟩ : ∃ s, w * h = s ∧ IntKind.i64.wrap (w * h) = s := ⟨_, rfl, IntWalk.i64_in _ (by omega)⟩; rw [hs] at p0' p5; have HS := kq hs; have HP := kq hp; clear hs hp; by_cases hns : (n : Int) = s
  ·
   subst hns; have HV := kq (show allIn mx zs = true → pValid w h mx zs = true from fun ha => pValid_iff.2 ⟨HP.o, by rw [HL.o, HS.o], allIn_iff.1 ha⟩); have p0 := P0.o; clear HS HP; go_wp2_with fail
   go_loopw [3] (fun j wr => ∃ k : Nat, k ≤ n ∧ j = .int .i64 k ∧ (∀ i, i < k → 0 ≤ zs.getD i 0 ∧ zs.getD i 0 ≤ mx) ∧ PBox B w h mx a n c zs W wr) (fun j _ => n - (intOf j).toNat)
   case atStart => exact ⟨0, by omega, rfl, fun i hi => by omega, p0⟩
   case round =>
    obtain ⟨k, hk, rfl, ha, hh⟩ := hrel; obtain ⟨w1, rfl⟩ : ∃ w1 : World, w1 = wr := ⟨_, rfl⟩; have HA := kq ha; have HH := kq hh; obtain ⟨x0, x1, x2, x3⟩ := hh.cells; clear ha hh p0 P0; by_cases hkn : k < n
    ·
     obtain ⟨b, o, rfl⟩ := row_at HH.o.row (by omega); have cz := row_cell HH.o.row hkn; have hlt : k < zs.length := by rw [HL.o]; exact hkn
     have HB := kq (fun hbad : zs.getD k 0 < 0 ∨ mx < zs.getD k 0 => pValid_no (w := w) (h := h) (mx := mx) (zs := zs) (.inr (.inr (allIn_bad hlt hbad))))
     have HI := kq (show 0 ≤ zs.getD k 0 ∧ zs.getD k 0 ≤ mx → ∀ i, i < k + 1 → 0 ≤ zs.getD i 0 ∧ zs.getD i 0 ≤ mx from fun hg i hi => by
      rcases Nat.lt_or_ge i k with h' | h'
      ·
       exact HA.o i h'
      obtain rfl : i = k := by omega
      exact hg)
     generalize zs.getD k 0 = z at *; have hk1 : (k : Int) < n := by omega
     by_cases hz : z < 0
     ·
      go_wp2_with fail
      go_quiet (fail)
      go_wp2_with fail
      go_ret
      exact ⟨by rw [HB.o (by omega)]; rfl, by first | exact (HH.o.since.drewN _).all hB | exact (HH.o.since.drewN _).below⟩
     by_cases hz2 : mx < z
     ·
      go_wp2_with fail
      go_quiet (fail)
      go_wp2_with fail
      go_ret
      exact ⟨by rw [HB.o (by omega)]; rfl, by first | exact (HH.o.since.drewN _).all hB | exact (HH.o.since.drewN _).below⟩
     go_wp2_with fail
     go_quiet (fail)
     go_wp2_with fail
     go_roundw
     case rel => exact ⟨k + 1, by omega, by go_num, HI.o (by omega), HH.o.drewN _⟩
     case measure => simp [intOf]; omega
    have e : k = n := by omega
    subst e; have e1 : allIn mx zs = true := allIn_of fun i hi => HA.o i (by rw [HL.o] at hi; exact hi)
    have HV' := kq (HV.o e1); clear e1; go_wp2_with fail
    go_ret
    exact ⟨by rw [HV'.o]; rfl, by first | exact HH.o.since.all hB | exact HH.o.since.below⟩
  have HV := kq (pValid_no (w := w) (h := h) (mx := mx) (zs := zs) (.inr (.inl (by rw [HL.o, HS.o]; exact hns)))); go_wp2_with fail
  go_ret
  exact ⟨by rw [HV.o]; rfl, by first | exact P0.o.since.all hB | exact P0.o.since.below⟩
end

section
open Go.RowKit
set_option linter.unusedVariables false
set_option linter.unusedSimpArgs false

def nIf (w h mx x : Int) : Int := if pOk w h mx = true then x else 0
def nList (w h mx : Int) : List Int := if pOk w h mx = true then List.replicate (w * h).toNat 0 else []
def NewPost (w h mx : Int) (W : World) (e : Ending) (w' : World) : Prop :=
 ∃ v, e = .returned (.tuple #[.agg #[.int .i64 (nIf w h mx w), .int .i64 (nIf w h mx h), .int .i64 (nIf w h mx mx), v], .bool (pOk w h mx)]) ∧ Own W.heap.size w' v (nList w h mx) ∧ Below W.heap.size W w'

set_option maxRecDepth 100000 in
set_option maxHeartbeats 1600000 in
theorem qnew_any (w h mx : Int) (W : World) : Calls Tryz.prog 52 #[.int .i64 w, .int .i64 h, .int .i64 mx] W (NewPost w h mx W) := by
 obtain ⟨B, hB⟩ : ∃ B, W.heap.size = B := ⟨_, rfl⟩; have H0 := kq ((St.init hB).alloc #[.int .i64 0, .int .i64 0, .int .i64 0, .slice none 0 0] 26 hB)
 go_enter Tryz.func52, Tryz.ntmps52
 go_wp2_with fail
 refine (qsize_any _ _ _ _).mono ?_; rintro e w1 ⟨rfl, rfl⟩; cases hp : pOk w h mx with
 | false =>
  have HI := kq (show ∀ x, nIf w h mx x = 0 from fun x => by unfold nIf; rw [if_neg (by rw [hp]; simp)]); have HL := kq (show nList w h mx = [] by unfold nList; rw [if_neg (by rw [hp]; simp)]); have HP := kq hp; clear hp; go_wp2_with fail
  refine bodyPost_ret (v := .tuple #[.agg #[.int .i64 0, .int .i64 0, .int .i64 0, .slice none 0 0], .bool false]) ?_ rfl ⟨_, by rw [HI.o, HI.o, HI.o, HP.o], by rw [HL.o]; exact Own.nil _ _, H0.o.bl⟩; simp [results, Tryz.results52, go_sem, hB]
 | true =>
  have HI := kq (show ∀ x, nIf w h mx x = x from fun x => by unfold nIf; rw [if_pos hp]); obtain ⟨p1, p2, p3, p4, p5, p6, p7⟩ := pOk_iff.1 hp; have p0 := Int.mul_nonneg (a := w) (b := h) (by omega) (by omega); obtain ⟨N, hN⟩ : ∃ N : Nat, w * h = N := ⟨(w * h).toNat, by omega⟩; have HL := kq (show nList w h mx = List.replicate N 0 by unfold nList; rw [if_pos hp, hN]; rfl); have HP := kq hp; have N1 : N ≤ 4096 := by omega
  have q1 : IntKind.i64.wrap (N : Int) = N := IntWalk.i64_in _ (by omega); clear hp p0
  go_wp2_with (first | (at_make; refine make_int rfl _ _ rfl (B + 1) _ _ N rfl rfl (by first | rfl | exact hN) (by first | rfl | exact hN) (by omega) (by rw [alloc_size _ hB]; omega) ?_; intro w5 ho hb; rw [alloc_size _ hB] at ho ⊢; have H1 := kq (H0.o.made (alloc_size _ hB) ho (by rw [alloc_size _ hB]; rw [alloc_size _ hB] at hb; exact hb)); clear ho hb; have y0 := H1.o.cell 1 rfl 0 rfl; have y1 := H1.o.cell 1 rfl 1 rfl; have y2 := H1.o.cell 1 rfl 2 rfl; have y3 := H1.o.cell 1 rfl 3 rfl; have e0 := H1.o.free 1 rfl 0; have e1 := H1.o.free 1 rfl 1; have e2 := H1.o.free 1 rfl 2; have e3 := H1.o.free 1 rfl 3))
  have HZ := kq (H1.o.set4 1 rfl (.int .i64 w) (.int .i64 h) (.int .i64 mx) (.slice (some ⟨B + 1, 0, none⟩) N N)); obtain ⟨k0, k1, k2, k3⟩ := HZ.o.c4 1 rfl; refine bodyPost_ret (v := .tuple #[.agg #[.int .i64 w, .int .i64 h, .int .i64 mx, .slice (some ⟨B + 1, 0, none⟩) N N], .bool true]) ?_ rfl ⟨_, by rw [HI.o, HI.o, HI.o, HP.o], by rw [HL.o, hB]; exact HZ.o.own 0 rfl, HZ.o.bl⟩
  unfold set4 at k0 k1 k2 k3
  simp [results, Tryz.results52, go_sem, k0, k1, k2, k3]
end

section
open Go.RowKit

set_option maxHeartbeats 400000 in
theorem bvalid_any (p f m : Int) (w : World) :
  Calls Tryz.prog 25 #[.agg #[.int .i64 p, .int .i64 f], .int .i64 m] w fun e w' => e = .returned (.bool (bValid p f m)) ∧ Below w.heap.size w w' := by
 go_enter Tryz.func25, Tryz.ntmps25
 go_wp2
 all_goals go_ret
 all_goals refine ⟨ret_b ?_, (Below.refl _ _).alloc (Nat.le_refl _) _⟩
 all_goals simp only [beq_iff_eq, beq_eq_false_iff_ne, ne_eq] at *
 all_goals go_light
 all_goals unfold bValid
 all_goals (repeat' split)
 all_goals (first | rfl | omega | (rw [Bool.eq_iff_iff]; simp; omega) | (simp; omega))

set_option maxHeartbeats 400000 in
theorem rbvalid_any (p f m : Int) (w : World) :
  Calls Tryz.prog 47 #[.agg #[.int .i64 p, .int .i64 f], .int .i64 m] w fun e w' => e = .returned (.bool (bValid p f m)) ∧ Below w.heap.size w w' := by
 go_enter Tryz.func47, Tryz.ntmps47
 go_wp2
 all_goals go_ret
 all_goals refine ⟨ret_b ?_, (Below.refl _ _).alloc (Nat.le_refl _) _⟩
 all_goals simp only [beq_iff_eq, beq_eq_false_iff_ne, ne_eq] at *
 all_goals go_light
 all_goals unfold bValid
 all_goals (repeat' split)
 all_goals (first | rfl | omega | (rw [Bool.eq_iff_iff]; simp; omega) | (simp; omega))
end

section
open Go.RowKit
set_option linter.unusedVariables false
set_option linter.unusedSimpArgs false

theorem mulAny (a b l : Int) (w : World) (hl : l ≤ 9223372036854775807) :
  Calls Tryz.prog 34 #[.int .i64 a, .int .i64 b, .int .i64 l] w fun e w' => e = .returned (.tuple #[.int .i64 (mVal a b l), .bool (mOk a b l)]) ∧ w' = w := by
 by_cases h0 : 0 ≤ a ∧ 0 ≤ b ∧ 0 ≤ l
 ·
  obtain ⟨a0, b0, l0⟩ := h0; by_cases hb : b = 0
  ·
   subst hb; have hm : mOk a 0 l = true := mOk_iff.2 ⟨a0, b0, l0, by omega⟩; have hv : mVal a 0 l = 0 := by simp [mVal]
   rw [hm, hv]; clear hm hv
   go_enter Tryz.func34, Tryz.ntmps34
   go_wp2
   all_goals (go_ret2; exact ⟨rfl, rfl⟩)
  have b1 : 0 < b := by omega
  have d0 : 0 ≤ l / b := Int.ediv_nonneg l0 (by omega); have d1 : l / b ≤ l := Int.ediv_le_self b l0; have m2 : l.tdiv b = l / b := Int.tdiv_eq_ediv_of_nonneg l0; have m4 : IntKind.i64.wrap (l / b) = l / b := IntWalk.i64_in _ (by omega); by_cases hc : l / b < a
  ·
   have hm : mOk a b l = false := by rw [← Bool.not_eq_true, mOk_iff]; have := (mul_div b1).1 hc; omega
   have hv : mVal a b l = 0 := by simp [mVal, hm]
   rw [hm, hv]; clear hm hv
   go_enter Tryz.func34, Tryz.ntmps34
   go_wp2
   all_goals (go_ret2; exact ⟨rfl, rfl⟩)
  have hle : a * b ≤ l := by have := (not_congr (mul_div (a := a) (l := l) b1)).1 hc; omega
  have hm : mOk a b l = true := mOk_iff.2 ⟨a0, b0, l0, hle⟩; have hv : mVal a b l = a * b := by simp [mVal, hm]
  have p0 : 0 ≤ a * b := Int.mul_nonneg a0 b0; have m5 : IntKind.i64.wrap (a * b) = a * b := IntWalk.i64_in _ (by omega); rw [hm, hv]; clear hm hv
  go_enter Tryz.func34, Tryz.ntmps34
  go_wp2
  all_goals (go_ret2; exact ⟨rfl, rfl⟩)
 have hm : mOk a b l = false := by rw [← Bool.not_eq_true, mOk_iff]; omega
 have hv : mVal a b l = 0 := by simp [mVal, hm]
 rw [hm, hv]; clear hm hv
 go_enter Tryz.func34, Tryz.ntmps34
 go_wp2
 all_goals (go_ret2; exact ⟨rfl, rfl⟩)
theorem qmulAny (a b l : Int) (w : World) (hl : l ≤ 9223372036854775807) :
  Calls Tryz.prog 95 #[.int .i64 a, .int .i64 b, .int .i64 l] w fun e w' => e = .returned (.tuple #[.int .i64 (mVal a b l), .bool (mOk a b l)]) ∧ w' = w := by
 by_cases h0 : 0 ≤ a ∧ 0 ≤ b ∧ 0 ≤ l
 ·
  obtain ⟨a0, b0, l0⟩ := h0; by_cases hb : b = 0
  ·
   subst hb; have hm : mOk a 0 l = true := mOk_iff.2 ⟨a0, b0, l0, by omega⟩; have hv : mVal a 0 l = 0 := by simp [mVal]
   rw [hm, hv]; clear hm hv
   go_enter Tryz.func95, Tryz.ntmps95
   go_wp2
   all_goals (go_ret2; exact ⟨rfl, rfl⟩)
  have b1 : 0 < b := by omega
  have d0 : 0 ≤ l / b := Int.ediv_nonneg l0 (by omega); have d1 : l / b ≤ l := Int.ediv_le_self b l0; have m2 : l.tdiv b = l / b := Int.tdiv_eq_ediv_of_nonneg l0; have m4 : IntKind.i64.wrap (l / b) = l / b := IntWalk.i64_in _ (by omega); by_cases hc : l / b < a
  ·
   have hm : mOk a b l = false := by rw [← Bool.not_eq_true, mOk_iff]; have := (mul_div b1).1 hc; omega
   have hv : mVal a b l = 0 := by simp [mVal, hm]
   rw [hm, hv]; clear hm hv
   go_enter Tryz.func95, Tryz.ntmps95
   go_wp2
   all_goals (go_ret2; exact ⟨rfl, rfl⟩)
  have hle : a * b ≤ l := by have := (not_congr (mul_div (a := a) (l := l) b1)).1 hc; omega
  have hm : mOk a b l = true := mOk_iff.2 ⟨a0, b0, l0, hle⟩; have hv : mVal a b l = a * b := by simp [mVal, hm]
  have p0 : 0 ≤ a * b := Int.mul_nonneg a0 b0; have m5 : IntKind.i64.wrap (a * b) = a * b := IntWalk.i64_in _ (by omega); rw [hm, hv]; clear hm hv
  go_enter Tryz.func95, Tryz.ntmps95
  go_wp2
  all_goals (go_ret2; exact ⟨rfl, rfl⟩)
 have hm : mOk a b l = false := by rw [← Bool.not_eq_true, mOk_iff]; omega
 have hv : mVal a b l = 0 := by simp [mVal, hm]
 rw [hm, hv]; clear hm hv
 go_enter Tryz.func95, Tryz.ntmps95
 go_wp2
 all_goals (go_ret2; exact ⟨rfl, rfl⟩)
end

section
open Go.RowKit
set_option linter.unusedVariables false
set_option linter.unusedSimpArgs false

def kVal (w h mx : Int) (zs : List Int) : Int := if pValid w h mx zs = true then iVal w h mx else 0
def kCode (w h mx : Int) (zs : List Int) : Int := if pValid w h mx zs = true then iCode w h mx else 1
theorem iOk_no1 {w h mx : Int} (e : ¬ (1 ≤ w ∧ 1 ≤ h ∧ 1 ≤ mx)) : iOk w h mx = false := by rw [← Bool.not_eq_true, iOk_iff]; omega
theorem iVal_no {w h mx : Int} (e : iOk w h mx = false) : iVal w h mx = 0 := by unfold iVal; rw [e]; simp
theorem iVal_yes {w h mx : Int} (e : iOk w h mx = true) : iVal w h mx = w * h * mx := by unfold iVal; rw [if_pos e]

set_option maxRecDepth 100000 in
set_option maxHeartbeats 1600000 in
theorem greatest_any (w h mx : Int) (W : World) :
  Calls Tryz.prog 64 #[.agg #[.int .i64 w, .int .i64 h, .int .i64 mx]] W fun e w' => e = .returned (.tuple #[.int .i64 (iVal w h mx), .bool (iOk w h mx)]) ∧ Below W.heap.size W w' := by
 obtain ⟨B, hB⟩ : ∃ B, W.heap.size = B := ⟨_, rfl⟩; have H0 := kq ((St.init hB).alloc #[.int .i64 w, .int .i64 h, .int .i64 mx] 37 hB); by_cases hp : 1 ≤ w ∧ 1 ≤ h ∧ 1 ≤ mx
 ·
  obtain ⟨h1, h2, h3⟩ := hp; have hm := iOk_mul h1 h2 h3; cases m1 : mOk w h 4294967296 with
  | false =>
   have e0 : iOk w h mx = false := by rw [hm, m1]; rfl
   have e1 : mVal w h 4294967296 = 0 := by simp [mVal, m1]
   rw [e0, iVal_no e0]; clear hm e0
   go_enter Tryz.func64, Tryz.ntmps64
   go_wp2_with (first | (go_at_call 34; refine (mulAny _ _ _ _ (by omega)).mono ?_; rintro e w' ⟨rfl, rfl⟩))
   all_goals (go_ret2; exact ⟨rfl, H0.o.bl⟩)
  | true =>
   have e1 : mVal w h 4294967296 = w * h := by simp [mVal, m1]
   cases m2 : mOk (w * h) mx 4294967296 with
   | false =>
    have e0 : iOk w h mx = false := by rw [hm, m1, m2]; rfl
    have e2 : mVal (w * h) mx 4294967296 = 0 := by simp [mVal, m2]
    rw [e0, iVal_no e0]; clear hm e0
    go_enter Tryz.func64, Tryz.ntmps64
    go_wp2_with (first | (go_at_call 34; refine (mulAny _ _ _ _ (by omega)).mono ?_; rintro e w' ⟨rfl, rfl⟩))
    all_goals (go_ret2; exact ⟨rfl, H0.o.bl⟩)
   | true =>
    have e0 : iOk w h mx = true := by rw [hm, m1, m2]; rfl
    have e2 : mVal (w * h) mx 4294967296 = w * h * mx := by simp [mVal, m2]
    rw [e0, iVal_yes e0]; clear hm e0
    go_enter Tryz.func64, Tryz.ntmps64
    go_wp2_with (first | (go_at_call 34; refine (mulAny _ _ _ _ (by omega)).mono ?_; rintro e w' ⟨rfl, rfl⟩))
    all_goals (go_ret2; exact ⟨rfl, H0.o.bl⟩)
 have e0 := iOk_no1 hp; rw [e0, iVal_no e0]; clear e0
 go_enter Tryz.func64, Tryz.ntmps64
 go_wp2_with (first | (go_at_call 34; refine (mulAny _ _ _ _ (by omega)).mono ?_; rintro e w' ⟨rfl, rfl⟩))
 all_goals first
  | (go_ret2; exact ⟨rfl, H0.o.bl⟩)
  | (exfalso; omega)

set_option maxRecDepth 100000 in
set_option maxHeartbeats 1600000 in
theorem qmost_any (w h mx : Int) (W : World) :
  Calls Tryz.prog 71 #[.agg #[.int .i64 w, .int .i64 h, .int .i64 mx]] W fun e w' => e = .returned (.tuple #[.int .i64 (iVal w h mx), .bool (iOk w h mx)]) ∧ Below W.heap.size W w' := by
 obtain ⟨B, hB⟩ : ∃ B, W.heap.size = B := ⟨_, rfl⟩; have H0 := kq ((St.init hB).alloc #[.int .i64 w, .int .i64 h, .int .i64 mx] 37 hB); by_cases hp : 1 ≤ w ∧ 1 ≤ h ∧ 1 ≤ mx
 ·
  obtain ⟨h1, h2, h3⟩ := hp; have hm := iOk_mul h1 h2 h3; cases m1 : mOk w h 4294967296 with
  | false =>
   have e0 : iOk w h mx = false := by rw [hm, m1]; rfl
   have e1 : mVal w h 4294967296 = 0 := by simp [mVal, m1]
   rw [e0, iVal_no e0]; clear hm e0
   go_enter Tryz.func71, Tryz.ntmps71
   go_wp2_with (first | (go_at_call 95; refine (qmulAny _ _ _ _ (by omega)).mono ?_; rintro e w' ⟨rfl, rfl⟩))
   all_goals (go_ret2; exact ⟨rfl, H0.o.bl⟩)
  | true =>
   have e1 : mVal w h 4294967296 = w * h := by simp [mVal, m1]
   cases m2 : mOk (w * h) mx 4294967296 with
   | false =>
    have e0 : iOk w h mx = false := by rw [hm, m1, m2]; rfl
    have e2 : mVal (w * h) mx 4294967296 = 0 := by simp [mVal, m2]
    rw [e0, iVal_no e0]; clear hm e0
    go_enter Tryz.func71, Tryz.ntmps71
    go_wp2_with (first | (go_at_call 95; refine (qmulAny _ _ _ _ (by omega)).mono ?_; rintro e w' ⟨rfl, rfl⟩))
    all_goals (go_ret2; exact ⟨rfl, H0.o.bl⟩)
   | true =>
    have e0 : iOk w h mx = true := by rw [hm, m1, m2]; rfl
    have e2 : mVal (w * h) mx 4294967296 = w * h * mx := by simp [mVal, m2]
    rw [e0, iVal_yes e0]; clear hm e0
    go_enter Tryz.func71, Tryz.ntmps71
    go_wp2_with (first | (go_at_call 95; refine (qmulAny _ _ _ _ (by omega)).mono ?_; rintro e w' ⟨rfl, rfl⟩))
    all_goals (go_ret2; exact ⟨rfl, H0.o.bl⟩)
 have e0 := iOk_no1 hp; rw [e0, iVal_no e0]; clear e0
 go_enter Tryz.func71, Tryz.ntmps71
 go_wp2_with (first | (go_at_call 95; refine (qmulAny _ _ _ _ (by omega)).mono ?_; rintro e w' ⟨rfl, rfl⟩))
 all_goals first
  | (go_ret2; exact ⟨rfl, H0.o.bl⟩)
  | (exfalso; omega)

set_option maxRecDepth 100000 in
theorem icheck_any (w h mx : Int) (W : World) :
  Calls Tryz.prog 42 #[.agg #[.int .i64 w, .int .i64 h, .int .i64 mx]] W fun e w' => e = .returned (.int .i64 (iCode w h mx)) ∧ Below W.heap.size W w' := by
 obtain ⟨B, hB⟩ : ∃ B, W.heap.size = B := ⟨_, rfl⟩; have H0 := kq ((St.init hB).alloc #[.int .i64 w, .int .i64 h, .int .i64 mx] 37 hB)
 go_enter Tryz.func42, Tryz.ntmps42
 go_wp2_with fail
 refine (greatest_any _ _ _ _).mono ?_; rintro e w1 ⟨rfl, hb⟩; have H1 := kq (H0.o.call hb); clear hb; cases hk : iOk w h mx with
 | false =>
  have HC := kq (show iCode w h mx = 11 by simp [iCode, hk]); clear hk; go_wp2_with fail
  go_ret
  exact ⟨ret_i HC.o.symm, H1.o.bl⟩
 | true =>
  have HC := kq (show iCode w h mx = 0 by simp [iCode, hk]); clear hk; go_wp2_with fail
  go_ret
  exact ⟨ret_i HC.o.symm, H1.o.bl⟩

set_option maxRecDepth 100000 in
theorem qchecked_any (w h mx : Int) (a : Option Addr) (n c : Nat) (zs : List Int) (W : World) (hs : Slc W a n c zs) :
  Calls Tryz.prog 51 #[.agg #[.int .i64 w, .int .i64 h, .int .i64 mx, .slice a n c]] W fun e w' => e = .returned (.tuple #[.int .i64 (kVal w h mx zs), .int .i64 (kCode w h mx zs)]) ∧ Below W.heap.size W w' := by
 obtain ⟨B, hB⟩ : ∃ B, W.heap.size = B := ⟨_, rfl⟩; have H0 := kq ((St.init hB).alloc #[.int .i64 w, .int .i64 h, .int .i64 mx, .slice a n c] 26 hB); have HS := kq hs; clear hs
 go_enter Tryz.func51, Tryz.ntmps51
 go_wp2_with fail
 refine (qpvalid_any _ _ _ _ _ _ _ _ (by have := HS.o.nc; have := HS.o.cap; omega) (H0.o.old HS.o).row).mono ?_; rintro e w1 ⟨rfl, hb⟩; have H1 := kq (H0.o.call hb); clear hb; obtain ⟨x0, x1, x2⟩ := H1.o.c3 0 rfl; cases hv : pValid w h mx zs with
 | false =>
  have HV := kq hv; clear hv; go_wp2_with fail
  go_ret2
  exact ⟨ret_ii (by unfold kVal; rw [HV.o]; simp) (by unfold kCode; rw [HV.o]; simp), H1.o.bl⟩
 | true =>
  have HV := kq hv; clear hv; go_wp2_with fail
  refine (qmost_any _ _ _ _).mono ?_; rintro e w2 ⟨rfl, hb⟩; have H2 := kq (H1.o.call hb); clear hb x0 x1 x2; cases hk : iOk w h mx with
  | false =>
   have HC := kq (show iCode w h mx = 11 by simp [iCode, hk]); have HD := kq (iVal_no hk); clear hk; go_wp2_with fail
   go_ret2
   exact ⟨ret_ii (by unfold kVal; rw [HV.o, HD.o]; simp) (by unfold kCode; rw [HV.o, HC.o]; simp), H2.o.bl⟩
  | true =>
   have HC := kq (show iCode w h mx = 0 by simp [iCode, hk]); clear hk; go_wp2_with fail
   go_ret2
   exact ⟨ret_ii (by unfold kVal; rw [HV.o]; simp) (by unfold kCode; rw [HV.o, HC.o]; simp), H2.o.bl⟩
end

section
open Go.RowKit
set_option linter.unusedVariables false

theorem qbins_any (n : Int) (w : World) :
  Calls Tryz.prog 70 #[.int .i64 n] w fun e w' => e = .returned (.bool (decide (1 ≤ n ∧ n ≤ 128))) ∧ w' = w := by
 go_enter Tryz.func70, Tryz.ntmps70
 go_wp2
 all_goals go_ret
 all_goals refine ⟨ret_b ?_, rfl⟩
 all_goals (refine bool_of_iff ?_; simp; try omega)

set_option maxRecDepth 100000 in
theorem qbin_any (v mx n : Int) (w : World) :
  Calls Tryz.prog 75 #[.int .i64 v, .int .i64 mx, .int .i64 n] w fun e w' => e = .returned (.int .i64 (hBin v mx n)) ∧ w' = w := by
 by_cases h : 1 ≤ mx ∧ mx ≤ 4294967296 ∧ 0 ≤ v ∧ v ≤ mx ∧ 1 ≤ n ∧ n ≤ 128
 ·
  have e : hBin v mx n = v * n / (mx + 1) := by simp only [hBin, h]; simp
  rw [e]; clear e; obtain ⟨h1, h2, h3, h4, h5, h6⟩ := h; have p0 : 0 ≤ v * n := Int.mul_nonneg h3 (by omega); have p1 : v * n ≤ 4294967296 * 128 := Int.mul_le_mul (by omega) h6 (by omega) (by omega); have d0 : 0 ≤ v * n / (mx + 1) := Int.ediv_nonneg p0 (by omega); have d1 : v * n / (mx + 1) ≤ v * n := Int.ediv_le_self _ p0; have m0 : IntKind.i64.wrap (v * n) = v * n := IntWalk.i64_in _ (by omega); have m1 : IntKind.i64.wrap (mx + 1) = mx + 1 := IntWalk.i64_in _ (by omega); have m2 : (v * n).tdiv (mx + 1) = v * n / (mx + 1) := Int.tdiv_eq_ediv_of_nonneg p0; have m3 : IntKind.i64.wrap (v * n / (mx + 1)) = v * n / (mx + 1) := IntWalk.i64_in _ (by omega); have m4 : mx + 1 ≠ 0 := by omega
  have m5 : decide (1 ≤ n ∧ n ≤ 128) = true := by simp; omega
  go_enter Tryz.func75, Tryz.ntmps75
  go_wp2_with (first | (go_at_call 70; refine (qbins_any _ _).mono ?_; rintro e w' ⟨rfl, rfl⟩))
  all_goals (go_ret; exact ⟨rfl, rfl⟩)
 have e : hBin v mx n = 0 := by unfold hBin; rw [if_neg h]
 rw [e]; clear e; by_cases hn : 1 ≤ n ∧ n ≤ 128
 ·
  have m5 : decide (1 ≤ n ∧ n ≤ 128) = true := by simp; omega
  go_enter Tryz.func75, Tryz.ntmps75
  go_wp2_with (first | (go_at_call 70; refine (qbins_any _ _).mono ?_; rintro e w' ⟨rfl, rfl⟩))
  all_goals first
   | (go_ret; exact ⟨rfl, rfl⟩)
   | (exfalso; omega)
 have m5 : decide (1 ≤ n ∧ n ≤ 128) = false := by rw [decide_eq_false_iff_not]; exact hn
 go_enter Tryz.func75, Tryz.ntmps75
 go_wp2_with (first | (go_at_call 70; refine (qbins_any _ _).mono ?_; rintro e w' ⟨rfl, rfl⟩))
 all_goals first
  | (go_ret; exact ⟨rfl, rfl⟩)
  | (exfalso; omega)
end

section
open Go.RowKit
set_option linter.unusedVariables false

structure HBox (B : Nat) (w h mx : Int) (a : Option Addr) (n c : Nat) (zs : List Int) (r0 r1 r2 r3 : Int) (W w' : World) : Prop where
 pbox : w'.heap[B]? = some (.cells #[.int .i64 w, .int .i64 h, .int .i64 mx, .slice a n c] 26 (0, 0))
 rbox : w'.heap[B + 1]? = some (.cells #[.int .i64 r0, .int .i64 r1, .int .i64 r2, .int .i64 r3] 70 (0, 0))
 slc : Slc w' a n c zs
 since : Since B W w'
section
variable {B : Nat} {w h mx : Int} {a : Option Addr} {n c : Nat} {zs : List Int} {r0 r1 r2 r3 : Int} {W w1 w' : World}
theorem HBox.cells (p : HBox B w h mx a n c zs r0 r1 r2 r3 W w') : w'.cell? ⟨B, 0, none⟩ = some (.int .i64 w) ∧ w'.cell? ⟨B, 1, none⟩ = some (.int .i64 h) ∧ w'.cell? ⟨B, 2, none⟩ = some (.int .i64 mx) ∧ w'.cell? ⟨B, 3, none⟩ = some (.slice a n c) ∧
  w'.cell? ⟨B + 1, 0, none⟩ = some (.int .i64 r0) ∧ w'.cell? ⟨B + 1, 1, none⟩ = some (.int .i64 r1) ∧ w'.cell? ⟨B + 1, 2, none⟩ = some (.int .i64 r2) ∧ w'.cell? ⟨B + 1, 3, none⟩ = some (.int .i64 r3) :=
 ⟨cell_of p.pbox rfl, cell_of p.pbox rfl, cell_of p.pbox rfl, cell_of p.pbox rfl, cell_of p.rbox rfl, cell_of p.rbox rfl, cell_of p.rbox rfl, cell_of p.rbox rfl⟩
theorem HBox.call (p : HBox B w h mx a n c zs r0 r1 r2 r3 W w1) (hb : Below w1.heap.size w1 w') : HBox B w h mx a n c zs r0 r1 r2 r3 W w' := ⟨kept hb p.pbox, kept hb p.rbox, p.slc.call hb, p.since.call hb⟩
theorem HBox.drewN (p : HBox B w h mx a n c zs r0 r1 r2 r3 W w1) (m : Nat) : HBox B w h mx a n c zs r0 r1 r2 r3 W (w1.drewN m) := p.call (below_drewN (Below.refl _ _) _)
theorem HBox.grown {g : Nat} (p : HBox B w h mx a n c zs r0 r1 r2 r3 W w1) (hg : w1.grownBy w' (some g)) (hB : B + 2 ≤ g) (hf : Far a n g) : HBox B w h mx a n c zs r0 r1 r2 r3 W w' :=
 ⟨kept_grown hg p.pbox (by omega), kept_grown hg p.rbox (by omega), p.slc.grown hg hf, p.since.grown hg (by omega)⟩
theorem HBox.below (p : HBox B w h mx a n c zs r0 r1 r2 r3 W w') (hB : W.heap.size = B) : Below W.heap.size W w' := p.since.all hB
end

def PartialPost (w h mx : Int) (zs : List Int) (bins r0 r1 r2 r3 : Int) (W : World) (e : Ending) (w' : World) : Prop :=
 ∃ v, e = .returned (.tuple #[v, .int .i64 (hOk w h mx zs bins r0 r1 r2 r3)]) ∧ Own W.heap.size w' v (hList w h mx zs bins r0 r1 r2 r3) ∧ Below W.heap.size W w'
theorem partial_no {w h mx : Int} {zs : List Int} {bins r0 r1 r2 r3 : Int} {W w' : World} {k : Int} (hk : hOk w h mx zs bins r0 r1 r2 r3 = k) (h0 : k ≠ 0) (hb : Below W.heap.size W w') :
  PartialPost w h mx zs bins r0 r1 r2 r3 W (.returned (.tuple #[.slice none 0 0, .int .i64 k])) w' := by
 refine ⟨_, by rw [hk], ?_, hb⟩; have : hList w h mx zs bins r0 r1 r2 r3 = [] := by unfold hList; rw [hk, if_neg h0]
 rw [this]; exact Own.nil _ _
end

section
open Go.RowKit
set_option linter.unusedVariables false

theorem qcover_any (w h mx : Int) (a : Option Addr) (n c : Nat) (W : World) :
  Calls Tryz.prog 50 #[.agg #[.int .i64 w, .int .i64 h, .int .i64 mx, .slice a n c]] W fun e w' => e = .returned (.agg #[.int .i64 0, .int .i64 0, .int .i64 w, .int .i64 h]) ∧ Below W.heap.size W w' := by
 obtain ⟨B, hB⟩ : ∃ B, W.heap.size = B := ⟨_, rfl⟩
 go_enter Tryz.func50, Tryz.ntmps50
 go_wp2_with fail
 have b := alloc_at (.cells #[.int .i64 0, .int .i64 0, .int .i64 w, .int .i64 h] 70) (alloc_size (.cells #[.int .i64 w, .int .i64 h, .int .i64 mx, .slice a n c] 26) hB); have q0 := cell_of (i := 0) b rfl; have q1 := cell_of (i := 1) b rfl; have q2 := cell_of (i := 2) b rfl; have q3 := cell_of (i := 3) b rfl; refine bodyPost_ret (v := .agg #[.int .i64 0, .int .i64 0, .int .i64 w, .int .i64 h]) ?_ rfl ⟨rfl, ?_⟩
 ·
  simp [results, Tryz.results50, go_sem, q0, q1, q2, q3]
 first | exact (((Since.self hB).alloc _).alloc _).below | exact (((Since.self hB).alloc _).alloc _).all hB
end

section
open Go.RowKit
set_option linter.unusedVariables false
set_option linter.unusedSimpArgs false

theorem pix_at {w h x y : Int} (h1 : 1 ≤ w) (h2 : w ≤ 128) (h3 : h ≤ 128) (x0 : 0 ≤ x) (x1 : x < w) (y0 : 0 ≤ y) (y1 : y < h) : 0 ≤ y * w ∧ y * w ≤ 128 * 128 ∧ 0 ≤ y * w + x ∧ y * w + x < w * h := by
 have p0 : 0 ≤ y * w := Int.mul_nonneg y0 (by omega); have p1 : y * w ≤ 128 * 128 := Int.mul_le_mul (by omega) h2 (by omega) (by omega); have p2 : y * w ≤ (h - 1) * w := Int.mul_le_mul_of_nonneg_right (by omega) (by omega); rw [Int.sub_mul, Int.one_mul, Int.mul_comm h w] at p2
 omega
end

section
open Go.RowKit
set_option linter.unusedVariables false
set_option linter.unusedSimpArgs false
end
end Go.Proofs.YteejjnhlfgjlaaaGreat
