/-
  Contracts: which planes are valid, in the program and in the reference.
-/
import Derived.Test.YtoojiabdgaflgaaPlane1
import Derived.Test.YtoojiabdgaflgaaRowCell
import Derived.Deep.QuietTactic
import Derived.BigQuiet
namespace Go.Proofs.Ytoojiabdgaflgaa
open Go.RowKit
set_option linter.unusedVariables false

/-- A box with a plane at B, and a row of integers. -/
structure PBox (B : Nat) (w h mx : Int) (a : Option Addr) (n c : Nat) (zs : List Int) (W w' : World) : Prop where
  box : w'.heap[B]? = some (.cells #[.int .i64 w, .int .i64 h, .int .i64 mx, .slice a n c] 26 (0, 0))
  row : Row w' .i64 a n zs
  since : Since B W w'
theorem PBox.cells {B : Nat} {w h mx : Int} {a : Option Addr} {n c : Nat} {zs : List Int} {W w' : World} (p : PBox B w h mx a n c zs W w') : w'.cell? ⟨B, 0, none⟩ = some (.int .i64 w) ∧ w'.cell? ⟨B, 1, none⟩ = some (.int .i64 h) ∧ w'.cell? ⟨B, 2, none⟩ = some (.int .i64 mx) ∧ w'.cell? ⟨B, 3, none⟩ = some (.slice a n c) :=
  ⟨cell_of p.box rfl, cell_of p.box rfl, cell_of p.box rfl, cell_of p.box rfl⟩
theorem PBox.call {B : Nat} {w h mx : Int} {a : Option Addr} {n c : Nat} {zs : List Int} {W w1 w' : World} (p : PBox B w h mx a n c zs W w1) (hb : Below w1.heap.size w1 w') : PBox B w h mx a n c zs W w' := ⟨kept hb p.box, p.row.below hb, p.since.call hb⟩
theorem PBox.drewN {B : Nat} {w h mx : Int} {a : Option Addr} {n c : Nat} {zs : List Int} {W w1 : World} (p : PBox B w h mx a n c zs W w1) (m : Nat) : PBox B w h mx a n c zs W (w1.drewN m) := p.call (below_drewN (Below.refl _ _) _)

set_option maxRecDepth 100000 in
set_option maxHeartbeats 1600000 in
theorem pvalid_any (w h mx : Int) (a : Option Addr) (n c : Nat) (zs : List Int) (W : World) (hn : n ≤ 9223372036854775807) (hr : Row W .i64 a n zs) :
    Calls Try.prog 53 #[.agg #[.int .i64 w, .int .i64 h, .int .i64 mx, .slice a n c]] W fun e w' => e = .returned (.bool (pValid w h mx zs)) ∧ Below W.heap.size W w' := by
  obtain ⟨B, hB⟩ : ∃ B, W.heap.size = B := ⟨_, rfl⟩
  have P0 := hid (PBox.mk (w := w) (h := h) (mx := mx) (c := c) (alloc_at (.cells #[.int .i64 w, .int .i64 h, .int .i64 mx, .slice a n c] 26) hB) (hr.alloc _) ((Since.self hB).alloc _))
  have HL := hid hr.len
  clear hr
  go_enter Try.func53, Try.ntmps53
  go_wp2_with fail
  refine (area_any _ _ _ _).mono ?_
  rintro e w' ⟨rfl, rfl⟩
  cases hp : pOk w h mx with
  | false =>
    have HV := hid (pValid_no (w := w) (h := h) (mx := mx) (zs := zs) (.inl hp))
    clear hp
    go_wp2_with fail
    go_ret
    exact ⟨by rw [HV.out]; rfl, by first | exact P0.out.since.all hB | exact P0.out.since.below⟩
  | true =>
    have e2 : pArea1 w h mx = w * h := by simp [pArea1, hp]
    rw [e2]
    clear e2
    obtain ⟨s, hs⟩ : ∃ s, w * h = s := ⟨_, rfl⟩
    rw [hs]
    have HS := hid hs
    have HP := hid hp
    clear hs hp
    by_cases hns : (n : Int) = s
    · subst hns
      have HV := hid (show allIn mx zs = true → pValid w h mx zs = true from fun ha => pValid_iff.2 ⟨HP.out, by rw [HL.out, HS.out], allIn_iff.1 ha⟩)
      have p0 := P0.out
      clear HS HP
      go_wp2_with fail
      go_loopw [29] (fun j wr => ∃ k : Nat, k ≤ n ∧ j = .int .i64 k ∧ (∀ i, i < k → 0 ≤ zs.getD i 0 ∧ zs.getD i 0 ≤ mx) ∧ PBox B w h mx a n c zs W wr) (fun j _ => n - (intOf j).toNat)
      case atStart => exact ⟨0, by omega, rfl, fun i hi => by omega, p0⟩
      case round =>
        obtain ⟨k, hk, rfl, ha, hh⟩ := hrel
        obtain ⟨w1, rfl⟩ : ∃ w1 : World, w1 = wr := ⟨_, rfl⟩
        have HA := hid ha
        have HH := hid hh
        obtain ⟨x0, x1, x2, x3⟩ := hh.cells
        clear ha hh p0 P0
        by_cases hkn : k < n
        · obtain ⟨b, o, rfl⟩ := row_at HH.out.row (by omega)
          have cz := row_cell HH.out.row hkn
          have hlt : k < zs.length := by rw [HL.out]; exact hkn
          have HB := hid (fun hbad : zs.getD k 0 < 0 ∨ mx < zs.getD k 0 => pValid_no (w := w) (h := h) (mx := mx) (zs := zs) (.inr (.inr (allIn_bad hlt hbad))))
          have HI := hid (show 0 ≤ zs.getD k 0 ∧ zs.getD k 0 ≤ mx → ∀ i, i < k + 1 → 0 ≤ zs.getD i 0 ∧ zs.getD i 0 ≤ mx from fun hg i hi => by
            rcases Nat.lt_or_ge i k with h' | h'
            · exact HA.out i h'
            · obtain rfl : i = k := by omega
              exact hg)
          generalize zs.getD k 0 = z at *
          have hk1 : (k : Int) < n := by omega
          go_wp2_with fail
          all_goals first
            | (go_ret; exact ⟨by rw [HB.out (by omega)]; rfl, by first | exact HH.out.since.all hB | exact HH.out.since.below⟩)
            | (go_roundw; (case rel => exact ⟨k + 1, by omega, by go_num, HI.out (by omega), HH.out⟩); (case measure => simp [intOf]; omega))
        · have e : k = n := by omega
          subst e
          have e1 : allIn mx zs = true := allIn_of fun i hi => HA.out i (by rw [HL.out] at hi; exact hi)
          have HV' := hid (HV.out e1)
          clear e1
          go_wp2_with fail
          go_ret
          exact ⟨by rw [HV'.out]; rfl, by first | exact HH.out.since.all hB | exact HH.out.since.below⟩
    · have HV := hid (pValid_no (w := w) (h := h) (mx := mx) (zs := zs) (.inr (.inl (by rw [HL.out, HS.out]; exact hns))))
      go_wp2_with fail
      go_ret
      exact ⟨by rw [HV.out]; rfl, by first | exact P0.out.since.all hB | exact P0.out.since.below⟩
set_option maxRecDepth 100000 in
set_option maxHeartbeats 1600000 in
theorem qpvalid_any (w h mx : Int) (a : Option Addr) (n c : Nat) (zs : List Int) (W : World) (hn : n ≤ 9223372036854775807) (hr : Row W .i64 a n zs) :
    Calls Try.prog 52 #[.agg #[.int .i64 w, .int .i64 h, .int .i64 mx, .slice a n c]] W fun e w' => e = .returned (.bool (pValid w h mx zs)) ∧ Below W.heap.size W w' := by
  obtain ⟨B, hB⟩ : ∃ B, W.heap.size = B := ⟨_, rfl⟩
  have P0 := hid (PBox.mk (w := w) (h := h) (mx := mx) (c := c) (alloc_at (.cells #[.int .i64 w, .int .i64 h, .int .i64 mx, .slice a n c] 26) hB) (hr.alloc _) ((Since.self hB).alloc _))
  have HL := hid hr.len
  clear hr
  go_enter Try.func52, Try.ntmps52
  go_wp2_with fail
  refine (qsize_any _ _ _ _).mono ?_
  rintro e w' ⟨rfl, rfl⟩
  cases hp : pOk w h mx with
  | false =>
    have HV := hid (pValid_no (w := w) (h := h) (mx := mx) (zs := zs) (.inl hp))
    clear hp
    go_wp2_with fail
    go_ret
    exact ⟨by rw [HV.out]; rfl, by first | exact P0.out.since.all hB | exact P0.out.since.below⟩
  | true =>
    obtain ⟨p1, p2, p3, p4, p5, _, _⟩ := pOk_iff.1 hp
    have p0' : 0 ≤ w * h := Int.mul_nonneg (by omega) (by omega)
    obtain ⟨s, hs, wr⟩ : ∃ s, w * h = s ∧ IntKind.i64.wrap (w * h) = s := ⟨_, rfl, IntWalk.i64_in _ (by omega)⟩
    rw [hs] at p0' p5
    have HS := hid hs
    have HP := hid hp
    clear hs hp
    by_cases hns : (n : Int) = s
    · subst hns
      have HV := hid (show allIn mx zs = true → pValid w h mx zs = true from fun ha => pValid_iff.2 ⟨HP.out, by rw [HL.out, HS.out], allIn_iff.1 ha⟩)
      have p0 := P0.out
      clear HS HP
      go_wp2_with fail
      go_loopw [3] (fun j wr => ∃ k : Nat, k ≤ n ∧ j = .int .i64 k ∧ (∀ i, i < k → 0 ≤ zs.getD i 0 ∧ zs.getD i 0 ≤ mx) ∧ PBox B w h mx a n c zs W wr) (fun j _ => n - (intOf j).toNat)
      case atStart => exact ⟨0, by omega, rfl, fun i hi => by omega, p0⟩
      case round =>
        obtain ⟨k, hk, rfl, ha, hh⟩ := hrel
        obtain ⟨w1, rfl⟩ : ∃ w1 : World, w1 = wr := ⟨_, rfl⟩
        have HA := hid ha
        have HH := hid hh
        obtain ⟨x0, x1, x2, x3⟩ := hh.cells
        clear ha hh p0 P0
        by_cases hkn : k < n
        · obtain ⟨b, o, rfl⟩ := row_at HH.out.row (by omega)
          have cz := row_cell HH.out.row hkn
          have hlt : k < zs.length := by rw [HL.out]; exact hkn
          have HB := hid (fun hbad : zs.getD k 0 < 0 ∨ mx < zs.getD k 0 => pValid_no (w := w) (h := h) (mx := mx) (zs := zs) (.inr (.inr (allIn_bad hlt hbad))))
          have HI := hid (show 0 ≤ zs.getD k 0 ∧ zs.getD k 0 ≤ mx → ∀ i, i < k + 1 → 0 ≤ zs.getD i 0 ∧ zs.getD i 0 ≤ mx from fun hg i hi => by
            rcases Nat.lt_or_ge i k with h' | h'
            · exact HA.out i h'
            · obtain rfl : i = k := by omega
              exact hg)
          generalize zs.getD k 0 = z at *
          have hk1 : (k : Int) < n := by omega
          by_cases hz : z < 0
          · go_wp2_with fail
            go_quiet (fail)
            go_wp2_with fail
            go_ret
            exact ⟨by rw [HB.out (by omega)]; rfl, by first | exact (HH.out.since.drewN _).all hB | exact (HH.out.since.drewN _).below⟩
          · by_cases hz2 : mx < z
            · go_wp2_with fail
              go_quiet (fail)
              go_wp2_with fail
              go_ret
              exact ⟨by rw [HB.out (by omega)]; rfl, by first | exact (HH.out.since.drewN _).all hB | exact (HH.out.since.drewN _).below⟩
            · go_wp2_with fail
              go_quiet (fail)
              go_wp2_with fail
              go_roundw
              case rel => exact ⟨k + 1, by omega, by go_num, HI.out (by omega), HH.out.drewN _⟩
              case measure => simp [intOf]; omega
        · have e : k = n := by omega
          subst e
          have e1 : allIn mx zs = true := allIn_of fun i hi => HA.out i (by rw [HL.out] at hi; exact hi)
          have HV' := hid (HV.out e1)
          clear e1
          go_wp2_with fail
          go_ret
          exact ⟨by rw [HV'.out]; rfl, by first | exact HH.out.since.all hB | exact HH.out.since.below⟩
    · have HV := hid (pValid_no (w := w) (h := h) (mx := mx) (zs := zs) (.inr (.inl (by rw [HL.out, HS.out]; exact hns))))
      go_wp2_with fail
      go_ret
      exact ⟨by rw [HV.out]; rfl, by first | exact P0.out.since.all hB | exact P0.out.since.below⟩
end Go.Proofs.Ytoojiabdgaflgaa
