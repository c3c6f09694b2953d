/-
  Contract: the histogram of a rectangle of a plane, in the program.
-/
import Derived.Test.YtoojiabdgaflgaaHist1
namespace Go.Proofs.Ytoojiabdgaflgaa
open Go.RowKit
set_option linter.unusedVariables false

/-- Boxes with a plane at B and with a rectangle at B + 1, and the plane's pixels. -/
structure HBox (B : Nat) (w h mx : Int) (a : Option Addr) (n c : Nat) (zs : List Int) (r0 r1 r2 r3 : Int) (W w' : World) : Prop where
  pbox : w'.heap[B]? = some (.cells #[.int .i64 w, .int .i64 h, .int .i64 mx, .slice a n c] 26 (0, 0))
  rbox : w'.heap[B + 1]? = some (.cells #[.int .i64 r0, .int .i64 r1, .int .i64 r2, .int .i64 r3] 39 (0, 0))
  slc : Slc w' a n c zs
  since : Since B W w'
section
variable {B : Nat} {w h mx : Int} {a : Option Addr} {n c : Nat} {zs : List Int} {r0 r1 r2 r3 : Int} {W w1 w' : World}
theorem HBox.cells (p : HBox B w h mx a n c zs r0 r1 r2 r3 W w') : w'.cell? ⟨B, 0, none⟩ = some (.int .i64 w) ∧ w'.cell? ⟨B, 1, none⟩ = some (.int .i64 h) ∧ w'.cell? ⟨B, 2, none⟩ = some (.int .i64 mx) ∧ w'.cell? ⟨B, 3, none⟩ = some (.slice a n c) ∧
    w'.cell? ⟨B + 1, 0, none⟩ = some (.int .i64 r0) ∧ w'.cell? ⟨B + 1, 1, none⟩ = some (.int .i64 r1) ∧ w'.cell? ⟨B + 1, 2, none⟩ = some (.int .i64 r2) ∧ w'.cell? ⟨B + 1, 3, none⟩ = some (.int .i64 r3) :=
  ⟨cell_of p.pbox rfl, cell_of p.pbox rfl, cell_of p.pbox rfl, cell_of p.pbox rfl, cell_of p.rbox rfl, cell_of p.rbox rfl, cell_of p.rbox rfl, cell_of p.rbox rfl⟩
theorem HBox.call (p : HBox B w h mx a n c zs r0 r1 r2 r3 W w1) (hb : Below w1.heap.size w1 w') : HBox B w h mx a n c zs r0 r1 r2 r3 W w' := ⟨kept hb p.pbox, kept hb p.rbox, p.slc.call hb, p.since.call hb⟩
theorem HBox.drewN (p : HBox B w h mx a n c zs r0 r1 r2 r3 W w1) (m : Nat) : HBox B w h mx a n c zs r0 r1 r2 r3 W (w1.drewN m) := p.call (below_drewN (Below.refl _ _) _)
theorem HBox.grown {g : Nat} (p : HBox B w h mx a n c zs r0 r1 r2 r3 W w1) (hg : w1.grownBy w' (some g)) (hB : B + 2 ≤ g) (hf : Far a n g) : HBox B w h mx a n c zs r0 r1 r2 r3 W w' :=
  ⟨kept_grown hg p.pbox (by omega), kept_grown hg p.rbox (by omega), p.slc.grown hg hf, p.since.grown hg (by omega)⟩
theorem HBox.below (p : HBox B w h mx a n c zs r0 r1 r2 r3 W w') (hB : W.heap.size = B) : Below W.heap.size W w' := p.since.all hB
end

def PartialPost (w h mx : Int) (zs : List Int) (bins r0 r1 r2 r3 : Int) (W : World) (e : Ending) (w' : World) : Prop :=
  ∃ v, e = .returned (.tuple #[v, .int .i64 (hOk w h mx zs bins r0 r1 r2 r3)]) ∧ Own W.heap.size w' v (hList w h mx zs bins r0 r1 r2 r3) ∧ Below W.heap.size W w'
theorem partial_no {w h mx : Int} {zs : List Int} {bins r0 r1 r2 r3 : Int} {W w' : World} {k : Int} (hk : hOk w h mx zs bins r0 r1 r2 r3 = k) (h0 : k ≠ 0) (hb : Below W.heap.size W w') :
    PartialPost w h mx zs bins r0 r1 r2 r3 W (.returned (.tuple #[.slice none 0 0, .int .i64 k])) w' := by
  refine ⟨_, by rw [hk], ?_, hb⟩
  have : hList w h mx zs bins r0 r1 r2 r3 = [] := by unfold hList; rw [hk, if_neg h0]
  rw [this]; exact Own.nil _ _

set_option maxRecDepth 100000 in
set_option maxHeartbeats 1600000 in
theorem partial_any (w h mx : Int) (a : Option Addr) (n c : Nat) (zs : List Int) (bins r0 r1 r2 r3 : Int) (W : World) (hr : Slc W a n c zs) :
    Calls Try.prog 31 #[.agg #[.int .i64 w, .int .i64 h, .int .i64 mx, .slice a n c], .int .i64 bins, .agg #[.int .i64 r0, .int .i64 r1, .int .i64 r2, .int .i64 r3]] W (PartialPost w h mx zs bins r0 r1 r2 r3 W) := by
  obtain ⟨B, hB⟩ : ∃ B, W.heap.size = B := ⟨_, rfl⟩
  have H0 := hid (HBox.mk (w := w) (h := h) (mx := mx) (c := c) (r0 := r0) (r1 := r1) (r2 := r2) (r3 := r3) (alloc_past (.cells #[.int .i64 r0, .int .i64 r1, .int .i64 r2, .int .i64 r3] 39) (alloc_at (.cells #[.int .i64 w, .int .i64 h, .int .i64 mx, .slice a n c] 26) hB)) (alloc_at _ (alloc_size _ hB)) ((hr.alloc _).alloc _) (((Since.self hB).alloc _).alloc _))
  have HR := hid hr
  clear hr
  go_enter Try.func31, Try.ntmps31
  go_wp2_with fail
  refine (pvalid_any _ _ _ _ _ _ _ _ (by have := HR.out.nc; have := HR.out.cap; omega) H0.out.slc.row).mono ?_
  rintro e w1 ⟨rfl, hb⟩
  have H1 := hid (H0.out.call hb)
  clear hb
  cases hv : pValid w h mx zs with
  | false =>
    have HV := hid hv
    clear hv
    go_wp2_with fail
    go_ret2
    exact partial_no (by unfold hOk; rw [if_pos HV.out]) (by omega) (H1.out.below hB)
  | true =>
    have HV := hid hv
    clear hv
    by_cases hb1 : 1 ≤ bins ∧ bins ≤ 128
    · obtain ⟨b1, b2⟩ := hb1
      obtain ⟨x0, x1, x2, x3, y0, y1, y2, y3⟩ := H1.out.cells
      have HP := hid (pOk_iff.1 (pValid_iff.1 HV.out).1)
      go_wp2_with fail
      refine (rempty_any _ _ _ _ _).mono ?_
      rintro e w2 ⟨rfl, hb⟩
      have H2 := hid (H1.out.call hb)
      clear hb x0 x1 x2 x3 y0 y1 y2 y3
      obtain ⟨x0, x1, x2, x3, y0, y1, y2, y3⟩ := H2.out.cells
      cases he : rEmpty r0 r1 r2 r3 with
      | true =>
        have HE := hid he
        clear he
        go_wp2_with fail
        go_ret2
        exact partial_no (by unfold hOk; rw [if_neg (by rw [HV.out]; simp), if_neg (by simp; omega), if_pos (by rw [HE.out]; rfl)]) (by omega) (H2.out.below hB)
      | false =>
        have HE := hid he
        clear he
        go_wp2_with fail
        refine (rinside_any _ _ _ _ _ _ _ _ _).mono ?_
        rintro e w3 ⟨rfl, hb⟩
        have H3 := hid (H2.out.call hb)
        clear hb x0 x1 x2 x3 y0 y1 y2 y3
        cases hi : rInside r0 r1 r2 r3 0 0 w h with
        | false =>
          have HI := hid hi
          clear hi
          go_wp2_with fail
          go_ret2
          exact partial_no (by unfold hOk; rw [if_neg (by rw [HV.out]; simp), if_neg (by simp; omega), if_pos (by rw [HI.out, HE.out]; rfl)]) (by omega) (H3.out.below hB)
        | true =>
          have HO := hid (show hOk w h mx zs bins r0 r1 r2 r3 = 0 by unfold hOk; rw [if_neg (by rw [HV.out]; simp), if_neg (by simp; omega), if_neg (by rw [hi, HE.out]; simp)])
          have hin := (inside_iff (by have := HP.out; omega) (by have := HP.out; omega) (by have := HP.out; omega) (by have := HP.out; omega)).1 (show (!rEmpty r0 r1 r2 r3 && rInside r0 r1 r2 r3 0 0 w h) = true by rw [hi, HE.out]; rfl)
          clear hi HE
          obtain ⟨i1, i2, i3, i4, i5, i6⟩ := hin
          have r3b : r3 ≤ 128 := by have := HP.out; omega
          obtain ⟨nb, rfl⟩ := Int.eq_ofNat_of_zero_le (show 0 ≤ bins by omega)
          have HL := hid (show hList w h mx zs nb r0 r1 r2 r3 = hRows (hG w mx nb r0 r1 zs) (r2 - r0).toNat nb (r3 - r1).toNat by unfold hList; rw [if_pos HO.out]; rfl)
          obtain ⟨D, hD⟩ : ∃ D, w3.heap.size = D := ⟨_, rfl⟩
          have hBD : B + 2 ≤ D := by
            have h3 := lt_of_block H3.out.rbox
            omega
          go_wp2_with (first | (at_make; refine make_int rfl _ _ rfl D _ _ nb rfl rfl rfl rfl (by omega) (by omega) ?_; intro w4 ho hb; have H4 := hid (H3.out.call hb); obtain ⟨x0, x1, x2, x3, y0, y1, y2, y3⟩ := H4.out.cells; rw [hD] at ho ⊢; have HOW := hid ho; clear ho hb))
          clear x0 x1 x2 x3 y0 y1 y2 y3
          obtain ⟨ht, hht⟩ : ∃ ht : Nat, r3 = r1 + ht := ⟨(r3 - r1).toNat, by omega⟩
          obtain ⟨wd, hwd⟩ : ∃ wd : Nat, r2 = r0 + wd := ⟨(r2 - r0).toNat, by omega⟩
          have e1 : (r3 - r1).toNat = ht := by omega
          have e2 : (r2 - r0).toNat = wd := by omega
          rw [e1, e2] at HL
          have hfar : Hid (Far a n D) := HR.out.far (by omega)
          have HH := hid hht
          have HW := hid hwd
          obtain ⟨ht1, ht2⟩ : (ht : Int) ≤ r3 - r1 ∧ r3 - r1 ≤ ht := by omega
          obtain ⟨wd1, wd2⟩ : (wd : Int) ≤ r2 - r0 ∧ r2 - r0 ≤ wd := by omega
          clear e1 e2 hht hwd hD
          go_loopw [9] (fun y wr => ∃ k : Nat, k ≤ ht ∧ y = .int .i64 (r1 + k) ∧ Own D wr (.slice (some ⟨D, 0, none⟩) nb nb) (hRows (hG w mx nb r0 r1 zs) wd nb k) ∧ HBox B w h mx a n c zs r0 r1 r2 r3 W wr) (fun y _ => (r3 - intOf y).toNat)
          case atStart => exact ⟨0, by omega, by simp, HOW.out, H4.out⟩
          case round =>
            obtain ⟨k, hk, rfl, ho, hh⟩ := hrel
            obtain ⟨w5, rfl⟩ : ∃ w1 : World, w1 = wr := ⟨_, rfl⟩
            have HO5 := hid ho
            have HH5 := hid hh
            obtain ⟨x0, x1, x2, x3, y0, y1, y2, y3⟩ := hh.cells
            clear ho hh
            by_cases hkt : k < ht
            · have hk1 : r1 + (k : Int) < r3 := by omega
              have hn : (n : Int) = w * h := by rw [← (pValid_iff.1 HV.out).2.1, HH5.out.slc.len]
              have hp := HP.out
              have p1 : (r1 + (k : Int) + 1) * w ≤ h * w := Int.mul_le_mul_of_nonneg_right (by omega) (by omega)
              have p0 : 0 ≤ (r1 + (k : Int)) * w := Int.mul_nonneg (by omega) (by omega)
              rw [Int.add_mul, Int.one_mul, Int.mul_comm h w, ← hn] at p1
              obtain ⟨P, hP, q1, q0⟩ : ∃ P, (r1 + (k : Int)) * w = P ∧ IntKind.i64.wrap ((r1 + (k : Int)) * w) = P ∧ 0 ≤ P := ⟨_, rfl, IntWalk.i64_in _ (by omega), p0⟩
              rw [hP] at p1
              have HPP := hid hP
              have HC := hid HH5.out.slc.nc
              have hc : (n : Int) ≤ c := by have := HH5.out.slc.nc; omega
              have hcap : (c : Int) ≤ 9223372036854775807 := by have := HH5.out.slc.cap; omega
              have n4 : (n : Int) ≤ 4096 := by omega
              obtain ⟨b, o, rfl⟩ := row_at HH5.out.slc.row (by omega)
              have s1 : 0 ≤ P + r0 := by omega
              have s2 : P + r0 ≤ P + r2 := by omega
              have s3 : P + r2 ≤ c := by omega
              clear hP hn hp p0
              go_wp2_with fail
              have e59 : (P + r2).toNat - (P + r0).toNat = wd := by omega
              obtain ⟨s, hs⟩ : ∃ s : Nat, (P + r0).toNat = s := ⟨_, rfl⟩
              have hsw : s + wd ≤ n := by omega
              rw [e59, hs]
              have HS := hid (show ∀ j, hG w mx nb r0 r1 zs k j = (hBin (zs.getD (s + j) 0) mx nb).toNat by intro j; unfold hG; rw [HPP.out, hs])
              have HK1 := hid hk1
              clear e59 hs s1 s2 s3 q1 hk1 x0 x1 x2 x3 y0 y1 y2 y3
              have C0 := hid (Cnt.rows (hG w mx nb r0 r1 zs) wd nb k)
              have kw : k * wd ≤ 128 * 128 := Nat.mul_le_mul (by have := HP.out; omega) (by have := HP.out; omega)
              obtain ⟨l0, hl0⟩ : ∃ l0, hRows (hG w mx nb r0 r1 zs) wd nb k = l0 := ⟨_, rfl⟩
              rw [hl0] at HO5 C0
              have HL0 := hid hl0
              clear hl0
              go_loopw [61] (fun i wr => ∃ j : Nat, j ≤ wd ∧ i = .int .i64 j ∧ Own D wr (.slice (some ⟨D, 0, none⟩) nb nb) (hCols (hG w mx nb r0 r1 zs k) l0 j) ∧ HBox B w h mx (some ⟨b, o, none⟩) n c zs r0 r1 r2 r3 W wr) (fun i _ => wd - (intOf i).toNat)
              case atStart => exact ⟨0, by omega, rfl, HO5.out, HH5.out⟩
              case round =>
                obtain ⟨j, hj, rfl, ho, hh⟩ := hrel
                obtain ⟨w6, rfl⟩ : ∃ w1 : World, w1 = wr := ⟨_, rfl⟩
                have HO6 := hid ho
                have HH6 := hid hh
                obtain ⟨x0, x1, x2, x3, y0, y1, y2, y3⟩ := hh.cells
                clear ho hh
                by_cases hjw : j < wd
                · have cz := row_cell HH6.out.slc.row (j := s + j) (by omega)
                  rw [← Nat.add_assoc] at cz
                  have HB := hid (HS.out j)
                  have HC6 := hid (C0.out.cols (hG w mx nb r0 r1 zs k) j)
                  generalize zs.getD (s + j) 0 = z at *
                  go_wp2_with fail
                  refine (bin_any _ _ _ _).mono ?_
                  rintro e w7 ⟨rfl, rfl⟩
                  obtain ⟨bd0, bd1⟩ := hBin_bd (v := z) (mx := mx) b1
                  generalize hBin z mx nb = bv at *
                  have HB' := hid (show bump (hCols (hG w mx nb r0 r1 zs k) l0 j) bv.toNat = hCols (hG w mx nb r0 r1 zs k) l0 (j + 1) by show _ = bump _ (hG w mx nb r0 r1 zs k j); rw [HB.out])
                  obtain ⟨l1, hl1⟩ : ∃ l1, hCols (hG w mx nb r0 r1 zs k) l0 j = l1 := ⟨_, rfl⟩
                  rw [hl1] at HO6 HC6 HB'
                  clear hl1
                  have hlen : l1.length = nb := HC6.out.len
                  have cc : w7.cell? ⟨D, bv.toNat, none⟩ = some (.int .i64 (l1.getD bv.toNat 0)) ∧ w7.frozen? ⟨D, bv.toNat, none⟩ = false := by
                    rcases HO6.out.form with ⟨e, _⟩ | ⟨g, c', e, _, _, hcell⟩
                    · cases e
                    · cases e
                      exact hcell bv.toNat (by omega)
                  obtain ⟨c1, c2⟩ := cc
                  obtain ⟨cb1, cb2⟩ := HC6.out.bd bv.toNat
                  have HBU : Hid (bump l1 bv.toNat = l1.set bv.toNat (l1.getD bv.toNat 0 + 1)) := rfl
                  generalize l1.getD bv.toNat 0 = cnt at *
                  have cb3 : cnt ≤ 32768 := by omega
                  go_wp2_with fail
                  obtain ⟨hst, hgr⟩ := (show Own D w7 (.slice (some ⟨D, 0, none⟩) l1.length nb) l1 by rw [hlen]; exact HO6.out).stored bv.toNat (cnt + 1)
                  rw [← HBU.out, HB'.out, show (hCols (hG w mx nb r0 r1 zs k) l0 (j + 1)).length = nb from (C0.out.cols _ _).len] at hst
                  have hh8 := HH6.out.grown hgr hBD hfar.out
                  generalize w7.setCell ⟨D, bv.toNat, none⟩ (.int .i64 (cnt + 1)) = w8 at *
                  go_roundw
                  case rel => exact ⟨j + 1, by omega, by go_num, hst, hh8⟩
                  case measure => simp [intOf]; omega
                · have e : j = wd := by omega
                  subst e
                  go_wp2_with fail
                  go_roundw
                  case rel => exact ⟨k + 1, by omega, by congr 1; omega, by show Own D w6 _ (hCols (hG w mx nb r0 r1 zs k) (hRows (hG w mx nb r0 r1 zs) _ nb k) _); rw [HL0.out]; exact HO6.out, HH6.out⟩
                  case measure => have := HK1.out; simp [intOf]; omega
            · have e : k = ht := by omega
              subst e
              have hk1 : ¬ (r1 + (k : Int) < r3) := by omega
              go_wp2_with fail
              go_ret2
              refine ⟨_, by rw [HO.out]; rfl, ?_, HH5.out.below hB⟩
              rw [HL.out]
              exact HO5.out.base (by omega)
    · go_wp2_with fail
      all_goals first
        | (go_ret2; exact partial_no (by unfold hOk; rw [if_neg (by rw [HV.out]; simp), if_pos hb1]) (by omega) (H1.out.below hB))
        | (exfalso; omega)
end Go.Proofs.Ytoojiabdgaflgaa
