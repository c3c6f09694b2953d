/-
  Contract: the histogram of a rectangle of a plane, in the reference.
-/
import Derived.Test.YtoojiabdgaflgaaHist3
import Derived.Deep.RegionHeld3
import Derived.StillTailTactics
namespace Go.Proofs.Ytoojiabdgaflgaa
open Go.RowKit
set_option linter.unusedVariables false
set_option linter.unusedSimpArgs false

theorem full_inside {r0 r1 r2 r3 b0 b1 b2 b3 : Int} : (rFull r0 r1 r2 r3 && rInside r0 r1 r2 r3 b0 b1 b2 b3) = (!rEmpty r0 r1 r2 r3 && rInside r0 r1 r2 r3 b0 b1 b2 b3) := by
  unfold rFull rInside
  cases rValid r0 r1 r2 r3 <;> simp

section
variable {B : Nat} {w h mx : Int} {a : Option Addr} {n c : Nat} {zs : List Int} {r0 r1 r2 r3 : Int} {W w1 w' : World}
theorem hbox_s (p : HBox B w h mx a n c zs r0 r1 r2 r3 W w') : HBox B w h mx a n c zs r0 r1 r2 r3 W w' ∧ w'.cell? ⟨B, 0, none⟩ = some (.int .i64 w) ∧ w'.cell? ⟨B, 1, none⟩ = some (.int .i64 h) ∧ w'.cell? ⟨B, 2, none⟩ = some (.int .i64 mx) ∧ w'.cell? ⟨B, 3, none⟩ = some (.slice a n c) ∧ w'.cell? ⟨B + 1, 0, none⟩ = some (.int .i64 r0) ∧ w'.cell? ⟨B + 1, 1, none⟩ = some (.int .i64 r1) ∧ w'.cell? ⟨B + 1, 2, none⟩ = some (.int .i64 r2) ∧ w'.cell? ⟨B + 1, 3, none⟩ = some (.int .i64 r3) := ⟨p, p.cells⟩
theorem hbox_keep (hb : Below w1.heap.size w1 w') (p : HBox B w h mx a n c zs r0 r1 r2 r3 W w1 ∧ w1.cell? ⟨B, 0, none⟩ = some (.int .i64 w) ∧ w1.cell? ⟨B, 1, none⟩ = some (.int .i64 h) ∧ w1.cell? ⟨B, 2, none⟩ = some (.int .i64 mx) ∧ w1.cell? ⟨B, 3, none⟩ = some (.slice a n c) ∧ w1.cell? ⟨B + 1, 0, none⟩ = some (.int .i64 r0) ∧ w1.cell? ⟨B + 1, 1, none⟩ = some (.int .i64 r1) ∧ w1.cell? ⟨B + 1, 2, none⟩ = some (.int .i64 r2) ∧ w1.cell? ⟨B + 1, 3, none⟩ = some (.int .i64 r3)) : HBox B w h mx a n c zs r0 r1 r2 r3 W w' ∧ w'.cell? ⟨B, 0, none⟩ = some (.int .i64 w) ∧ w'.cell? ⟨B, 1, none⟩ = some (.int .i64 h) ∧ w'.cell? ⟨B, 2, none⟩ = some (.int .i64 mx) ∧ w'.cell? ⟨B, 3, none⟩ = some (.slice a n c) ∧ w'.cell? ⟨B + 1, 0, none⟩ = some (.int .i64 r0) ∧ w'.cell? ⟨B + 1, 1, none⟩ = some (.int .i64 r1) ∧ w'.cell? ⟨B + 1, 2, none⟩ = some (.int .i64 r2) ∧ w'.cell? ⟨B + 1, 3, none⟩ = some (.int .i64 r3) := hbox_s (p.1.call hb)
theorem hbox_size (p : HBox B w h mx a n c zs r0 r1 r2 r3 W w') : ∃ D, w'.heap.size = D := ⟨_, rfl⟩
end

set_option maxRecDepth 100000 in
set_option maxHeartbeats 1600000 in
theorem qpartial_any (w h mx : Int) (a : Option Addr) (n c : Nat) (zs : List Int) (bins r0 r1 r2 r3 : Int) (W : World) (hr : Slc W a n c zs) :
    Calls Try.prog 32 #[.agg #[.int .i64 w, .int .i64 h, .int .i64 mx, .slice a n c], .int .i64 bins, .agg #[.int .i64 r0, .int .i64 r1, .int .i64 r2, .int .i64 r3]] W (PartialPost w h mx zs bins r0 r1 r2 r3 W) := by
  obtain ⟨B, hB⟩ : ∃ B, W.heap.size = B := ⟨_, rfl⟩
  have H0 := hid (HBox.mk (w := w) (h := h) (mx := mx) (c := c) (r0 := r0) (r1 := r1) (r2 := r2) (r3 := r3) (alloc_past (.cells #[.int .i64 r0, .int .i64 r1, .int .i64 r2, .int .i64 r3] 39) (alloc_at (.cells #[.int .i64 w, .int .i64 h, .int .i64 mx, .slice a n c] 26) hB)) (alloc_at _ (alloc_size _ hB)) ((hr.alloc _).alloc _) (((Since.self hB).alloc _).alloc _))
  have HR := hid hr
  clear hr
  go_enter Try.func32, Try.ntmps32
  go_wp2_with fail
  refine (qpvalid_any _ _ _ _ _ _ _ _ (by have := HR.out.nc; have := HR.out.cap; omega) H0.out.slc.row).mono ?_
  rintro e w1 ⟨rfl, hb⟩
  have H1 := hid (H0.out.call hb)
  clear hb
  cases hv : pValid w h mx zs with
  | false =>
    have HV := hid hv
    clear hv
    go_wp2_with fail
    go_ret2
    exact partial_no (by unfold hOk; rw [if_pos HV.out]) (by omega) (H1.out.below hB)
  | true =>
    have HV := hid hv
    clear hv
    by_cases hb1 : 1 ≤ bins ∧ bins ≤ 128
    · obtain ⟨b1, b2⟩ := hb1
      have m5 : decide (1 ≤ bins ∧ bins ≤ 128) = true := by simp; omega
      have HP := hid (pOk_iff.1 (pValid_iff.1 HV.out).1)
      go_wp2_with (first | (go_at_call 65; refine (qbins_any _ _).mono ?_; rintro e w' ⟨rfl, rfl⟩))
      have HS0 := hid (hbox_s (H1.out.drewN 1))
      cases hfu : rFull r0 r1 r2 r3 with
      | false =>
        have HFU := hid hfu
        have HE : Hid ((!rEmpty r0 r1 r2 r3 && rInside r0 r1 r2 r3 0 0 w h) = false) := hid (by rw [← full_inside, hfu]; rfl)
        clear hfu
        refine wp_region_held_drew (S := (fun w' => HBox B w h mx a n c zs r0 r1 r2 r3 W w' ∧ w'.cell? ⟨B, 0, none⟩ = some (.int .i64 w) ∧ w'.cell? ⟨B, 1, none⟩ = some (.int .i64 h) ∧ w'.cell? ⟨B, 2, none⟩ = some (.int .i64 mx) ∧ w'.cell? ⟨B, 3, none⟩ = some (.slice a n c) ∧ w'.cell? ⟨B + 1, 0, none⟩ = some (.int .i64 r0) ∧ w'.cell? ⟨B + 1, 1, none⟩ = some (.int .i64 r1) ∧ w'.cell? ⟨B + 1, 2, none⟩ = some (.int .i64 r2) ∧ w'.cell? ⟨B + 1, 3, none⟩ = some (.int .i64 r3))) (by kernel_rfl) HS0.out (fun hHeld => ?_)
        refine wpAnyH_take (i := 0) (oi := _) (v := ?_) rfl (by kernel_rfl) (by kernel_rfl) (by kernel_rfl) (fun _ _ _ h => h) (Or.inl ⟨by rfl, ?_⟩) (by assumption) ?_
        rotate_left
        focus (intro w hSw; (try dsimp only at hSw); go_simp; (try with_reducible rfl))
        try simp only [Act.put, List.getElem_toArray, List.getElem_cons_zero, List.getElem_cons_succ, List.setIfInBounds_toArray, List.set_cons_zero, List.set_cons_succ]
        refine wpAnyH_ready (rs := [1]) (by kernel_rfl) (by simp) (AllReadyH.cons (o := _) rfl (fun K hK => ?_) AllReadyH.nil)
        go_simp
        go_at_call 68; refine (qfull_any _ _ _ _ _).mono ?_; rw [HFU.out]; rintro e w' ⟨rfl, hbs⟩
        refine hK.out _ _ ?_ (fun hHeld2 => ?_)
        focus ((try dsimp only); (refine hbox_keep hbs ?_; assumption))
        clear hK K
        try simp only [Act.put, List.getElem_toArray, List.getElem_cons_zero, List.getElem_cons_succ, List.setIfInBounds_toArray, List.set_cons_zero, List.set_cons_succ]
        refine wpAnyH_take (i := 2) (oi := _) (v := ?_) rfl (by kernel_rfl) (by kernel_rfl) (by kernel_rfl) (fun _ _ _ h => h) (Or.inl ⟨by rfl, ?_⟩) (by assumption) ?_
        rotate_left
        focus (intro w hSw; (try dsimp only at hSw); go_simp; (try with_reducible rfl))
        try simp only [Act.put, List.getElem_toArray, List.getElem_cons_zero, List.getElem_cons_succ, List.setIfInBounds_toArray, List.set_cons_zero, List.set_cons_succ]
        refine wpAnyH_take (i := 3) (oi := _) (v := ?_) rfl (by kernel_rfl) (by kernel_rfl) (by kernel_rfl) (fun _ _ _ h => h) (Or.inl ⟨by rfl, ?_⟩) (by assumption) ?_
        rotate_left
        focus (intro w hSw; (try dsimp only at hSw); go_simp; (try with_reducible rfl))
        try simp only [Act.put, List.getElem_toArray, List.getElem_cons_zero, List.getElem_cons_succ, List.setIfInBounds_toArray, List.set_cons_zero, List.set_cons_succ]
        refine wpAnyH_take (i := 4) (oi := _) (v := _) rfl (by kernel_rfl) (by kernel_rfl) (by kernel_rfl) (fun _ _ _ h => h) (Or.inr ⟨by rfl, rfl⟩) (by assumption) ?_
        try simp only [Act.put, List.getElem_toArray, List.getElem_cons_zero, List.getElem_cons_succ, List.setIfInBounds_toArray, List.set_cons_zero, List.set_cons_succ]
        refine wpAnyH_take (i := 5) (oi := _) (v := _) rfl (by kernel_rfl) (by kernel_rfl) (by kernel_rfl) (fun _ _ _ h => h) (Or.inr ⟨by rfl, rfl⟩) (by assumption) ?_
        try simp only [Act.put, List.getElem_toArray, List.getElem_cons_zero, List.getElem_cons_succ, List.setIfInBounds_toArray, List.set_cons_zero, List.set_cons_succ]
        refine wpAnyH_take (i := 6) (oi := _) (v := _) rfl (by kernel_rfl) (by kernel_rfl) (by kernel_rfl) (fun _ _ _ h => h) (Or.inr ⟨by rfl, rfl⟩) (by assumption) ?_
        try simp only [Act.put, List.getElem_toArray, List.getElem_cons_zero, List.getElem_cons_succ, List.setIfInBounds_toArray, List.set_cons_zero, List.set_cons_succ]
        refine wpAnyH_take (i := 7) (oi := _) (v := _) rfl (by kernel_rfl) (by kernel_rfl) (by kernel_rfl) (fun _ _ _ h => h) (Or.inr ⟨by rfl, rfl⟩) (by assumption) ?_
        try simp only [Act.put, List.getElem_toArray, List.getElem_cons_zero, List.getElem_cons_succ, List.setIfInBounds_toArray, List.set_cons_zero, List.set_cons_succ]
        refine wpAnyH_take (i := 8) (oi := _) (v := _) rfl (by kernel_rfl) (by kernel_rfl) (by kernel_rfl) (fun _ _ _ h => h) (Or.inr ⟨by rfl, rfl⟩) (by assumption) ?_
        try simp only [Act.put, List.getElem_toArray, List.getElem_cons_zero, List.getElem_cons_succ, List.setIfInBounds_toArray, List.set_cons_zero, List.set_cons_succ]
        refine wpAnyH_take (i := 9) (oi := _) (v := ?_) rfl (by kernel_rfl) (by kernel_rfl) (by kernel_rfl) (fun _ _ _ h => h) (Or.inl ⟨by rfl, ?_⟩) (by assumption) ?_
        rotate_left
        focus (intro w hSw; (try dsimp only at hSw); go_simp; (try with_reducible rfl))
        try simp only [Act.put, List.getElem_toArray, List.getElem_cons_zero, List.getElem_cons_succ, List.setIfInBounds_toArray, List.set_cons_zero, List.set_cons_succ]
        refine wpAnyH_take (i := 10) (oi := _) (v := ?_) rfl (by kernel_rfl) (by kernel_rfl) (by kernel_rfl) (fun _ _ _ h => h) (Or.inl ⟨by rfl, ?_⟩) (by assumption) ?_
        rotate_left
        focus (intro w hSw; (try dsimp only at hSw); go_simp; (try with_reducible rfl))
        try simp only [Act.put, List.getElem_toArray, List.getElem_cons_zero, List.getElem_cons_succ, List.setIfInBounds_toArray, List.set_cons_zero, List.set_cons_succ]
        refine wpAnyH_done (by kernel_rfl) ?_ _
        have H3 := hid hHeld2.1
        go_wp2_with fail
        go_ret2
        exact partial_no (by unfold hOk; rw [if_neg (by rw [HV.out]; simp), if_neg (by simp; omega), if_pos HE.out]) (by omega) (H3.out.below hB)
      | true =>
        have HFU := hid hfu
        clear hfu
        cases hi : rInside r0 r1 r2 r3 0 0 w h with
        | false =>
          have HI := hid hi
          have HE : Hid ((!rEmpty r0 r1 r2 r3 && rInside r0 r1 r2 r3 0 0 w h) = false) := hid (by rw [hi]; simp)
          clear hi
          go_region_held3 (fun w' => HBox B w h mx a n c zs r0 r1 r2 r3 W w' ∧ w'.cell? ⟨B, 0, none⟩ = some (.int .i64 w) ∧ w'.cell? ⟨B, 1, none⟩ = some (.int .i64 h) ∧ w'.cell? ⟨B, 2, none⟩ = some (.int .i64 mx) ∧ w'.cell? ⟨B, 3, none⟩ = some (.slice a n c) ∧ w'.cell? ⟨B + 1, 0, none⟩ = some (.int .i64 r0) ∧ w'.cell? ⟨B + 1, 1, none⟩ = some (.int .i64 r1) ∧ w'.cell? ⟨B + 1, 2, none⟩ = some (.int .i64 r2) ∧ w'.cell? ⟨B + 1, 3, none⟩ = some (.int .i64 r3)) (first | exact HS0.out | (refine hbox_keep hbs ?_; assumption)) (first | (go_at_call 68; refine (qfull_any _ _ _ _ _).mono ?_; rw [HFU.out]; rintro e w' ⟨rfl, hbs⟩) | (go_at_call 70; refine (qcover_any _ _ _ _ _ _ _).mono ?_; rintro e w' ⟨rfl, hbs⟩) | (go_at_call 69; refine (qinside_any _ _ _ _ _ _ _ _ _).mono ?_; rw [HI.out]; rintro e w' ⟨rfl, hbs⟩))
          rename_i hz
          have H3 := hid hz.1
          clear hz
          go_wp2_with fail
          go_ret2
          exact partial_no (by unfold hOk; rw [if_neg (by rw [HV.out]; simp), if_neg (by simp; omega), if_pos HE.out]) (by omega) (H3.out.below hB)
        | true =>
          have HI := hid hi
          have hE : (!rEmpty r0 r1 r2 r3 && rInside r0 r1 r2 r3 0 0 w h) = true := by rw [← full_inside, HFU.out, hi]; rfl
          have HO := hid (show hOk w h mx zs bins r0 r1 r2 r3 = 0 by unfold hOk; rw [if_neg (by rw [HV.out]; simp), if_neg (by simp; omega), if_neg (by rw [hE]; simp)])
          have hin := (inside_iff (by have := HP.out; omega) (by have := HP.out; omega) (by have := HP.out; omega) (by have := HP.out; omega)).1 hE
          clear hi hE
          go_region_held3 (fun w' => HBox B w h mx a n c zs r0 r1 r2 r3 W w' ∧ w'.cell? ⟨B, 0, none⟩ = some (.int .i64 w) ∧ w'.cell? ⟨B, 1, none⟩ = some (.int .i64 h) ∧ w'.cell? ⟨B, 2, none⟩ = some (.int .i64 mx) ∧ w'.cell? ⟨B, 3, none⟩ = some (.slice a n c) ∧ w'.cell? ⟨B + 1, 0, none⟩ = some (.int .i64 r0) ∧ w'.cell? ⟨B + 1, 1, none⟩ = some (.int .i64 r1) ∧ w'.cell? ⟨B + 1, 2, none⟩ = some (.int .i64 r2) ∧ w'.cell? ⟨B + 1, 3, none⟩ = some (.int .i64 r3)) (first | exact HS0.out | (refine hbox_keep hbs ?_; assumption)) (first | (go_at_call 68; refine (qfull_any _ _ _ _ _).mono ?_; rw [HFU.out]; rintro e w' ⟨rfl, hbs⟩) | (go_at_call 70; refine (qcover_any _ _ _ _ _ _ _).mono ?_; rintro e w' ⟨rfl, hbs⟩) | (go_at_call 69; refine (qinside_any _ _ _ _ _ _ _ _ _).mono ?_; rw [HI.out]; rintro e w' ⟨rfl, hbs⟩))
          rename_i hz
          have H3 := hid hz.1
          clear hz
          obtain ⟨i1, i2, i3, i4, i5, i6⟩ := hin
          have r3b : r3 ≤ 128 := by have := HP.out; omega
          obtain ⟨nb, rfl⟩ := Int.eq_ofNat_of_zero_le (show 0 ≤ bins by omega)
          have HL := hid (show hList w h mx zs nb r0 r1 r2 r3 = hRows (hG w mx nb r0 r1 zs) (r2 - r0).toNat nb (r3 - r1).toNat by unfold hList; rw [if_pos HO.out]; rfl)
          obtain ⟨D, hD⟩ := hbox_size H3.out
          have hBD : B + 2 ≤ D := by
            have h3 := lt_of_block H3.out.rbox
            omega
          go_wp2_with (first | (at_make; refine make_int rfl _ _ rfl D _ _ nb rfl rfl rfl rfl (by omega) (by omega) ?_; intro w4 ho hb; have H4 := hid (H3.out.call hb); obtain ⟨x0, x1, x2, x3, y0, y1, y2, y3⟩ := H4.out.cells; rw [hD] at ho ⊢; have HOW := hid ho; clear ho hb))
          obtain ⟨ht, hht⟩ : ∃ ht : Nat, r3 = r1 + ht := ⟨(r3 - r1).toNat, by omega⟩
          obtain ⟨wd, hwd⟩ : ∃ wd : Nat, r2 = r0 + wd := ⟨(r2 - r0).toNat, by omega⟩
          have e1 : (r3 - r1).toNat = ht := by omega
          have e2 : (r2 - r0).toNat = wd := by omega
          rw [e1, e2] at HL
          have hfar : Hid (Far a n D) := HR.out.far (by omega)
          have HH := hid hht
          have HW := hid hwd
          obtain ⟨ht1, ht2⟩ : (ht : Int) ≤ r3 - r1 ∧ r3 - r1 ≤ ht := by omega
          obtain ⟨wd1, wd2⟩ : (wd : Int) ≤ r2 - r0 ∧ r2 - r0 ≤ wd := by omega
          clear e1 e2 hht hwd hD
          go_loopw [9] (fun y wr => ∃ k : Nat, k ≤ ht ∧ y = .int .i64 (r1 + k) ∧ Own D wr (.slice (some ⟨D, 0, none⟩) nb nb) (hRows (hG w mx nb r0 r1 zs) wd nb k) ∧ HBox B w h mx a n c zs r0 r1 r2 r3 W wr) (fun y _ => (r3 - intOf y).toNat)
          case atStart => exact ⟨0, by omega, by simp, HOW.out, H4.out⟩
          case round =>
            obtain ⟨k, hk, rfl, ho, hh⟩ := hrel
            obtain ⟨w5, rfl⟩ : ∃ w1 : World, w1 = wr := ⟨_, rfl⟩
            have HO5 := hid ho
            have HH5 := hid hh
            obtain ⟨x0, x1, x2, x3, y0, y1, y2, y3⟩ := hh.cells
            clear ho hh
            by_cases hkt : k < ht
            · have hk1 : r1 + (k : Int) < r3 := by omega
              have hn : (n : Int) = w * h := by rw [← (pValid_iff.1 HV.out).2.1, HH5.out.slc.len]
              have hp := HP.out
              have p1 : (r1 + (k : Int) + 1) * w ≤ h * w := Int.mul_le_mul_of_nonneg_right (by omega) (by omega)
              have p0 : 0 ≤ (r1 + (k : Int)) * w := Int.mul_nonneg (by omega) (by omega)
              rw [Int.add_mul, Int.one_mul, Int.mul_comm h w, ← hn] at p1
              obtain ⟨P, hP, q1, q0⟩ : ∃ P, (r1 + (k : Int)) * w = P ∧ IntKind.i64.wrap ((r1 + (k : Int)) * w) = P ∧ 0 ≤ P := ⟨_, rfl, IntWalk.i64_in _ (by omega), p0⟩
              rw [hP] at p1
              have HPP := hid hP
              have HC := hid HH5.out.slc.nc
              have hc : (n : Int) ≤ c := by have := HH5.out.slc.nc; omega
              have hcap : (c : Int) ≤ 9223372036854775807 := by have := HH5.out.slc.cap; omega
              have n4 : (n : Int) ≤ 4096 := by omega
              obtain ⟨b, o, rfl⟩ := row_at HH5.out.slc.row (by omega)
              have s1 : 0 ≤ P + r0 := by omega
              have s2 : P + r0 ≤ P + r2 := by omega
              have s3 : P + r2 ≤ c := by omega
              clear hP hn hp p0
              go_wp2_with fail
              obtain ⟨s, hs⟩ : ∃ s : Nat, (P + r0).toNat = s := ⟨_, rfl⟩
              have hsw : s + wd ≤ n := by omega
              have HS := hid (show ∀ j, hG w mx nb r0 r1 zs k j = (hBin (zs.getD (s + j) 0) mx nb).toNat by intro j; unfold hG; rw [HPP.out, hs])
              have HK1 := hid hk1
              obtain ⟨t1, t2⟩ : P + r0 ≤ s ∧ s ≤ P + r0 := by omega
              clear hs s1 s2 s3 hk1 x0 x1 x2 x3 y0 y1 y2 y3
              have C0 := hid (Cnt.rows (hG w mx nb r0 r1 zs) wd nb k)
              have kw : k * wd ≤ 128 * 128 := Nat.mul_le_mul (by have := HP.out; omega) (by have := HP.out; omega)
              obtain ⟨l0, hl0⟩ : ∃ l0, hRows (hG w mx nb r0 r1 zs) wd nb k = l0 := ⟨_, rfl⟩
              rw [hl0] at HO5 C0
              have HL0 := hid hl0
              clear hl0
              go_loopw [10] (fun i wr => ∃ j : Nat, j ≤ wd ∧ i = .int .i64 (r0 + j) ∧ Own D wr (.slice (some ⟨D, 0, none⟩) nb nb) (hCols (hG w mx nb r0 r1 zs k) l0 j) ∧ HBox B w h mx (some ⟨b, o, none⟩) n c zs r0 r1 r2 r3 W wr) (fun i _ => (r2 - intOf i).toNat)
              case atStart => exact ⟨0, by omega, by simp, HO5.out, HH5.out⟩
              case round =>
                obtain ⟨j, hj, rfl, ho, hh⟩ := hrel
                obtain ⟨w6, rfl⟩ : ∃ w1 : World, w1 = wr := ⟨_, rfl⟩
                have HO6 := hid ho
                have HH6 := hid hh
                clear ho hh
                by_cases hjw : j < wd
                · have hj1 : r0 + (j : Int) < r2 := by omega
                  have HO7 := hid (HO6.out.kept (below_drewN (Below.refl _ _) 1))
                  have HH7 := hid (HH6.out.drewN 1)
                  have z0 := cell_of (i := 2) HH6.out.rbox rfl
                  go_wp2_with fail
                  refine wp_region_still_tail 19 (by kernel_rfl) (by kernel_rfl) ?_
                  change wpStill _ _ (w6.drewN 1) (fun a' => wpList _ _ _ _ a' (w6.drewN 1)) _ _
                  clear z0
                  generalize w6.drewN 1 = w7 at *
                  obtain ⟨x0, x1, x2, x3, y0, y1, y2, y3⟩ := HH7.out.cells
                  have ej : (P + (r0 + (j : Int))).toNat = s + j := by omega
                  have cz : w7.cell? ⟨b, o + (P + (r0 + (j : Int))).toNat, none⟩ = some (.int .i64 (zs.getD (s + j) 0)) := by rw [ej]; exact row_cell HH7.out.slc.row (j := s + j) (by omega)
                  have i1 : 0 ≤ P + (r0 + (j : Int)) := by omega
                  have i2 : P + (r0 + (j : Int)) < n := by omega
                  have q5 : IntKind.i64.wrap (P + (r0 + (j : Int))) = P + (r0 + (j : Int)) := IntWalk.i64_in _ (by omega)
                  have HB := hid (HS.out j)
                  have HC6 := hid (C0.out.cols (hG w mx nb r0 r1 zs k) j)
                  clear ej
                  generalize zs.getD (s + j) 0 = z at *
                  simp only [List.take_succ_cons, List.take_zero, List.drop_succ_cons, List.drop_zero]
                  iterate 14 still_step
                  still_call (qbin_any _ _ _ _)
                  obtain ⟨bd0, bd1⟩ := hBin_bd (v := z) (mx := mx) b1
                  generalize hBin z mx nb = bv at *
                  have HB' := hid (show bump (hCols (hG w mx nb r0 r1 zs k) l0 j) bv.toNat = hCols (hG w mx nb r0 r1 zs k) l0 (j + 1) by show _ = bump _ (hG w mx nb r0 r1 zs k j); rw [HB.out])
                  obtain ⟨l1, hl1⟩ : ∃ l1, hCols (hG w mx nb r0 r1 zs k) l0 j = l1 := ⟨_, rfl⟩
                  rw [hl1] at HO7 HC6 HB'
                  clear hl1
                  have hlen : l1.length = nb := HC6.out.len
                  have cc : w7.cell? ⟨D, bv.toNat, none⟩ = some (.int .i64 (l1.getD bv.toNat 0)) ∧ w7.frozen? ⟨D, bv.toNat, none⟩ = false := by
                    rcases HO7.out.form with ⟨e, _⟩ | ⟨g, c', e, _, _, hcell⟩
                    · cases e
                    · cases e
                      exact hcell bv.toNat (by omega)
                  obtain ⟨c1, c2⟩ := cc
                  obtain ⟨cb1, cb2⟩ := HC6.out.bd bv.toNat
                  have HBU : Hid (bump l1 bv.toNat = l1.set bv.toNat (l1.getD bv.toNat 0 + 1)) := rfl
                  generalize l1.getD bv.toNat 0 = cnt at *
                  have cb3 : cnt ≤ 32768 := by omega
                  have q6 : IntKind.i64.wrap (cnt + 1) = cnt + 1 := IntWalk.i64_in _ (by omega)
                  iterate 4 still_step
                  refine wpStill_nil ?_
                  go_wp2_with fail
                  obtain ⟨hst, hgr⟩ := (show Own D w7 (.slice (some ⟨D, 0, none⟩) l1.length nb) l1 by rw [hlen]; exact HO7.out).stored bv.toNat (cnt + 1)
                  rw [← HBU.out, HB'.out, show (hCols (hG w mx nb r0 r1 zs k) l0 (j + 1)).length = nb from (C0.out.cols _ _).len] at hst
                  have hh8 := HH7.out.grown hgr hBD hfar.out
                  generalize w7.setCell ⟨D, bv.toNat, none⟩ (.int .i64 (cnt + 1)) = w8 at *
                  go_roundw
                  case rel => exact ⟨j + 1, by omega, by go_num, hst, hh8⟩
                  case measure => simp [intOf]; omega
                · have e : j = wd := by omega
                  subst e
                  obtain ⟨x0, x1, x2, x3, y0, y1, y2, y3⟩ := HH6.out.cells
                  have hj1 : ¬ (r0 + (j : Int) < r2) := by omega
                  go_wp2_with fail
                  go_roundw
                  case rel => exact ⟨k + 1, by omega, by congr 1; omega, by show Own D w6 _ (hCols (hG w mx nb r0 r1 zs k) (hRows (hG w mx nb r0 r1 zs) _ nb k) _); rw [HL0.out]; exact HO6.out, HH6.out⟩
                  case measure => have := HK1.out; simp [intOf]; omega
            · have e : k = ht := by omega
              subst e
              have hk1 : ¬ (r1 + (k : Int) < r3) := by omega
              go_wp2_with fail
              go_ret2
              refine ⟨_, by rw [HO.out]; rfl, ?_, HH5.out.below hB⟩
              rw [HL.out]
              exact HO5.out.base (by omega)
    · have m5 : decide (1 ≤ bins ∧ bins ≤ 128) = false := by rw [decide_eq_false_iff_not]; exact hb1
      go_wp2_with (first | (go_at_call 65; refine (qbins_any _ _).mono ?_; rintro e w' ⟨rfl, rfl⟩))
      all_goals first
        | (go_ret2; exact partial_no (by unfold hOk; rw [if_neg (by rw [HV.out]; simp), if_pos hb1]) (by omega) (H1.out.below hB))
        | (exfalso; omega)
end Go.Proofs.Ytoojiabdgaflgaa
