/-
 Contract: the histogram of a rectangle of a plane, in the reference. Contracts: the histogram of a whole plane. Contract: the histogram of a whole plane, in the reference.
-/
import Derived.Test.YteejjnhlfgjlaaaGreatKB
import Derived.Deep.RegionHeld3
import Derived.StillTailTactics
import Derived.Test.YteejjnhlfgjlaaaGreatKA
namespace Go.Proofs.YteejjnhlfgjlaaaGreat
section
open Go.RowKit
set_option linter.unusedVariables false
set_option linter.unusedSimpArgs false

theorem full_inside {r0 r1 r2 r3 b0 b1 b2 b3 : Int} : (rFull r0 r1 r2 r3 && rInside r0 r1 r2 r3 b0 b1 b2 b3) = (!rEmpty r0 r1 r2 r3 && rInside r0 r1 r2 r3 b0 b1 b2 b3) := by
 unfold rFull rInside
 cases rValid r0 r1 r2 r3 <;> simp

section
variable {B : Nat} {w h mx : Int} {a : Option Addr} {n c : Nat} {zs : List Int} {r0 r1 r2 r3 : Int} {W w1 w' : World}
theorem hbox_s (p : HBox B w h mx a n c zs r0 r1 r2 r3 W w') : HBox B w h mx a n c zs r0 r1 r2 r3 W w' ∧ w'.cell? ⟨B, 0, none⟩ = some (.int .i64 w) ∧ w'.cell? ⟨B, 1, none⟩ = some (.int .i64 h) ∧ w'.cell? ⟨B, 2, none⟩ = some (.int .i64 mx) ∧ w'.cell? ⟨B, 3, none⟩ = some (.slice a n c) ∧ w'.cell? ⟨B + 1, 0, none⟩ = some (.int .i64 r0) ∧ w'.cell? ⟨B + 1, 1, none⟩ = some (.int .i64 r1) ∧ w'.cell? ⟨B + 1, 2, none⟩ = some (.int .i64 r2) ∧ w'.cell? ⟨B + 1, 3, none⟩ = some (.int .i64 r3) := ⟨p, p.cells⟩
theorem hbox_keep (hb : Below w1.heap.size w1 w') (p : HBox B w h mx a n c zs r0 r1 r2 r3 W w1 ∧ w1.cell? ⟨B, 0, none⟩ = some (.int .i64 w) ∧ w1.cell? ⟨B, 1, none⟩ = some (.int .i64 h) ∧ w1.cell? ⟨B, 2, none⟩ = some (.int .i64 mx) ∧ w1.cell? ⟨B, 3, none⟩ = some (.slice a n c) ∧ w1.cell? ⟨B + 1, 0, none⟩ = some (.int .i64 r0) ∧ w1.cell? ⟨B + 1, 1, none⟩ = some (.int .i64 r1) ∧ w1.cell? ⟨B + 1, 2, none⟩ = some (.int .i64 r2) ∧ w1.cell? ⟨B + 1, 3, none⟩ = some (.int .i64 r3)) : HBox B w h mx a n c zs r0 r1 r2 r3 W w' ∧ w'.cell? ⟨B, 0, none⟩ = some (.int .i64 w) ∧ w'.cell? ⟨B, 1, none⟩ = some (.int .i64 h) ∧ w'.cell? ⟨B, 2, none⟩ = some (.int .i64 mx) ∧ w'.cell? ⟨B, 3, none⟩ = some (.slice a n c) ∧ w'.cell? ⟨B + 1, 0, none⟩ = some (.int .i64 r0) ∧ w'.cell? ⟨B + 1, 1, none⟩ = some (.int .i64 r1) ∧ w'.cell? ⟨B + 1, 2, none⟩ = some (.int .i64 r2) ∧ w'.cell? ⟨B + 1, 3, none⟩ = some (.int .i64 r3) := hbox_s (p.1.call hb)
theorem hbox_size (p : HBox B w h mx a n c zs r0 r1 r2 r3 W w') : ∃ D, w'.heap.size = D := ⟨_, rfl⟩
end

set_option maxRecDepth 100000 in
set_option maxHeartbeats 1600000 in
theorem qpartial_any (w h mx : Int) (a : Option Addr) (n c : Nat) (zs : List Int) (bins r0 r1 r2 r3 : Int) (W : World) (hr : Slc W a n c zs) :
  Calls Tryz.prog 49 #[.agg #[.int .i64 w, .int .i64 h, .int .i64 mx, .slice a n c], .int .i64 bins, .agg #[.int .i64 r0, .int .i64 r1, .int .i64 r2, .int .i64 r3]] W (PartialPost w h mx zs bins r0 r1 r2 r3 W) := by
 obtain ⟨B, hB⟩ : ∃ B, W.heap.size = B := ⟨_, rfl⟩; have H0 := kq (HBox.mk (w := w) (h := h) (mx := mx) (c := c) (r0 := r0) (r1 := r1) (r2 := r2) (r3 := r3) (alloc_past (.cells #[.int .i64 r0, .int .i64 r1, .int .i64 r2, .int .i64 r3] 70) (alloc_at (.cells #[.int .i64 w, .int .i64 h, .int .i64 mx, .slice a n c] 26) hB)) (alloc_at _ (alloc_size _ hB)) ((hr.alloc _).alloc _) (((Since.self hB).alloc _).alloc _)); have HR := kq hr; clear hr
 go_enter Tryz.func49, Tryz.ntmps49
 go_wp2_with fail
 refine (qpvalid_any _ _ _ _ _ _ _ _ (by have := HR.o.nc; have := HR.o.cap; omega) H0.o.slc.row).mono ?_; rintro e w1 ⟨rfl, hb⟩; have H1 := kq (H0.o.call hb); clear hb; cases hv : pValid w h mx zs with
 | false =>
  have HV := kq hv; clear hv; go_wp2_with fail
  go_ret2
  exact partial_no (by unfold hOk; rw [if_pos HV.o]) (by omega) (H1.o.below hB)
 | true =>
  have HV := kq hv; clear hv; by_cases hb1 : 1 ≤ bins ∧ bins ≤ 128
  ·
   obtain ⟨b1, b2⟩ := hb1; have m5 : decide (1 ≤ bins ∧ bins ≤ 128) = true := by simp; omega
   have HP := kq (pOk_iff.1 (pValid_iff.1 HV.o).1)
   go_wp2_with (first | (go_at_call 70; refine (qbins_any _ _).mono ?_; rintro e w' ⟨rfl, rfl⟩))
   have HS0 := kq (hbox_s (H1.o.drewN 1)); cases hfu : rFull r0 r1 r2 r3 with
   | false =>
    have HFU := kq hfu; have HE : Kq ((!rEmpty r0 r1 r2 r3 && rInside r0 r1 r2 r3 0 0 w h) = false) := kq (by rw [← full_inside, hfu]; rfl); clear hfu; refine wp_region_held_drew (S := (fun w' => HBox B w h mx a n c zs r0 r1 r2 r3 W w' ∧ w'.cell? ⟨B, 0, none⟩ = some (.int .i64 w) ∧ w'.cell? ⟨B, 1, none⟩ = some (.int .i64 h) ∧ w'.cell? ⟨B, 2, none⟩ = some (.int .i64 mx) ∧ w'.cell? ⟨B, 3, none⟩ = some (.slice a n c) ∧ w'.cell? ⟨B + 1, 0, none⟩ = some (.int .i64 r0) ∧ w'.cell? ⟨B + 1, 1, none⟩ = some (.int .i64 r1) ∧ w'.cell? ⟨B + 1, 2, none⟩ = some (.int .i64 r2) ∧ w'.cell? ⟨B + 1, 3, none⟩ = some (.int .i64 r3))) (by kernel_rfl) HS0.o (fun hHeld => ?_); refine wpAnyH_take (i := 0) (oi := _) (v := ?_) rfl (by kernel_rfl) (by kernel_rfl) (by kernel_rfl) (fun _ _ _ h => h) (Or.inl ⟨by rfl, ?_⟩) (by assumption) ?_
    rotate_left
    focus (intro w hSw; (try dsimp only at hSw); go_simp; (try with_reducible rfl))
    try simp only [pz]
    refine rdy 1 fun K hK => ?_
    go_simp
    go_at_call 73; refine (qfull_any _ _ _ _ _).mono ?_; rw [HFU.o]; rintro e w' ⟨rfl, hbs⟩
    refine hK.out _ _ ?_ (fun hHeld2 => ?_)
    focus ((try dsimp only); (refine hbox_keep hbs ?_; assumption))
    clear hK K; try simp only [pz]
    refine wpAnyH_take (i := 2) (oi := _) (v := ?_) rfl (by kernel_rfl) (by kernel_rfl) (by kernel_rfl) (fun _ _ _ h => h) (Or.inl ⟨by rfl, ?_⟩) (by assumption) ?_
    rotate_left
    focus (intro w hSw; (try dsimp only at hSw); go_simp; (try with_reducible rfl))
    try simp only [pz]
    refine wpAnyH_take (i := 3) (oi := _) (v := ?_) rfl (by kernel_rfl) (by kernel_rfl) (by kernel_rfl) (fun _ _ _ h => h) (Or.inl ⟨by rfl, ?_⟩) (by assumption) ?_
    rotate_left
    focus (intro w hSw; (try dsimp only at hSw); go_simp; (try with_reducible rfl))
    try simp only [pz]
    refine wpAnyH_take (i := 4) (oi := _) (v := _) rfl (by kernel_rfl) (by kernel_rfl) (by kernel_rfl) (fun _ _ _ h => h) (Or.inr ⟨by rfl, rfl⟩) (by assumption) ?_; try simp only [pz]
    refine wpAnyH_take (i := 5) (oi := _) (v := _) rfl (by kernel_rfl) (by kernel_rfl) (by kernel_rfl) (fun _ _ _ h => h) (Or.inr ⟨by rfl, rfl⟩) (by assumption) ?_; try simp only [pz]
    refine wpAnyH_take (i := 6) (oi := _) (v := _) rfl (by kernel_rfl) (by kernel_rfl) (by kernel_rfl) (fun _ _ _ h => h) (Or.inr ⟨by rfl, rfl⟩) (by assumption) ?_; try simp only [pz]
    refine wpAnyH_take (i := 7) (oi := _) (v := _) rfl (by kernel_rfl) (by kernel_rfl) (by kernel_rfl) (fun _ _ _ h => h) (Or.inr ⟨by rfl, rfl⟩) (by assumption) ?_; try simp only [pz]
    refine wpAnyH_take (i := 8) (oi := _) (v := _) rfl (by kernel_rfl) (by kernel_rfl) (by kernel_rfl) (fun _ _ _ h => h) (Or.inr ⟨by rfl, rfl⟩) (by assumption) ?_; try simp only [pz]
    refine wpAnyH_take (i := 9) (oi := _) (v := ?_) rfl (by kernel_rfl) (by kernel_rfl) (by kernel_rfl) (fun _ _ _ h => h) (Or.inl ⟨by rfl, ?_⟩) (by assumption) ?_
    rotate_left
    focus (intro w hSw; (try dsimp only at hSw); go_simp; (try with_reducible rfl))
    try simp only [pz]
    refine wpAnyH_take (i := 10) (oi := _) (v := ?_) rfl (by kernel_rfl) (by kernel_rfl) (by kernel_rfl) (fun _ _ _ h => h) (Or.inl ⟨by rfl, ?_⟩) (by assumption) ?_
    rotate_left
    focus (intro w hSw; (try dsimp only at hSw); go_simp; (try with_reducible rfl))
    try simp only [pz]
    refine wpAnyH_done (by kernel_rfl) ?_ _; have H3 := kq hHeld2.1; go_wp2_with fail
    go_ret2
    exact partial_no (by unfold hOk; rw [if_neg (by rw [HV.o]; simp), if_neg (by simp; omega), if_pos HE.o]) (by omega) (H3.o.below hB)
   | true =>
    have HFU := kq hfu; clear hfu; cases hi : rInside r0 r1 r2 r3 0 0 w h with
    | false =>
     have HI := kq hi; have HE : Kq ((!rEmpty r0 r1 r2 r3 && rInside r0 r1 r2 r3 0 0 w h) = false) := kq (by rw [hi]; simp); clear hi
     go_region_held3 (fun w' => HBox B w h mx a n c zs r0 r1 r2 r3 W w' ∧ w'.cell? ⟨B, 0, none⟩ = some (.int .i64 w) ∧ w'.cell? ⟨B, 1, none⟩ = some (.int .i64 h) ∧ w'.cell? ⟨B, 2, none⟩ = some (.int .i64 mx) ∧ w'.cell? ⟨B, 3, none⟩ = some (.slice a n c) ∧ w'.cell? ⟨B + 1, 0, none⟩ = some (.int .i64 r0) ∧ w'.cell? ⟨B + 1, 1, none⟩ = some (.int .i64 r1) ∧ w'.cell? ⟨B + 1, 2, none⟩ = some (.int .i64 r2) ∧ w'.cell? ⟨B + 1, 3, none⟩ = some (.int .i64 r3)) (first | exact HS0.o | (refine hbox_keep hbs ?_; assumption)) (first | (go_at_call 73; refine (qfull_any _ _ _ _ _).mono ?_; rw [HFU.o]; rintro e w' ⟨rfl, hbs⟩) | (go_at_call 50; refine (qcover_any _ _ _ _ _ _ _).mono ?_; rintro e w' ⟨rfl, hbs⟩) | (go_at_call 74; refine (qinside_any _ _ _ _ _ _ _ _ _).mono ?_; rw [HI.o]; rintro e w' ⟨rfl, hbs⟩))
     rename_i hz; have H3 := kq hz.1; clear hz; go_wp2_with fail
     go_ret2
     exact partial_no (by unfold hOk; rw [if_neg (by rw [HV.o]; simp), if_neg (by simp; omega), if_pos HE.o]) (by omega) (H3.o.below hB)
    | true =>
     have HI := kq hi; have hE : (!rEmpty r0 r1 r2 r3 && rInside r0 r1 r2 r3 0 0 w h) = true := by rw [← full_inside, HFU.o, hi]; rfl
     have HO := kq (show hOk w h mx zs bins r0 r1 r2 r3 = 0 by unfold hOk; rw [if_neg (by rw [HV.o]; simp), if_neg (by simp; omega), if_neg (by rw [hE]; simp)]); have hin := (inside_iff (by have := HP.o; omega) (by have := HP.o; omega) (by have := HP.o; omega) (by have := HP.o; omega)).1 hE; clear hi hE
     go_region_held3 (fun w' => HBox B w h mx a n c zs r0 r1 r2 r3 W w' ∧ w'.cell? ⟨B, 0, none⟩ = some (.int .i64 w) ∧ w'.cell? ⟨B, 1, none⟩ = some (.int .i64 h) ∧ w'.cell? ⟨B, 2, none⟩ = some (.int .i64 mx) ∧ w'.cell? ⟨B, 3, none⟩ = some (.slice a n c) ∧ w'.cell? ⟨B + 1, 0, none⟩ = some (.int .i64 r0) ∧ w'.cell? ⟨B + 1, 1, none⟩ = some (.int .i64 r1) ∧ w'.cell? ⟨B + 1, 2, none⟩ = some (.int .i64 r2) ∧ w'.cell? ⟨B + 1, 3, none⟩ = some (.int .i64 r3)) (first | exact HS0.o | (refine hbox_keep hbs ?_; assumption)) (first | (go_at_call 73; refine (qfull_any _ _ _ _ _).mono ?_; rw [HFU.o]; rintro e w' ⟨rfl, hbs⟩) | (go_at_call 50; refine (qcover_any _ _ _ _ _ _ _).mono ?_; rintro e w' ⟨rfl, hbs⟩) | (go_at_call 74; refine (qinside_any _ _ _ _ _ _ _ _ _).mono ?_; rw [HI.o]; rintro e w' ⟨rfl, hbs⟩))
     rename_i hz; have H3 := kq hz.1; clear hz; obtain ⟨i1, i2, i3, i4, i5, i6⟩ := hin; have r3b : r3 ≤ 128 := by have := HP.o; omega
     obtain ⟨nb, rfl⟩ := Int.eq_ofNat_of_zero_le (show 0 ≤ bins by omega); have HL := kq (show hList w h mx zs nb r0 r1 r2 r3 = hRows (hG w mx nb r0 r1 zs) (r2 - r0).toNat nb (r3 - r1).toNat by unfold hList; rw [if_pos HO.o]; rfl); obtain ⟨D, hD⟩ := hbox_size H3.o
     have hBD : B + 2 ≤ D := by
      have h3 := lt_of_block H3.o.rbox
      omega
     go_wp2_with (first | (at_make; refine make_int rfl _ _ rfl D _ _ nb rfl rfl rfl rfl (by omega) (by omega) ?_; intro w4 ho hb; have H4 := kq (H3.o.call hb); obtain ⟨x0, x1, x2, x3, y0, y1, y2, y3⟩ := H4.o.cells; rw [hD] at ho ⊢; have HOW := kq ho; clear ho hb))
     obtain ⟨ht, hht⟩ : ∃ ht : Nat, r3 = r1 + ht := ⟨(r3 - r1).toNat, by omega⟩; obtain ⟨wd, hwd⟩ : ∃ wd : Nat, r2 = r0 + wd := ⟨(r2 - r0).toNat, by omega⟩; have e1 : (r3 - r1).toNat = ht := by omega
     have e2 : (r2 - r0).toNat = wd := by omega
     rw [e1, e2] at HL; have hfar : Kq (Far a n D) := HR.o.far (by omega); have HH := kq hht; have HW := kq hwd; obtain ⟨ht1, ht2⟩ : (ht : Int) ≤ r3 - r1 ∧ r3 - r1 ≤ ht := by omega
     obtain ⟨wd1, wd2⟩ : (wd : Int) ≤ r2 - r0 ∧ r2 - r0 ≤ wd := by omega
     clear e1 e2 hht hwd hD
     go_loopw [9] (fun y wr => ∃ k : Nat, k ≤ ht ∧ y = .int .i64 (r1 + k) ∧ Own D wr (.slice (some ⟨D, 0, none⟩) nb nb) (hRows (hG w mx nb r0 r1 zs) wd nb k) ∧ HBox B w h mx a n c zs r0 r1 r2 r3 W wr) (fun y _ => (r3 - intOf y).toNat)
     case atStart => exact ⟨0, by omega, by simp, HOW.o, H4.o⟩
     case round =>
      obtain ⟨k, hk, rfl, ho, hh⟩ := hrel; obtain ⟨w5, rfl⟩ : ∃ w1 : World, w1 = wr := ⟨_, rfl⟩; have HO5 := kq ho; have HH5 := kq hh; obtain ⟨x0, x1, x2, x3, y0, y1, y2, y3⟩ := hh.cells; clear ho hh; by_cases hkt : k < ht
      ·
       have hk1 : r1 + (k : Int) < r3 := by omega
       have hn : (n : Int) = w * h := by rw [← (pValid_iff.1 HV.o).2.1, HH5.o.slc.len]
       have hp := HP.o; have p1 : (r1 + (k : Int) + 1) * w ≤ h * w := Int.mul_le_mul_of_nonneg_right (by omega) (by omega); have p0 : 0 ≤ (r1 + (k : Int)) * w := Int.mul_nonneg (by omega) (by omega); rw [Int.add_mul, Int.one_mul, Int.mul_comm h w, ← hn] at p1; obtain ⟨P, hP, q1, q0⟩ : ∃ P, (r1 + (k : Int)) * w = P ∧ IntKind.i64.wrap ((r1 + (k : Int)) * w) = P ∧ 0 ≤ P := ⟨_, rfl, IntWalk.i64_in _ (by omega), p0⟩; rw [hP] at p1; have HPP := kq hP; have HC := kq HH5.o.slc.nc; have hc : (n : Int) ≤ c := by have := HH5.o.slc.nc; omega
       have hcap : (c : Int) ≤ 9223372036854775807 := by have := HH5.o.slc.cap; omega
       have n4 : (n : Int) ≤ 4096 := by omega
       obtain ⟨b, o, rfl⟩ := row_at HH5.o.slc.row (by omega); have s1 : 0 ≤ P + r0 := by omega
       have s2 : P + r0 ≤ P + r2 := by omega
       have s3 : P + r2 ≤ c := by omega
       clear hP hn hp p0; go_wp2_with fail
       obtain ⟨s, hs⟩ : ∃ s : Nat, (P + r0).toNat = s := ⟨_, rfl⟩; have hsw : s + wd ≤ n := by omega
       have HS := kq (show ∀ j, hG w mx nb r0 r1 zs k j = (hBin (zs.getD (s + j) 0) mx nb).toNat by intro j; unfold hG; rw [HPP.o, hs]); have HK1 := kq hk1; obtain ⟨t1, t2⟩ : P + r0 ≤ s ∧ s ≤ P + r0 := by omega
       clear hs s1 s2 s3 hk1 x0 x1 x2 x3 y0 y1 y2 y3; have C0 := kq (Cnt.rows (hG w mx nb r0 r1 zs) wd nb k); have kw : k * wd ≤ 128 * 128 := Nat.mul_le_mul (by have := HP.o; omega) (by have := HP.o; omega); obtain ⟨l0, hl0⟩ : ∃ l0, hRows (hG w mx nb r0 r1 zs) wd nb k = l0 := ⟨_, rfl⟩; rw [hl0] at HO5 C0; have HL0 := kq hl0; clear hl0
       go_loopw [10] (fun i wr => ∃ j : Nat, j ≤ wd ∧ i = .int .i64 (r0 + j) ∧ Own D wr (.slice (some ⟨D, 0, none⟩) nb nb) (hCols (hG w mx nb r0 r1 zs k) l0 j) ∧ HBox B w h mx (some ⟨b, o, none⟩) n c zs r0 r1 r2 r3 W wr) (fun i _ => (r2 - intOf i).toNat)
       case atStart => exact ⟨0, by omega, by simp, HO5.o, HH5.o⟩
       case round =>
        obtain ⟨j, hj, rfl, ho, hh⟩ := hrel; obtain ⟨w6, rfl⟩ : ∃ w1 : World, w1 = wr := ⟨_, rfl⟩; have HO6 := kq ho; have HH6 := kq hh; clear ho hh; by_cases hjw : j < wd
        ·
         have hj1 : r0 + (j : Int) < r2 := by omega
         have HO7 := kq (HO6.o.kept (below_drewN (Below.refl _ _) 1)); have HH7 := kq (HH6.o.drewN 1); have z0 := cell_of (i := 2) HH6.o.rbox rfl; go_wp2_with fail
         refine wp_region_still_tail 19 (by kernel_rfl) (by kernel_rfl) ?_
         change wpStill _ _ (w6.drewN 1) (fun a' => wpList _ _ _ _ a' (w6.drewN 1)) _ _
         clear z0; generalize w6.drewN 1 = w7 at *; obtain ⟨x0, x1, x2, x3, y0, y1, y2, y3⟩ := HH7.o.cells; have ej : (P + (r0 + (j : Int))).toNat = s + j := by omega
         have cz : w7.cell? ⟨b, o + (P + (r0 + (j : Int))).toNat, none⟩ = some (.int .i64 (zs.getD (s + j) 0)) := by rw [ej]; exact row_cell HH7.o.slc.row (j := s + j) (by omega)
         have i1 : 0 ≤ P + (r0 + (j : Int)) := by omega
         have i2 : P + (r0 + (j : Int)) < n := by omega
         have q5 : IntKind.i64.wrap (P + (r0 + (j : Int))) = P + (r0 + (j : Int)) := IntWalk.i64_in _ (by omega); have HB := kq (HS.o j); have HC6 := kq (C0.o.cols (hG w mx nb r0 r1 zs k) j); clear ej; generalize zs.getD (s + j) 0 = z at *; simp only [List.take_succ_cons, List.take_zero, List.drop_succ_cons, List.drop_zero]; iterate 14 still_step
         still_call (qbin_any _ _ _ _)
         obtain ⟨bd0, bd1⟩ := hBin_bd (v := z) (mx := mx) b1; generalize hBin z mx nb = bv at *; have HB' := kq (show bump (hCols (hG w mx nb r0 r1 zs k) l0 j) bv.toNat = hCols (hG w mx nb r0 r1 zs k) l0 (j + 1) by show _ = bump _ (hG w mx nb r0 r1 zs k j); rw [HB.o]); obtain ⟨l1, hl1⟩ : ∃ l1, hCols (hG w mx nb r0 r1 zs k) l0 j = l1 := ⟨_, rfl⟩; rw [hl1] at HO7 HC6 HB'; clear hl1; have hlen : l1.length = nb := HC6.o.len
         have cc : w7.cell? ⟨D, bv.toNat, none⟩ = some (.int .i64 (l1.getD bv.toNat 0)) ∧ w7.frozen? ⟨D, bv.toNat, none⟩ = false := by
          rcases HO7.o.form with ⟨e, _⟩ | ⟨g, c', e, _, _, hcell⟩
          ·
           cases e
          cases e
          exact hcell bv.toNat (by omega)
         obtain ⟨c1, c2⟩ := cc; obtain ⟨cb1, cb2⟩ := HC6.o.bd bv.toNat; have HBU : Kq (bump l1 bv.toNat = l1.set bv.toNat (l1.getD bv.toNat 0 + 1)) := rfl; generalize l1.getD bv.toNat 0 = cnt at *; have cb3 : cnt ≤ 32768 := by omega
         have q6 : IntKind.i64.wrap (cnt + 1) = cnt + 1 := IntWalk.i64_in _ (by omega); iterate 4 still_step
         refine wpStill_nil ?_; go_wp2_with fail
         obtain ⟨hst, hgr⟩ := (show Own D w7 (.slice (some ⟨D, 0, none⟩) l1.length nb) l1 by rw [hlen]; exact HO7.o).stored bv.toNat (cnt + 1); rw [← HBU.o, HB'.o, show (hCols (hG w mx nb r0 r1 zs k) l0 (j + 1)).length = nb from (C0.o.cols _ _).len] at hst; have hh8 := HH7.o.grown hgr hBD hfar.o; generalize w7.setCell ⟨D, bv.toNat, none⟩ (.int .i64 (cnt + 1)) = w8 at *
         go_roundw
         case rel => exact ⟨j + 1, by omega, by go_num, hst, hh8⟩
         case measure => simp [intOf]; omega
        have e : j = wd := by omega
        subst e; obtain ⟨x0, x1, x2, x3, y0, y1, y2, y3⟩ := HH6.o.cells; have hj1 : ¬ (r0 + (j : Int) < r2) := by omega
        go_wp2_with fail
        go_roundw
        case rel => exact ⟨k + 1, by omega, by congr 1; omega, by show Own D w6 _ (hCols (hG w mx nb r0 r1 zs k) (hRows (hG w mx nb r0 r1 zs) _ nb k) _); rw [HL0.o]; exact HO6.o, HH6.o⟩
        case measure => have := HK1.o; simp [intOf]; omega
      have e : k = ht := by omega
      subst e; have hk1 : ¬ (r1 + (k : Int) < r3) := by omega
      go_wp2_with fail
      go_ret2
      refine ⟨_, by rw [HO.o]; rfl, ?_, HH5.o.below hB⟩; rw [HL.o]; exact HO5.o.base (by omega)
  have m5 : decide (1 ≤ bins ∧ bins ≤ 128) = false := by rw [decide_eq_false_iff_not]; exact hb1
  go_wp2_with (first | (go_at_call 70; refine (qbins_any _ _).mono ?_; rintro e w' ⟨rfl, rfl⟩))
  all_goals first
   | (go_ret2; exact partial_no (by unfold hOk; rw [if_neg (by rw [HV.o]; simp), if_pos hb1]) (by omega) (H1.o.below hB))
   | (exfalso; omega)
end

section
open Go.RowKit
set_option linter.unusedVariables false

def hwCode (w h mx : Int) (zs : List Int) (bins : Int) : Int := hOk w h mx zs bins 0 0 w h
def hwIf (w h mx : Int) (zs : List Int) (bins x : Int) : Int := if hwCode w h mx zs bins = 0 then x else 0
def WholePost (w h mx : Int) (zs : List Int) (bins : Int) (W : World) (e : Ending) (w' : World) : Prop :=
 ∃ v, e = .returned (.tuple #[.agg #[.int .i64 (hwIf w h mx zs bins bins), .int .i64 (hwIf w h mx zs bins 1), .int .i64 (hwIf w h mx zs bins (w * h)), v], .int .i64 (hwCode w h mx zs bins)]) ∧ Own W.heap.size w' v (hList w h mx zs bins 0 0 w h) ∧ Below W.heap.size W w'

theorem Own.set4 {base : Nat} {w : World} {v : Value} {zs : List Int} (h : Own base w v zs) {b : Nat} (hb : b < base) (x y z u : Value) : Own base (set4 w b x y z u) v zs := by
 have hne : v.ownBlock ≠ some b := by
  rcases h.form with ⟨rfl, _⟩ | ⟨g, c, rfl, h1, _, _⟩
  ·
   simp [Value.ownBlock]
  simp [Value.ownBlock]; omega
 exact (((h.keptBy (grown_setCell _ _ _ _) hne).keptBy (grown_setCell _ _ _ _) hne).keptBy (grown_setCell _ _ _ _) hne).keptBy (grown_setCell _ _ _ _) hne
end

section
open Go.RowKit
set_option linter.unusedVariables false
set_option linter.unusedSimpArgs false

theorem wb_mk {B : Nat} {W : World} {w h mx : Int} {a : Option Addr} {n c : Nat} {wB : World} (hSt : St B W [.cells (B + 1) #[.int .i64 0, .int .i64 0, .int .i64 0, .slice none 0 0] 26, .cells B #[.int .i64 w, .int .i64 h, .int .i64 mx, .slice a n c] 26] [] wB) : St B W [.cells (B + 1) #[.int .i64 0, .int .i64 0, .int .i64 0, .slice none 0 0] 26, .cells B #[.int .i64 w, .int .i64 h, .int .i64 mx, .slice a n c] 26] [] wB ∧ wB.cell? ⟨B + 1, 0, none⟩ = some (.int .i64 0) ∧ wB.cell? ⟨B + 1, 1, none⟩ = some (.int .i64 0) ∧ wB.cell? ⟨B + 1, 2, none⟩ = some (.int .i64 0) ∧ wB.cell? ⟨B + 1, 3, none⟩ = some (.slice none 0 0) ∧ wB.cell? ⟨B, 0, none⟩ = some (.int .i64 w) ∧ wB.cell? ⟨B, 1, none⟩ = some (.int .i64 h) ∧ wB.cell? ⟨B, 2, none⟩ = some (.int .i64 mx) ∧ wB.cell? ⟨B, 3, none⟩ = some (.slice a n c) := ⟨hSt, (hSt).cell 0 rfl 0 rfl, (hSt).cell 0 rfl 1 rfl, (hSt).cell 0 rfl 2 rfl, (hSt).cell 0 rfl 3 rfl, (hSt).cell 1 rfl 0 rfl, (hSt).cell 1 rfl 1 rfl, (hSt).cell 1 rfl 2 rfl, (hSt).cell 1 rfl 3 rfl⟩
theorem wb_keep {B : Nat} {W : World} {w h mx : Int} {a : Option Addr} {n c : Nat} {wA wB : World} (hb : Below wA.heap.size wA wB) (p : St B W [.cells (B + 1) #[.int .i64 0, .int .i64 0, .int .i64 0, .slice none 0 0] 26, .cells B #[.int .i64 w, .int .i64 h, .int .i64 mx, .slice a n c] 26] [] wA ∧ wA.cell? ⟨B + 1, 0, none⟩ = some (.int .i64 0) ∧ wA.cell? ⟨B + 1, 1, none⟩ = some (.int .i64 0) ∧ wA.cell? ⟨B + 1, 2, none⟩ = some (.int .i64 0) ∧ wA.cell? ⟨B + 1, 3, none⟩ = some (.slice none 0 0) ∧ wA.cell? ⟨B, 0, none⟩ = some (.int .i64 w) ∧ wA.cell? ⟨B, 1, none⟩ = some (.int .i64 h) ∧ wA.cell? ⟨B, 2, none⟩ = some (.int .i64 mx) ∧ wA.cell? ⟨B, 3, none⟩ = some (.slice a n c)) : St B W [.cells (B + 1) #[.int .i64 0, .int .i64 0, .int .i64 0, .slice none 0 0] 26, .cells B #[.int .i64 w, .int .i64 h, .int .i64 mx, .slice a n c] 26] [] wB ∧ wB.cell? ⟨B + 1, 0, none⟩ = some (.int .i64 0) ∧ wB.cell? ⟨B + 1, 1, none⟩ = some (.int .i64 0) ∧ wB.cell? ⟨B + 1, 2, none⟩ = some (.int .i64 0) ∧ wB.cell? ⟨B + 1, 3, none⟩ = some (.slice none 0 0) ∧ wB.cell? ⟨B, 0, none⟩ = some (.int .i64 w) ∧ wB.cell? ⟨B, 1, none⟩ = some (.int .i64 h) ∧ wB.cell? ⟨B, 2, none⟩ = some (.int .i64 mx) ∧ wB.cell? ⟨B, 3, none⟩ = some (.slice a n c) := wb_mk (p.1.call hb)

set_option maxRecDepth 100000 in
set_option maxHeartbeats 1600000 in
theorem qwhole_any (w h mx : Int) (a : Option Addr) (n c : Nat) (zs : List Int) (bins : Int) (W : World) (hr : Slc W a n c zs) :
  Calls Tryz.prog 29 #[.agg #[.int .i64 w, .int .i64 h, .int .i64 mx, .slice a n c], .int .i64 bins] W (WholePost w h mx zs bins W) := by
 obtain ⟨B, hB⟩ : ∃ B, W.heap.size = B := ⟨_, rfl⟩; have HR := kq hr; clear hr
 go_enter Tryz.func29, Tryz.ntmps29
 have H0 := kq (((St.init hB).alloc #[.int .i64 w, .int .i64 h, .int .i64 mx, .slice a n c] 26 hB).alloc #[.int .i64 0, .int .i64 0, .int .i64 0, .slice none 0 0] 26 (alloc_size _ hB)); have HS := kq (wb_mk (H0.o.drewN 1)); go_wp2_with fail
 go_region_held3 (fun w' => St B W [.cells (B + 1) #[.int .i64 0, .int .i64 0, .int .i64 0, .slice none 0 0] 26, .cells B #[.int .i64 w, .int .i64 h, .int .i64 mx, .slice a n c] 26] [] w' ∧ w'.cell? ⟨B + 1, 0, none⟩ = some (.int .i64 0) ∧ w'.cell? ⟨B + 1, 1, none⟩ = some (.int .i64 0) ∧ w'.cell? ⟨B + 1, 2, none⟩ = some (.int .i64 0) ∧ w'.cell? ⟨B + 1, 3, none⟩ = some (.slice none 0 0) ∧ w'.cell? ⟨B, 0, none⟩ = some (.int .i64 w) ∧ w'.cell? ⟨B, 1, none⟩ = some (.int .i64 h) ∧ w'.cell? ⟨B, 2, none⟩ = some (.int .i64 mx) ∧ w'.cell? ⟨B, 3, none⟩ = some (.slice a n c)) (first | exact HS.o | (refine wb_keep hbs ?_; assumption)) (first | (go_at_call 50; refine (qcover_any _ _ _ _ _ _ _).mono ?_; rintro e w' ⟨rfl, hbs⟩) | (go_at_call 49; have hSt : St B W [.cells (B + 1) #[.int .i64 0, .int .i64 0, .int .i64 0, .slice none 0 0] 26, .cells B #[.int .i64 w, .int .i64 h, .int .i64 mx, .slice a n c] 26] [] _ := And.left (by assumption); refine (qpartial_any _ _ _ _ _ _ _ _ _ _ _ _ _ (St.old hSt HR.o)).mono ?_; rintro e w' ⟨v, rfl, ho, hbs⟩; have hgr := kq (hSt.grow hbs ho); clear hSt))
 have H2 := kq (show St B W [.own v (hList w h mx zs bins 0 0 w h), .cells (B + 1) #[.int .i64 0, .int .i64 0, .int .i64 0, .slice none 0 0] 26, .cells B #[.int .i64 w, .int .i64 h, .int .i64 mx, .slice a n c] 26] [] w' from hgr.o); clear ho hbs hgr; obtain ⟨x0, x1, x2, x3, x4, x5, x6, x7⟩ : _ ∧ _ ∧ _ ∧ _ ∧ _ ∧ _ ∧ _ ∧ _ := ⟨(H2.o).cell 1 rfl 0 rfl, (H2.o).cell 1 rfl 1 rfl, (H2.o).cell 1 rfl 2 rfl, (H2.o).cell 1 rfl 3 rfl, (H2.o).cell 2 rfl 0 rfl, (H2.o).cell 2 rfl 1 rfl, (H2.o).cell 2 rfl 2 rfl, (H2.o).cell 2 rfl 3 rfl⟩; have f0 := H2.o.free 1 rfl 0; have f1 := H2.o.free 1 rfl 1; have f2 := H2.o.free 1 rfl 2; have f3 := H2.o.free 1 rfl 3; obtain ⟨va, vc, rfl, _⟩ := (H2.o.own 0 rfl).slc; have hcd : hOk w h mx zs bins 0 0 w h = hwCode w h mx zs bins := rfl; rw [hcd]; clear hcd; have HW := kq (show ∀ x, hwIf w h mx zs bins x = if hwCode w h mx zs bins = 0 then x else 0 from fun _ => rfl)
 have HV := kq (show hwCode w h mx zs bins = 0 → pValid w h mx zs = true by
  intro h0; cases hv : pValid w h mx zs with
  | true => rfl
  | false => simp [hwCode, hOk, hv] at h0)
 obtain ⟨cd, hcd⟩ : ∃ cd, hwCode w h mx zs bins = cd := ⟨_, rfl⟩; rw [hcd] at HW HV ⊢; have HCD := kq hcd; clear hcd; by_cases h0 : cd = 0
 ·
  subst h0; obtain ⟨_, _, _, _, p5, _, _⟩ := pOk_iff.1 (pValid_iff.1 (HV.o rfl)).1; have p0 : 0 ≤ w * h := Int.mul_nonneg (by omega) (by omega); go_wp2_with fail
  obtain ⟨q0, q1, q2, q3⟩ := set4_cells (x := .int .i64 bins) (y := .int .i64 1) (z := .int .i64 (w * h)) (u := .slice va (hList w h mx zs bins 0 0 w h).length vc) (H2.o.all 1 _ rfl).2; refine bodyPost_ret (v := .tuple #[.agg #[.int .i64 bins, .int .i64 1, .int .i64 (w * h), .slice va (hList w h mx zs bins 0 0 w h).length vc], .int .i64 0]) ?_ rfl ⟨_, by rw [HW.o, HW.o, HW.o, HCD.o]; rfl, ?_, ?_⟩
  ·
   unfold set4 at q0 q1 q2 q3
   simp [results, Tryz.results29, go_sem, q0, q1, q2, q3]
  ·
   rw [hB]; exact (H2.o.set4 1 rfl _ _ _ _).own 0 rfl
  exact (H2.o.set4 1 rfl _ _ _ _).below
 have hne : (cd == 0) = false := by simpa using h0
 go_wp2_with fail
 obtain ⟨q0, q1, q2, q3⟩ := set4_cells (x := .int .i64 0) (y := .int .i64 0) (z := .int .i64 0) (u := .slice none 0 0) (H2.o.all 1 _ rfl).2; have HLL := kq (show hList w h mx zs bins 0 0 w h = [] by unfold hList; rw [if_neg (by rw [show hOk w h mx zs bins 0 0 w h = cd from HCD.o]; exact h0)]); refine bodyPost_ret (v := .tuple #[.agg #[.int .i64 0, .int .i64 0, .int .i64 0, .slice none 0 0], .int .i64 cd]) ?_ rfl ⟨_, by rw [HW.o, HW.o, HW.o, HCD.o, if_neg h0, if_neg h0, if_neg h0], ?_, ?_⟩
 ·
  unfold set4 at q0 q1 q2 q3
  simp [results, Tryz.results29, go_sem, q0, q1, q2, q3]
 ·
  rw [HLL.o]; exact Own.nil _ _
 exact (H2.o.set4 1 rfl _ _ _ _).below
end
end Go.Proofs.YteejjnhlfgjlaaaGreat
