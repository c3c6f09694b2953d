/-
 Contracts: the pixels of a row's window, and the sums of rows in the reference. Contract: the tiles of convolutions by rows and columns, in the program.
-/
import Derived.Test.YteejjnhlfgjlaaaGreatSpChk
import Derived.Test.YteejjnhlfgjlaaaGreatKH
namespace Go.Proofs.YteejjnhlfgjlaaaGreat
section
open Go.RowKit
attribute [local go_sem ↓] Go.wp_at_zero Go.wp_at_succ
set_option linter.unusedVariables false
set_option linter.unusedSimpArgs false

set_option maxRecDepth 100000 in
set_option maxHeartbeats 3200000 in
theorem rmid_any (w h mx : Int) (a : Option Addr) (n c : Nat) (zs : List Int) (p f : Int) (wa : Option Addr) (wn wc : Nat) (ws : List Int) (shift x y : Int) (W : World) (hs : Slc W a n c zs) (hw : Slc W wa wn wc ws) (hv : pValid w h mx zs = true) (hb : bValid p f mx = true) (hl : 1 ≤ wn ∧ wn ≤ 9) (hwa : wAll ws = true) (hx : -1000 ≤ x ∧ x ≤ 1000) :
  Calls Tryz.prog 79 #[.agg #[.int .i64 w, .int .i64 h, .int .i64 mx, .slice a n c], .agg #[.int .i64 p, .int .i64 f], .slice wa wn wc, .int .i64 shift, .int .i64 x, .int .i64 y] W fun e w' => e = .returned (.int .i64 (spM w h zs p f ws shift x y)) ∧ Below W.heap.size W w' := by
 obtain ⟨B, hB⟩ : ∃ B, W.heap.size = B := ⟨_, rfl⟩; have HI0 := kq (St.init hB); have HS := kq hs; have HW := kq hw; have HLW := kq hw.len; have HV := kq hv; have HB := kq hb; have HWA := kq hwa; have hpm := (pOk_iff.1 (pValid_iff.1 hv).1).2.2.2.2.2.2; obtain ⟨hx1, hx2⟩ := hx; obtain ⟨wn1, wn2⟩ := hl; obtain ⟨n2, hn2⟩ : ∃ q, Int.tdiv (wn : Int) 2 = q := ⟨_, rfl⟩; have HN2 := kq (show (wn : Int) / 2 = n2 from by rw [← hn2, Int.tdiv_eq_ediv_of_nonneg (by omega)]); obtain ⟨n2a, n2b⟩ : 0 ≤ n2 ∧ n2 ≤ 4 := by have := HN2.o; omega
 clear hs hw hv hb hwa
 go_enter Tryz.func79, Tryz.ntmps79
 go_upto_region 1 with fail
 have H1 := kq (show St _ _ (.cells (B + 1) _ _ :: .cells B _ _ :: _) _ _ from ((HI0.o.alloc #[.int .i64 w, .int .i64 h, .int .i64 mx, .slice a n c] 26 hB).alloc #[.int .i64 p, .int .i64 f] 30 (by first | exact hB | simp [hB]))); first | refine gK H1 ?_ | refine gL H1 ?_ | refine gC H1 ?_
 clear H1; intro w1 H1; go_wp2_with fail
 obtain ⟨wb, wo, hwa⟩ := row_at HW.o.row (by omega); subst hwa
 go_loopw [14, 13] (fun i s wr => ∃ m : Nat, m ≤ wn ∧ i = .int .i64 m ∧ s = .int .i64 (spR w h zs p f ws x y m) ∧ St B W [.cells (B + 1) #[.int .i64 p, .int .i64 f] 30, .cells B #[.int .i64 w, .int .i64 h, .int .i64 mx, .slice a n c] 26] [] wr) (fun i _ _ => wn - (intOf i).toNat)
 case atStart => exact ⟨0, by omega, rfl, rfl, H1.o⟩
 case round =>
  obtain ⟨m, hm, rfl, rfl, hst⟩ := hrel; obtain ⟨u1, rfl⟩ : ∃ u1 : World, u1 = wr := ⟨_, rfl⟩; have H1 := kq hst; clear hst; obtain ⟨S2a, S2b⟩ := spR_bd HV.o HB.o HWA.o x y (n := m) (by rw [HLW.o]; exact hm) (by rw [HLW.o]; exact wn2); obtain ⟨S2, hS2⟩ := nK (spR w h zs p f ws x y m); rw [hS2] at S2a S2b ⊢; have HS2 := kq hS2; clear hS2; by_cases hmn : m < wn
  ·
   have hmn' : (m : Int) < wn := by omega
   go_upto_region 5 with fail
   obtain ⟨wz, hwz⟩ := nK (ws.getD m 0); have hzw := kq (show -32767 ≤ wz ∧ wz ≤ 32767 from by rw [← hwz]; exact wAll_iff.1 HWA.o _ (by have := HLW.o; omega)); have HWZ := kq hwz; clear hwz; have wa1 : IntKind.i64.wrap n2 = n2 := IntWalk.i64_in _ (by omega); have wa3 : IntKind.i64.wrap (x + (m : Int)) = x + m := IntWalk.i64_in _ (by omega); have wa4 : IntKind.i64.wrap (x + (m : Int) - n2) = x + m - n2 := IntWalk.i64_in _ (by omega); have H2 := kq H1.o.drew; refine wp_region_held_drew (S := (fun w' => w'.cell? ⟨B, 0, none⟩ = some (.int .i64 w) ∧ w'.cell? ⟨B, 1, none⟩ = some (.int .i64 h) ∧ w'.cell? ⟨B, 2, none⟩ = some (.int .i64 mx) ∧ w'.cell? ⟨B, 3, none⟩ = some (.slice a n c) ∧ w'.cell? ⟨B + 1, 0, none⟩ = some (.int .i64 p) ∧ w'.cell? ⟨B + 1, 1, none⟩ = some (.int .i64 f) ∧ w'.cell? ⟨wb, wo + m, none⟩ = some (.int .i64 wz))) (by kernel_rfl) ⟨H2.o.cell 1 rfl 0 rfl, H2.o.cell 1 rfl 1 rfl, H2.o.cell 1 rfl 2 rfl, H2.o.cell 1 rfl 3 rfl, H2.o.cell 0 rfl 0 rfl, H2.o.cell 0 rfl 1 rfl, (by have := row_cell (H2.o.old HW.o).row (j := m) hmn; rw [HWZ.o] at this; exact this)⟩ (fun hHeld => ?_); generalize u1.drew = k1 at *; refine tk 0 ?_; refine tk 1 ?_; refine tk 2 ?_; refine tk 3 ?_; refine tk 4 ?_; refine tk 5 ?_; refine tk 6 ?_; refine tk 7 ?_; refine tk 8 ?_; refine tk 9 ?_; refine tk 10 ?_; refine tk 11 ?_; refine tk 12 ?_; refine tk 13 ?_; refine tk 14 ?_; refine rdy 15 fun K hK => ?_
   go_simp
   go_at_call 76
   refine (qpixel_any _ _ _ _ _ _ _ _ _ _ _ _ (H2.o.old HS.o) HV.o).mono ?_; rintro e w1 ⟨rfl, hb⟩; have H3 := kq (H2.o.call hb); clear hb; obtain ⟨pv3, HNpv1⟩ := nQ (pPix w h zs p f (x + m - n2) y); rw [HNpv1.o]; obtain ⟨pv1, pv2⟩ : 0 ≤ pv3 ∧ pv3 ≤ mx := by rw [← HNpv1.o]; exact pPix_bd HV.o HB.o _ _
   obtain ⟨pr1, pr2⟩ := wmul2 hzw.o ⟨pv1, show pv3 ≤ 4294967296 by omega⟩; have HSN0 := kq (show spR w h zs p f ws x y (m + 1) = S2 + wz * pv3 from by rw [← HS2.o]; show spR w h zs p f ws x y m + ws.getD m 0 * pPix w h zs p f (x + (m : Int) - (ws.length : Int) / 2) y = _; rw [HWZ.o, HLW.o, HN2.o, HNpv1.o]); obtain ⟨PR, hPR⟩ := nK (wz * pv3); rw [hPR] at pr1 pr2 HSN0; have w8 : IntKind.i64.wrap PR = PR := IntWalk.i64_in _ (by omega); have w9 : IntKind.i64.wrap (S2 + PR) = S2 + PR := IntWalk.i64_in _ (by omega); refine hK.out _ _ (by (try dsimp only); exact ⟨H3.o.cell 1 rfl 0 rfl, H3.o.cell 1 rfl 1 rfl, H3.o.cell 1 rfl 2 rfl, H3.o.cell 1 rfl 3 rfl, H3.o.cell 0 rfl 0 rfl, H3.o.cell 0 rfl 1 rfl, (by have := row_cell (H3.o.old HW.o).row (j := m) hmn; rw [HWZ.o] at this; exact this)⟩) ?_; clear hK K hHeld; intro hHeld; try simp only [pz]
   refine tk 16 ?_; refine tk 17 ?_; refine tk 18 ?_; refine wpAnyH_done (by kernel_rfl) ?_ _; try clear hHeld
   clear w8 w9 wa1 wa3 wa4; go_wp2_with fail
   go_roundw
   case rel => exact ⟨m + 1, by omega, by go_num, by rw [HSN0.o], H3.o⟩
   case measure => first | (simp [intOf]; omega) | (simp [intOf]; done)
  have hmn' : ¬ ((m : Int) < wn) := by omega
  have HMN := kq (show m = wn by omega); go_wp2_with fail
  refine (rshift_any _ _ _).mono ?_; rintro e w1 ⟨rfl, hsw⟩; have hsw2 : u1 = w1 := by first | exact hsw | exact hsw.symm
  clear hsw; subst hsw2; go_wp2_with fail
  go_ret
  exact ⟨ret_i (by unfold spM; rw [HLW.o, ← HMN.o, HS2.o]), H1.o.bl⟩
end

section
open Go.RowKit
attribute [local go_sem ↓] Go.wp_at_zero Go.wp_at_succ
set_option linter.unusedVariables false
set_option linter.unusedSimpArgs false
end
end Go.Proofs.YteejjnhlfgjlaaaGreat
