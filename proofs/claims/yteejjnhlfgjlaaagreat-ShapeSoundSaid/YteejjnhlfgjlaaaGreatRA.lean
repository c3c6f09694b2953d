/-
 Resizing with tables: bounds of the sums, and what the code 0 says. Contracts: the pixels of planes in a resize, and the sums of taps in the reference. Resizing with tables: small tables give no error; the tile of a rectangle is that of the whole result.
-/
import Derived.Test.YteejjnhlfgjlaaaGreatRzPlain
import Derived.Test.YteejjnhlfgjlaaaGreatCA
import Derived.Test.YteejjnhlfgjlaaaGreatRzChk
import Derived.Test.YteejjnhlfgjlaaaGreatKJ
namespace Go.Proofs.YteejjnhlfgjlaaaGreat
section
set_option linter.unusedVariables false

def rzR (w h : Int) (zs : List Int) (p f : Int) (t : Int × List Int) (k : Int) (n : Nat) : Int := sumN (fun i => t.2.getD i 0 * pPix w h zs p f (t.1 + (i : Int)) k) n
theorem rzM_eq (w h : Int) (zs : List Int) (p f : Int) (t : Int × List Int) (s k : Int) : rzM w h zs p f t s k = shV (rzR w h zs p f t k t.2.length) s := rfl
theorem rzR_bd {w h mx : Int} {zs : List Int} {p f : Int} (hv : pValid w h mx zs = true) (hb : bValid p f mx = true) {t : Int × List Int} (hw : wAll t.2 = true) (k : Int) {n : Nat} (hn : n ≤ t.2.length) (h8 : t.2.length ≤ 8) :
  -1266598740492288 ≤ rzR w h zs p f t k n ∧ rzR w h zs p f t k n ≤ 1266598740492288 := by
 have hp := pOk_iff.1 (pValid_iff.1 hv).1; have := sumN_abs (f := fun i => t.2.getD i 0 * pPix w h zs p f (t.1 + (i : Int)) k) (n := n) (c := 140733193388032) (fun i hi => wmul2 (wAll_iff.1 hw i (by omega)) (by have := pPix_bd hv hb (t.1 + (i : Int)) k; omega))
 unfold rzR
 omega
theorem rzS_bd (w h : Int) (zs : List Int) (p f : Int) (tx : Int × List Int) {ty : Int × List Int} (hw : wAll ty.2 = true) (s : Int) {n : Nat} (hn : n ≤ ty.2.length) (h8 : ty.2.length ≤ 8) :
  -5187988441056411648 ≤ rzS w h zs p f tx ty s n ∧ rzS w h zs p f tx ty s n ≤ 5187988441056411648 := by
 have := sumN_abs (f := fun j => ty.2.getD j 0 * rzM w h zs p f tx s (ty.1 + (j : Int))) (n := n) (c := 576443160117379072) (fun i hi => spT_bd (wAll_iff.1 hw i (by omega)) (shV_bd _ _))
 unfold rzS
 omega
theorem tvTo_zero {ts : Tbl} : ∀ {n j : Nat}, tvTo ts n = 0 → j < n → tvOne (ts.getD j (0, [])) = 0
 | 0, j, _, h => by omega
 | n + 1, j, h0, h => by
  simp only [tvTo] at h0; by_cases hz : tvTo ts n = 0
  ·
   rw [if_neg (by simpa using hz)] at h0
   rcases Nat.lt_or_ge j n with h' | h'
   ·
    exact tvTo_zero hz h'
   rw [show j = n by omega]; exact h0
  rw [if_pos hz] at h0; exact absurd h0 hz
theorem tvOne_zero {p : Int × List Int} (h : tvOne p = 0) : 1 ≤ p.2.length ∧ p.2.length ≤ 8 ∧ wAll p.2 = true ∧ -128 ≤ p.1 ∧ p.1 ≤ 256 := by
 unfold tvOne at h
 split at h
 ·
  omega
 split at h
 ·
  omega
 rename_i h2
 split at h
 ·
  omega
 rename_i h3; simp only [tFirst, Bool.not_eq_false, decide_eq_true_eq] at h3; exact ⟨by omega, by omega, by simpa using h2, h3.1, h3.2⟩
theorem tv_all {ts : Tbl} {n : Int} (h : tvCode ts n = 0) {j : Nat} (hj : j < ts.length) : tvOne (ts.getD j (0, [])) = 0 := by
 unfold tvCode at h
 split at h
 ·
  omega
 exact tvTo_zero h hj
theorem rz_zero {W H mx : Int} {x y : Tbl} {s s2 out : Int} (h : rzCode W H mx x y s s2 out = 0) : tvCode x W = 0 ∧ tvCode y H = 0 ∧ (x.length : Int) * (y.length : Int) ≤ 4096 ∧ 0 ≤ s ∧ s ≤ 24 ∧ 0 ≤ s2 ∧ s2 ≤ 24 ∧ 1 ≤ mx ∧ mx ≤ 4294967296 ∧ 1 ≤ out ∧ out ≤ 4294967296 ∧ acCode mx s x y = 0 := by
 unfold rzCode at h
 split at h
 ·
  omega
 rename_i h1
 split at h
 ·
  omega
 rename_i h2
 split at h
 ·
  omega
 rename_i h3
 split at h
 ·
  omega
 rename_i h4
 split at h
 ·
  omega
 rename_i h5; simp only [Decidable.not_not, shOk, valOk, decide_eq_true_eq] at h4 h5; exact ⟨by simpa using h1, by simpa using h2, by omega, by omega, by omega, by omega, by omega, by omega, by omega, by omega, by omega, h⟩
end

section
open Go.RowKit
attribute [local go_sem ↓] Go.wp_at_zero Go.wp_at_succ
set_option linter.unusedVariables false
set_option linter.unusedSimpArgs false

set_option maxRecDepth 100000 in
set_option maxHeartbeats 3200000 in
theorem rrzmid_any (w h mx : Int) (a : Option Addr) (n c : Nat) (zs : List Int) (p f tkf : Int) (ta : Option Addr) (tn tc : Nat) (ws : List Int) (shift y : Int) (W : World) (hs : Slc W a n c zs) (hw : Slc W ta tn tc ws) (hv : pValid w h mx zs = true) (hb : bValid p f mx = true) (hl : 1 ≤ tn ∧ tn ≤ 8) (hwa : wAll ws = true) (hx : -1000 ≤ tkf ∧ tkf ≤ 1000) :
  Calls Tryz.prog 80 #[.agg #[.int .i64 w, .int .i64 h, .int .i64 mx, .slice a n c], .agg #[.int .i64 p, .int .i64 f], .agg #[.int .i64 tkf, .slice ta tn tc], .int .i64 shift, .int .i64 y] W fun e w' => e = .returned (.int .i64 (rzM w h zs p f (tkf, ws) shift y)) ∧ Below W.heap.size W w' := by
 obtain ⟨B, hB⟩ : ∃ B, W.heap.size = B := ⟨_, rfl⟩; have HI0 := kq (St.init hB); obtain ⟨tn1, tn2⟩ := hl; obtain ⟨wb, wo, hta⟩ := row_at hw.row (by omega); subst hta; have HS := kq hs; have HW := kq hw; have HLW := kq hw.len; have HV := kq hv; have HB := kq hb; have HWA := kq hwa; have hpm := (pOk_iff.1 (pValid_iff.1 hv).1).2.2.2.2.2.2; obtain ⟨hx1, hx2⟩ := hx; clear hs hw hv hb hwa
 go_enter Tryz.func80, Tryz.ntmps80
 go_upto_region 1 with fail
 have H1 := kq (show St _ _ (.cells (B + 1 + 1) _ _ :: .cells (B + 1) _ _ :: .cells B _ _ :: _) _ _ from (((HI0.o.alloc #[.int .i64 w, .int .i64 h, .int .i64 mx, .slice a n c] 26 hB).alloc #[.int .i64 p, .int .i64 f] 30 (by first | exact hB | simp [hB])).alloc #[.int .i64 tkf, .slice (some ⟨wb, wo, none⟩) tn tc] 59 (by first | exact hB | simp [hB]))); first | refine gK H1 ?_ | refine gL H1 ?_ | refine gC H1 ?_
 clear H1; intro w1 H1; go_wp2_with fail
 go_loopw [12, 11] (fun i s wr => ∃ m : Nat, m ≤ tn ∧ i = .int .i64 m ∧ s = .int .i64 (rzR w h zs p f (tkf, ws) y m) ∧ St B W [.cells (B + 1 + 1) #[.int .i64 tkf, .slice (some ⟨wb, wo, none⟩) tn tc] 59, .cells (B + 1) #[.int .i64 p, .int .i64 f] 30, .cells B #[.int .i64 w, .int .i64 h, .int .i64 mx, .slice a n c] 26] [] wr) (fun i _ _ => tn - (intOf i).toNat)
 case atStart => exact ⟨0, by omega, rfl, rfl, H1.o⟩
 case round =>
  obtain ⟨m, hm, rfl, rfl, hst⟩ := hrel; obtain ⟨u1, rfl⟩ : ∃ u1 : World, u1 = wr := ⟨_, rfl⟩; have H1 := kq hst; clear hst; obtain ⟨S2a, S2b⟩ := rzR_bd HV.o HB.o (t := (tkf, ws)) HWA.o y (n := m) (show m ≤ ws.length by rw [HLW.o]; exact hm) (show ws.length ≤ 8 by rw [HLW.o]; exact tn2); obtain ⟨S2, hS2⟩ := nK (rzR w h zs p f (tkf, ws) y m); rw [hS2] at S2a S2b ⊢; have HS2 := kq hS2; clear hS2; by_cases hmn : m < tn
  ·
   have hmn' : (m : Int) < tn := by omega
   have z1 := H1.o.c2 0 rfl; go_upto_region 5 with fail
   clear z1; obtain ⟨wz, hwz⟩ := nK (ws.getD m 0); have hzw := kq (show -32767 ≤ wz ∧ wz ≤ 32767 from by rw [← hwz]; exact wAll_iff.1 HWA.o _ (by have := HLW.o; omega)); have HWZ := kq hwz; clear hwz; have wa3 : IntKind.i64.wrap (tkf + (m : Int)) = tkf + m := IntWalk.i64_in _ (by omega); have H2 := kq H1.o.drew; refine wp_region_held_drew (S := (fun w' => w'.cell? ⟨B + 1 + 1, 0, none⟩ = some (.int .i64 tkf) ∧ w'.cell? ⟨B + 1 + 1, 1, none⟩ = some (.slice (some ⟨wb, wo, none⟩) tn tc) ∧ w'.cell? ⟨B, 0, none⟩ = some (.int .i64 w) ∧ w'.cell? ⟨B, 1, none⟩ = some (.int .i64 h) ∧ w'.cell? ⟨B, 2, none⟩ = some (.int .i64 mx) ∧ w'.cell? ⟨B, 3, none⟩ = some (.slice a n c) ∧ w'.cell? ⟨B + 1, 0, none⟩ = some (.int .i64 p) ∧ w'.cell? ⟨B + 1, 1, none⟩ = some (.int .i64 f) ∧ w'.cell? ⟨wb, wo + m, none⟩ = some (.int .i64 wz))) (by kernel_rfl) ⟨H2.o.cell 0 rfl 0 rfl, H2.o.cell 0 rfl 1 rfl, H2.o.cell 2 rfl 0 rfl, H2.o.cell 2 rfl 1 rfl, H2.o.cell 2 rfl 2 rfl, H2.o.cell 2 rfl 3 rfl, H2.o.cell 1 rfl 0 rfl, H2.o.cell 1 rfl 1 rfl, (by have := row_cell (H2.o.old HW.o).row (j := m) hmn; rw [HWZ.o] at this; exact this)⟩ (fun hHeld => ?_); generalize u1.drew = k32 at *; refine tk 0 ?_; refine tk 1 ?_; refine tk 2 ?_; refine tk 3 ?_; refine tk 4 ?_; refine tk 5 ?_; refine tk 6 ?_; refine tk 7 ?_; refine tk 8 ?_; refine tk 9 ?_; refine tk 10 ?_; refine tk 11 ?_; refine tk 12 ?_; refine rdy 13 fun K hK => ?_
   go_simp
   go_at_call 76
   refine (qpixel_any _ _ _ _ _ _ _ _ _ _ _ _ (H2.o.old HS.o) HV.o).mono ?_; rintro e w1 ⟨rfl, hb⟩; have H3 := kq (H2.o.call hb); clear hb; obtain ⟨pv3, HNpv1⟩ := nQ (pPix w h zs p f (tkf + m) y); rw [HNpv1.o]; obtain ⟨pv1, pv2⟩ : 0 ≤ pv3 ∧ pv3 ≤ mx := by rw [← HNpv1.o]; exact pPix_bd HV.o HB.o _ _
   obtain ⟨pr1, pr2⟩ := wmul2 hzw.o ⟨pv1, show pv3 ≤ 4294967296 by omega⟩; have HSN0 := kq (show rzR w h zs p f (tkf, ws) y (m + 1) = S2 + wz * pv3 from by rw [← HS2.o]; show rzR w h zs p f (tkf, ws) y m + ws.getD m 0 * pPix w h zs p f (tkf + (m : Int)) y = _; rw [HWZ.o, HNpv1.o]); obtain ⟨PR, hPR⟩ := nK (wz * pv3); rw [hPR] at pr1 pr2 HSN0; have w8 : IntKind.i64.wrap PR = PR := IntWalk.i64_in _ (by omega); have w9 : IntKind.i64.wrap (S2 + PR) = S2 + PR := IntWalk.i64_in _ (by omega); refine hK.out _ _ (by (try dsimp only); exact ⟨H3.o.cell 0 rfl 0 rfl, H3.o.cell 0 rfl 1 rfl, H3.o.cell 2 rfl 0 rfl, H3.o.cell 2 rfl 1 rfl, H3.o.cell 2 rfl 2 rfl, H3.o.cell 2 rfl 3 rfl, H3.o.cell 1 rfl 0 rfl, H3.o.cell 1 rfl 1 rfl, (by have := row_cell (H3.o.old HW.o).row (j := m) hmn; rw [HWZ.o] at this; exact this)⟩) ?_; clear hK K hHeld; intro hHeld; try simp only [pz]
   refine tk 14 ?_; refine tk 15 ?_; refine tk 16 ?_; refine wpAnyH_done (by kernel_rfl) ?_ _; try clear hHeld
   clear w8 w9 wa3; go_wp2_with fail
   go_roundw
   case rel => exact ⟨m + 1, by omega, by go_num, by rw [HSN0.o], H3.o⟩
   case measure => first | (simp [intOf]; omega) | (simp [intOf]; done)
  have hmn' : ¬ ((m : Int) < tn) := by omega
  have HMN := kq (show m = tn by omega); have z1 := H1.o.c2 0 rfl; go_wp2_with fail
  clear z1; refine (rshift_any _ _ _).mono ?_; rintro e w1 ⟨rfl, hsw⟩; have hsw2 : u1 = w1 := by first | exact hsw | exact hsw.symm
  clear hsw; subst hsw2; go_wp2_with fail
  go_ret
  exact ⟨ret_i (by rw [rzM_eq]; show _ = shV (rzR w h zs p f (tkf, ws) y ws.length) shift; rw [HLW.o, ← HMN.o, HS2.o]), H1.o.bl⟩
end

section
set_option linter.unusedVariables false
end
end Go.Proofs.YteejjnhlfgjlaaaGreat
