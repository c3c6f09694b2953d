/-
  Contract: a tile of an integral plane, in the reference. Contract: the integral plane of a plane, in the reference.
-/
import Derived.Test.YtoojiabdgaflgaaKE
import Derived.Test.YtoojiabdgaflgaaKB
import Derived.Test.YtoojiabdgaflgaaKA
namespace Go.Proofs.Ytoojiabdgaflgaa
section
open Go.RowKit
attribute [local go_sem ↓] Go.wp_at_zero Go.wp_at_succ
set_option linter.unusedVariables false
set_option linter.unusedSimpArgs false

/-- The first values, and zeros behind them. -/
def fillL (f : Nat → Nat → Int) (wd k j N : Nat) : List Int := gridL f wd k j ++ List.replicate (N - (k * wd + j)) 0
theorem fillL_len {f : Nat → Nat → Int} {wd k j N : Nat} (h : k * wd + j ≤ N) : (fillL f wd k j N).length = N := by simp [fillL, gridL_len]; omega
theorem fillL_zero (f : Nat → Nat → Int) (wd N : Nat) : fillL f wd 0 0 N = List.replicate N 0 := by simp [fillL, gridL_zero]
theorem fillL_next {f : Nat → Nat → Int} {wd k j N : Nat} (h : k * wd + j < N) : (fillL f wd k j N).set (k * wd + j) (f k j) = fillL f wd k (j + 1) N := by
  unfold fillL
  rw [List.set_append_right _ _ (by rw [gridL_len]; omega), gridL_len, Nat.sub_self, gridL_next]
  obtain ⟨m, hm⟩ : ∃ m, N - (k * wd + j) = m + 1 := ⟨N - (k * wd + j) - 1, by omega⟩
  rw [hm, List.replicate_succ, List.set_cons_zero, show N - (k * wd + (j + 1)) = m by omega, List.append_assoc, List.singleton_append]
theorem fillL_row (f : Nat → Nat → Int) (wd k N : Nat) : fillL f wd k wd N = fillL f wd (k + 1) 0 N := by
  unfold fillL; rw [gridL_row, Nat.add_mul, Nat.one_mul]; rfl
theorem fillL_all (f : Nat → Nat → Int) (wd k : Nat) : fillL f wd k 0 (k * wd) = gridL f wd k 0 := by simp [fillL]
def rowS (w : Int) (zs : List Int) (r0 r1 : Int) (a j : Nat) : Int := sumN (fun b => tPix w zs r0 r1 a b) j
def rowsS (w : Int) (zs : List Int) (r0 r1 : Int) (k j : Nat) : Int := sumN (fun a => rowS w zs r0 r1 a j) k
theorem rowS_bd {w h mx : Int} {zs : List Int} (hv : pValid w h mx zs = true) (r0 r1 : Int) (a : Nat) {j : Nat} (hj : j ≤ 128) : 0 ≤ rowS w zs r0 r1 a j ∧ rowS w zs r0 r1 a j ≤ 549755813888 := by
  have hm := (pOk_iff.1 (pValid_iff.1 hv).1).2.2.2.2.2
  have h1 := sumN_bd (f := fun b => tPix w zs r0 r1 a b) (n := j) (fun i _ => tPix_bd hv r0 r1 a i)
  have h2 : (j : Int) * mx ≤ 128 * 4294967296 := Int.mul_le_mul (by omega) hm.2 (by omega) (by omega)
  unfold rowS; omega
theorem rowsS_bd {w h mx : Int} {zs : List Int} (hv : pValid w h mx zs = true) (r0 r1 : Int) {k j : Nat} (hk : k ≤ 128) (hj : j ≤ 128) : 0 ≤ rowsS w zs r0 r1 k j ∧ rowsS w zs r0 r1 k j ≤ 70368744177664 := by
  have h1 := sumN_bd (f := fun a => rowS w zs r0 r1 a j) (n := k) (fun i _ => rowS_bd hv r0 r1 i hj)
  have h2 : (k : Int) * 549755813888 ≤ 128 * 549755813888 := Int.mul_le_mul_of_nonneg_right (by omega) (by omega)
  unfold rowsS; omega
theorem tSum_rowsS (w : Int) (zs : List Int) (r0 r1 : Int) (k j : Nat) : tSum w zs r0 r1 k j = rowsS w zs r0 r1 k j := tSum_rows w zs r0 r1 k j
theorem fullInside' {r0 r1 r2 r3 b0 b1 b2 b3 : Int} (hf : rFull r0 r1 r2 r3 = false ∨ rInside r0 r1 r2 r3 b0 b1 b2 b3 = false) : (!rEmpty r0 r1 r2 r3 && rInside r0 r1 r2 r3 b0 b1 b2 b3) = false := by
  rw [← fullInside]; rcases hf with e | e <;> rw [e] <;> simp

set_option maxRecDepth 100000 in
set_option maxHeartbeats 6400000 in
theorem qtile_any (w h mx : Int) (a : Option Addr) (n c : Nat) (zs : List Int) (r0 r1 r2 r3 : Int) (al : Option Addr) (nl cl : Nat) (left : List Int) (at' : Option Addr) (nt ct : Nat) (top : List Int) (corner : Int) (W : World) (hs : Slc W a n c zs) (hl : Slc W al nl cl left) (ht : Slc W at' nt ct top) :
    Calls Try.prog 45 #[.agg #[.int .i64 w, .int .i64 h, .int .i64 mx, .slice a n c], .agg #[.int .i64 r0, .int .i64 r1, .int .i64 r2, .int .i64 r3], .slice al nl cl, .slice at' nt ct, .int .i64 corner] W (TilePost w h mx zs r0 r1 r2 r3 left top corner W) := by
  obtain ⟨B, hB⟩ : ∃ B, W.heap.size = B := ⟨_, rfl⟩
  have HS := hid hs
  have HL := hid hl
  have HT := hid ht
  have HLL := hid hl.len
  have HTL := hid ht.len
  have HI0 := hid (St.init hB)
  clear hs hl ht
  go_enter Try.func45, Try.ntmps45
  go_upto_region 1 with fail
  have H1 := hid (show St B W [.cells (B + 1 + 1) #[.int .i64 0, .int .i64 0, .int .i64 0, .slice none 0 0] 26, .cells (B + 1) #[.int .i64 r0, .int .i64 r1, .int .i64 r2, .int .i64 r3] 39, .cells B #[.int .i64 w, .int .i64 h, .int .i64 mx, .slice a n c] 26] [] (((W.alloc (.cells #[.int .i64 w, .int .i64 h, .int .i64 mx, .slice a n c] 26)).alloc (.cells #[.int .i64 r0, .int .i64 r1, .int .i64 r2, .int .i64 r3] 39)).alloc (.cells #[.int .i64 0, .int .i64 0, .int .i64 0, .slice none 0 0] 26)) from (((HI0.out.alloc #[.int .i64 w, .int .i64 h, .int .i64 mx, .slice a n c] 26 hB).alloc #[.int .i64 r0, .int .i64 r1, .int .i64 r2, .int .i64 r3] 39 (by first | exact hB | simp [hB])).alloc #[.int .i64 0, .int .i64 0, .int .i64 0, .slice none 0 0] 26 (by first | exact hB | simp [hB])))
  first | refine gen_code H1.out ?_ | refine gen_list H1.out ?_ | refine gen_calls H1.out ?_
  intro w2 hG
  clear H1
  have H1 := hid hG
  clear hG
  have z3 := H1.out.cell 2 rfl 0 rfl
  have z4 := H1.out.cell 2 rfl 1 rfl
  have z5 := H1.out.cell 2 rfl 2 rfl
  have z6 := H1.out.cell 2 rfl 3 rfl
  go_wp2_with fail
  clear z3 z4 z5 z6
  refine (qchecked_any _ _ _ _ _ _ _ _ (H1.out.old HS.out)).mono ?_
  rintro e w7 ⟨rfl, hb⟩
  have H8 := hid (H1.out.call hb)
  clear hb
  have HKC := hid (show kCode w h mx zs ≠ 0 → tCode w h mx zs r0 r1 r2 r3 left top corner = kCode w h mx zs from fun hk => tCode_of_k hk)
  have HKV := hid (show kCode w h mx zs = 0 → pValid w h mx zs = true ∧ iOk w h mx = true from fun hk => valid_of_k hk)
  have HKM := hid (show pValid w h mx zs = true → iOk w h mx = true → kVal w h mx zs = w * h * mx from fun hv hi => by simp [kVal, iVal, hv, hi])
  obtain ⟨kc, hkc⟩ : ∃ k, kCode w h mx zs = k := ⟨_, rfl⟩
  obtain ⟨kv, hkv⟩ : ∃ k, kVal w h mx zs = k := ⟨_, rfl⟩
  rw [hkc] at HKC HKV ⊢
  rw [hkv] at HKM ⊢
  clear hkc hkv
  by_cases hk0 : kc = 0
  · skip
    subst hk0
    obtain ⟨hv, hio⟩ := HKV.out rfl
    have hm := HKM.out hv hio
    subst hm
    have HV := hid hv
    have HIO := hid (iOk_iff.1 hio)
    have HP := hid (pOk_iff.1 (pValid_iff.1 hv).1)
    have HNV := hid (show ¬ pValid w h mx zs = false by rw [hv]; simp)
    have HNI0 := hid (show ¬ iOk w h mx = false by rw [hio]; simp)
    clear HKC HKV HKM hv hio
    obtain ⟨most, hmost⟩ : ∃ m, w * h * mx = m := ⟨_, rfl⟩
    have HMO := hid hmost
    rw [hmost]
    clear hmost
    go_upto_region 4 with fail
    cases hfu : rFull r0 r1 r2 r3 with
    | false =>
      have HFU := hid hfu
      have HX := hid (fullInside' (b0 := 0) (b1 := 0) (b2 := w) (b3 := h) (.inl hfu))
      clear hfu
      have H9 := hid H8.out.drew
      refine wp_region_held_drew (S := (fun w' => w'.cell? ⟨B + 1, 0, none⟩ = some (.int .i64 r0) ∧ w'.cell? ⟨B + 1, 1, none⟩ = some (.int .i64 r1) ∧ w'.cell? ⟨B + 1, 2, none⟩ = some (.int .i64 r2) ∧ w'.cell? ⟨B + 1, 3, none⟩ = some (.int .i64 r3) ∧ w'.cell? ⟨B, 0, none⟩ = some (.int .i64 w) ∧ w'.cell? ⟨B, 1, none⟩ = some (.int .i64 h) ∧ w'.cell? ⟨B, 2, none⟩ = some (.int .i64 mx) ∧ w'.cell? ⟨B, 3, none⟩ = some (.slice a n c))) (by kernel_rfl) ⟨H9.out.cell 1 rfl 0 rfl, H9.out.cell 1 rfl 1 rfl, H9.out.cell 1 rfl 2 rfl, H9.out.cell 1 rfl 3 rfl, H9.out.cell 2 rfl 0 rfl, H9.out.cell 2 rfl 1 rfl, H9.out.cell 2 rfl 2 rfl, H9.out.cell 2 rfl 3 rfl⟩ (fun hHeld => ?_)
      generalize w7.drew = k10 at *
      refine wpAnyH_take (i := 0) (oi := _) (v := ?_) rfl (by kernel_rfl) (by kernel_rfl) (by kernel_rfl) (fun _ _ _ h => h) (Or.inl ⟨by rfl, ?_⟩) (by assumption) ?_
      rotate_left
      focus (intro wS hSw; (try dsimp only at hSw); go_simp; (try with_reducible rfl))
      try simp only [Act.put, List.getElem_toArray, List.getElem_cons_zero, List.getElem_cons_succ, List.setIfInBounds_toArray, List.set_cons_zero, List.set_cons_succ]
      refine wpAnyH_ready (rs := [1]) (by kernel_rfl) (by simp) (AllReadyH.cons (o := _) rfl (fun K hK => ?_) AllReadyH.nil)
      go_simp
      go_at_call 68
      refine (qfull_any _ _ _ _ _).mono ?_
      rintro e w11 ⟨rfl, hb⟩
      have H12 := hid (H9.out.call hb)
      clear hb
      rw [HFU.out]
      refine hK.out _ _ ?_ (fun hHeld2 => ?_)
      focus ((try dsimp only); (exact ⟨H12.out.cell 1 rfl 0 rfl, H12.out.cell 1 rfl 1 rfl, H12.out.cell 1 rfl 2 rfl, H12.out.cell 1 rfl 3 rfl, H12.out.cell 2 rfl 0 rfl, H12.out.cell 2 rfl 1 rfl, H12.out.cell 2 rfl 2 rfl, H12.out.cell 2 rfl 3 rfl⟩))
      clear hK K
      try simp only [Act.put, List.getElem_toArray, List.getElem_cons_zero, List.getElem_cons_succ, List.setIfInBounds_toArray, List.set_cons_zero, List.set_cons_succ]
      clear hHeld
      have hHeld := hHeld2
      clear hHeld2
      refine wpAnyH_take (i := 2) (oi := _) (v := ?_) rfl (by kernel_rfl) (by kernel_rfl) (by kernel_rfl) (fun _ _ _ h => h) (Or.inl ⟨by rfl, ?_⟩) (by assumption) ?_
      rotate_left
      focus (intro wS hSw; (try dsimp only at hSw); go_simp; (try with_reducible rfl))
      try simp only [Act.put, List.getElem_toArray, List.getElem_cons_zero, List.getElem_cons_succ, List.setIfInBounds_toArray, List.set_cons_zero, List.set_cons_succ]
      refine wpAnyH_take (i := 3) (oi := _) (v := ?_) rfl (by kernel_rfl) (by kernel_rfl) (by kernel_rfl) (fun _ _ _ h => h) (Or.inl ⟨by rfl, ?_⟩) (by assumption) ?_
      rotate_left
      focus (intro wS hSw; (try dsimp only at hSw); go_simp; (try with_reducible rfl))
      try simp only [Act.put, List.getElem_toArray, List.getElem_cons_zero, List.getElem_cons_succ, List.setIfInBounds_toArray, List.set_cons_zero, List.set_cons_succ]
      refine wpAnyH_take (i := 4) (oi := _) (v := _) rfl (by kernel_rfl) (by kernel_rfl) (by kernel_rfl) (fun _ _ _ h => h) (Or.inr ⟨by rfl, rfl⟩) (by assumption) ?_
      try simp only [Act.put, List.getElem_toArray, List.getElem_cons_zero, List.getElem_cons_succ, List.setIfInBounds_toArray, List.set_cons_zero, List.set_cons_succ]
      refine wpAnyH_take (i := 5) (oi := _) (v := _) rfl (by kernel_rfl) (by kernel_rfl) (by kernel_rfl) (fun _ _ _ h => h) (Or.inr ⟨by rfl, rfl⟩) (by assumption) ?_
      try simp only [Act.put, List.getElem_toArray, List.getElem_cons_zero, List.getElem_cons_succ, List.setIfInBounds_toArray, List.set_cons_zero, List.set_cons_succ]
      refine wpAnyH_take (i := 6) (oi := _) (v := _) rfl (by kernel_rfl) (by kernel_rfl) (by kernel_rfl) (fun _ _ _ h => h) (Or.inr ⟨by rfl, rfl⟩) (by assumption) ?_
      try simp only [Act.put, List.getElem_toArray, List.getElem_cons_zero, List.getElem_cons_succ, List.setIfInBounds_toArray, List.set_cons_zero, List.set_cons_succ]
      refine wpAnyH_take (i := 7) (oi := _) (v := _) rfl (by kernel_rfl) (by kernel_rfl) (by kernel_rfl) (fun _ _ _ h => h) (Or.inr ⟨by rfl, rfl⟩) (by assumption) ?_
      try simp only [Act.put, List.getElem_toArray, List.getElem_cons_zero, List.getElem_cons_succ, List.setIfInBounds_toArray, List.set_cons_zero, List.set_cons_succ]
      refine wpAnyH_take (i := 8) (oi := _) (v := _) rfl (by kernel_rfl) (by kernel_rfl) (by kernel_rfl) (fun _ _ _ h => h) (Or.inr ⟨by rfl, rfl⟩) (by assumption) ?_
      try simp only [Act.put, List.getElem_toArray, List.getElem_cons_zero, List.getElem_cons_succ, List.setIfInBounds_toArray, List.set_cons_zero, List.set_cons_succ]
      refine wpAnyH_take (i := 9) (oi := _) (v := ?_) rfl (by kernel_rfl) (by kernel_rfl) (by kernel_rfl) (fun _ _ _ h => h) (Or.inl ⟨by rfl, ?_⟩) (by assumption) ?_
      rotate_left
      focus (intro wS hSw; (try dsimp only at hSw); go_simp; (try with_reducible rfl))
      try simp only [Act.put, List.getElem_toArray, List.getElem_cons_zero, List.getElem_cons_succ, List.setIfInBounds_toArray, List.set_cons_zero, List.set_cons_succ]
      refine wpAnyH_take (i := 10) (oi := _) (v := ?_) rfl (by kernel_rfl) (by kernel_rfl) (by kernel_rfl) (fun _ _ _ h => h) (Or.inl ⟨by rfl, ?_⟩) (by assumption) ?_
      rotate_left
      focus (intro wS hSw; (try dsimp only at hSw); go_simp; (try with_reducible rfl))
      try simp only [Act.put, List.getElem_toArray, List.getElem_cons_zero, List.getElem_cons_succ, List.setIfInBounds_toArray, List.set_cons_zero, List.set_cons_succ]
      refine wpAnyH_take (i := 11) (oi := _) (v := _) rfl (by kernel_rfl) (by kernel_rfl) (by kernel_rfl) (fun _ _ _ h => h) (Or.inr ⟨by rfl, rfl⟩) (by assumption) ?_
      try simp only [Act.put, List.getElem_toArray, List.getElem_cons_zero, List.getElem_cons_succ, List.setIfInBounds_toArray, List.set_cons_zero, List.set_cons_succ]
      refine wpAnyH_take (i := 12) (oi := _) (v := _) rfl (by kernel_rfl) (by kernel_rfl) (by kernel_rfl) (fun _ _ _ h => h) (Or.inr ⟨by rfl, rfl⟩) (by assumption) ?_
      try simp only [Act.put, List.getElem_toArray, List.getElem_cons_zero, List.getElem_cons_succ, List.setIfInBounds_toArray, List.set_cons_zero, List.set_cons_succ]
      refine wpAnyH_take (i := 13) (oi := _) (v := _) rfl (by kernel_rfl) (by kernel_rfl) (by kernel_rfl) (fun _ _ _ h => h) (Or.inr ⟨by rfl, rfl⟩) (by assumption) ?_
      try simp only [Act.put, List.getElem_toArray, List.getElem_cons_zero, List.getElem_cons_succ, List.setIfInBounds_toArray, List.set_cons_zero, List.set_cons_succ]
      refine wpAnyH_take (i := 14) (oi := _) (v := _) rfl (by kernel_rfl) (by kernel_rfl) (by kernel_rfl) (fun _ _ _ h => h) (Or.inr ⟨by rfl, rfl⟩) (by assumption) ?_
      try simp only [Act.put, List.getElem_toArray, List.getElem_cons_zero, List.getElem_cons_succ, List.setIfInBounds_toArray, List.set_cons_zero, List.set_cons_succ]
      refine wpAnyH_take (i := 15) (oi := _) (v := _) rfl (by kernel_rfl) (by kernel_rfl) (by kernel_rfl) (fun _ _ _ h => h) (Or.inr ⟨by rfl, rfl⟩) (by assumption) ?_
      try simp only [Act.put, List.getElem_toArray, List.getElem_cons_zero, List.getElem_cons_succ, List.setIfInBounds_toArray, List.set_cons_zero, List.set_cons_succ]
      refine wpAnyH_take (i := 16) (oi := _) (v := _) rfl (by kernel_rfl) (by kernel_rfl) (by kernel_rfl) (fun _ _ _ h => h) (Or.inr ⟨by rfl, rfl⟩) (by assumption) ?_
      try simp only [Act.put, List.getElem_toArray, List.getElem_cons_zero, List.getElem_cons_succ, List.setIfInBounds_toArray, List.set_cons_zero, List.set_cons_succ]
      refine wpAnyH_take (i := 17) (oi := _) (v := _) rfl (by kernel_rfl) (by kernel_rfl) (by kernel_rfl) (fun _ _ _ h => h) (Or.inr ⟨by rfl, rfl⟩) (by assumption) ?_
      try simp only [Act.put, List.getElem_toArray, List.getElem_cons_zero, List.getElem_cons_succ, List.setIfInBounds_toArray, List.set_cons_zero, List.set_cons_succ]
      refine wpAnyH_take (i := 18) (oi := _) (v := _) rfl (by kernel_rfl) (by kernel_rfl) (by kernel_rfl) (fun _ _ _ h => h) (Or.inr ⟨by rfl, rfl⟩) (by assumption) ?_
      try simp only [Act.put, List.getElem_toArray, List.getElem_cons_zero, List.getElem_cons_succ, List.setIfInBounds_toArray, List.set_cons_zero, List.set_cons_succ]
      refine wpAnyH_take (i := 19) (oi := _) (v := ?_) rfl (by kernel_rfl) (by kernel_rfl) (by kernel_rfl) (fun _ _ _ h => h) (Or.inl ⟨by rfl, ?_⟩) (by assumption) ?_
      rotate_left
      focus (intro wS hSw; (try dsimp only at hSw); go_simp; (try with_reducible rfl))
      try simp only [Act.put, List.getElem_toArray, List.getElem_cons_zero, List.getElem_cons_succ, List.setIfInBounds_toArray, List.set_cons_zero, List.set_cons_succ]
      refine wpAnyH_take (i := 20) (oi := _) (v := ?_) rfl (by kernel_rfl) (by kernel_rfl) (by kernel_rfl) (fun _ _ _ h => h) (Or.inl ⟨by rfl, ?_⟩) (by assumption) ?_
      rotate_left
      focus (intro wS hSw; (try dsimp only at hSw); go_simp; (try with_reducible rfl))
      try simp only [Act.put, List.getElem_toArray, List.getElem_cons_zero, List.getElem_cons_succ, List.setIfInBounds_toArray, List.set_cons_zero, List.set_cons_succ]
      refine wpAnyH_take (i := 21) (oi := _) (v := _) rfl (by kernel_rfl) (by kernel_rfl) (by kernel_rfl) (fun _ _ _ h => h) (Or.inr ⟨by rfl, rfl⟩) (by assumption) ?_
      try simp only [Act.put, List.getElem_toArray, List.getElem_cons_zero, List.getElem_cons_succ, List.setIfInBounds_toArray, List.set_cons_zero, List.set_cons_succ]
      refine wpAnyH_take (i := 22) (oi := _) (v := _) rfl (by kernel_rfl) (by kernel_rfl) (by kernel_rfl) (fun _ _ _ h => h) (Or.inr ⟨by rfl, rfl⟩) (by assumption) ?_
      try simp only [Act.put, List.getElem_toArray, List.getElem_cons_zero, List.getElem_cons_succ, List.setIfInBounds_toArray, List.set_cons_zero, List.set_cons_succ]
      refine wpAnyH_take (i := 23) (oi := _) (v := _) rfl (by kernel_rfl) (by kernel_rfl) (by kernel_rfl) (fun _ _ _ h => h) (Or.inr ⟨by rfl, rfl⟩) (by assumption) ?_
      try simp only [Act.put, List.getElem_toArray, List.getElem_cons_zero, List.getElem_cons_succ, List.setIfInBounds_toArray, List.set_cons_zero, List.set_cons_succ]
      refine wpAnyH_take (i := 24) (oi := _) (v := _) rfl (by kernel_rfl) (by kernel_rfl) (by kernel_rfl) (fun _ _ _ h => h) (Or.inr ⟨by rfl, rfl⟩) (by assumption) ?_
      try simp only [Act.put, List.getElem_toArray, List.getElem_cons_zero, List.getElem_cons_succ, List.setIfInBounds_toArray, List.set_cons_zero, List.set_cons_succ]
      refine wpAnyH_take (i := 25) (oi := _) (v := _) rfl (by kernel_rfl) (by kernel_rfl) (by kernel_rfl) (fun _ _ _ h => h) (Or.inr ⟨by rfl, rfl⟩) (by assumption) ?_
      try simp only [Act.put, List.getElem_toArray, List.getElem_cons_zero, List.getElem_cons_succ, List.setIfInBounds_toArray, List.set_cons_zero, List.set_cons_succ]
      refine wpAnyH_take (i := 26) (oi := _) (v := _) rfl (by kernel_rfl) (by kernel_rfl) (by kernel_rfl) (fun _ _ _ h => h) (Or.inr ⟨by rfl, rfl⟩) (by assumption) ?_
      try simp only [Act.put, List.getElem_toArray, List.getElem_cons_zero, List.getElem_cons_succ, List.setIfInBounds_toArray, List.set_cons_zero, List.set_cons_succ]
      refine wpAnyH_take (i := 27) (oi := _) (v := _) rfl (by kernel_rfl) (by kernel_rfl) (by kernel_rfl) (fun _ _ _ h => h) (Or.inr ⟨by rfl, rfl⟩) (by assumption) ?_
      try simp only [Act.put, List.getElem_toArray, List.getElem_cons_zero, List.getElem_cons_succ, List.setIfInBounds_toArray, List.set_cons_zero, List.set_cons_succ]
      refine wpAnyH_take (i := 28) (oi := _) (v := _) rfl (by kernel_rfl) (by kernel_rfl) (by kernel_rfl) (fun _ _ _ h => h) (Or.inr ⟨by rfl, rfl⟩) (by assumption) ?_
      try simp only [Act.put, List.getElem_toArray, List.getElem_cons_zero, List.getElem_cons_succ, List.setIfInBounds_toArray, List.set_cons_zero, List.set_cons_succ]
      refine wpAnyH_take (i := 29) (oi := _) (v := ?_) rfl (by kernel_rfl) (by kernel_rfl) (by kernel_rfl) (fun _ _ _ h => h) (Or.inl ⟨by rfl, ?_⟩) (by assumption) ?_
      rotate_left
      focus (intro wS hSw; (try dsimp only at hSw); go_simp; (try with_reducible rfl))
      try simp only [Act.put, List.getElem_toArray, List.getElem_cons_zero, List.getElem_cons_succ, List.setIfInBounds_toArray, List.set_cons_zero, List.set_cons_succ]
      refine wpAnyH_done (by kernel_rfl) ?_ _
      try clear hHeld
      have z13 := H12.out.cell 0 rfl 0 rfl
      have z14 := H12.out.free 0 rfl 0
      have z15 := H12.out.cell 0 rfl 1 rfl
      have z16 := H12.out.free 0 rfl 1
      have z17 := H12.out.cell 0 rfl 2 rfl
      have z18 := H12.out.free 0 rfl 2
      have z19 := H12.out.cell 0 rfl 3 rfl
      have z20 := H12.out.free 0 rfl 3
      go_wp2_with fail
      clear z13 z14 z15 z16 z17 z18 z19 z20
      have H21 := hid (show St B W [.cells (B + 1 + 1) #[.int .i64 0, .int .i64 0, .int .i64 0, .slice none 0 0] 26, .cells (B + 1) #[.int .i64 r0, .int .i64 r1, .int .i64 r2, .int .i64 r3] 39, .cells B #[.int .i64 w, .int .i64 h, .int .i64 mx, .slice a n c] 26] [] ((((w11.setCell ⟨B + 1 + 1, 0, none⟩ (.int .i64 0)).setCell ⟨B + 1 + 1, 1, none⟩ (.int .i64 0)).setCell ⟨B + 1 + 1, 2, none⟩ (.int .i64 0)).setCell ⟨B + 1 + 1, 3, none⟩ (.slice none 0 0)) from (H12.out.set4 0 rfl (.int .i64 0) (.int .i64 0) (.int .i64 0) (.slice none 0 0)))
      have q22 := H21.out.cell 0 rfl 0 rfl
      have q23 := H21.out.cell 0 rfl 1 rfl
      have q24 := H21.out.cell 0 rfl 2 rfl
      have q25 := H21.out.cell 0 rfl 3 rfl
      refine bodyPost_ret (v := .tuple #[.agg #[.int .i64 0, .int .i64 0, .int .i64 0, .slice none 0 0], .int .i64 8]) ?_ rfl (tile_no (by unfold tCode; rw [if_neg HNV.out, if_neg HNI0.out, if_pos HX.out]) (by omega) (by first | exact H21.out.below | exact H21.out.below'))
      simp [results, Try.results45, go_sem, q22, q23, q24, q25]
    | true =>
      have HFU := hid hfu
      cases hin : rInside r0 r1 r2 r3 0 0 w h with
      | false =>
        have HIN := hid hin
        have HX := hid (fullInside' (r0 := r0) (r1 := r1) (r2 := r2) (r3 := r3) (.inr hin))
        clear hfu hin
        have H26 := hid H8.out.drew
        refine wp_region_held_drew (S := (fun w' => w'.cell? ⟨B + 1, 0, none⟩ = some (.int .i64 r0) ∧ w'.cell? ⟨B + 1, 1, none⟩ = some (.int .i64 r1) ∧ w'.cell? ⟨B + 1, 2, none⟩ = some (.int .i64 r2) ∧ w'.cell? ⟨B + 1, 3, none⟩ = some (.int .i64 r3) ∧ w'.cell? ⟨B, 0, none⟩ = some (.int .i64 w) ∧ w'.cell? ⟨B, 1, none⟩ = some (.int .i64 h) ∧ w'.cell? ⟨B, 2, none⟩ = some (.int .i64 mx) ∧ w'.cell? ⟨B, 3, none⟩ = some (.slice a n c))) (by kernel_rfl) ⟨H26.out.cell 1 rfl 0 rfl, H26.out.cell 1 rfl 1 rfl, H26.out.cell 1 rfl 2 rfl, H26.out.cell 1 rfl 3 rfl, H26.out.cell 2 rfl 0 rfl, H26.out.cell 2 rfl 1 rfl, H26.out.cell 2 rfl 2 rfl, H26.out.cell 2 rfl 3 rfl⟩ (fun hHeld => ?_)
        generalize w7.drew = k27 at *
        refine wpAnyH_take (i := 0) (oi := _) (v := ?_) rfl (by kernel_rfl) (by kernel_rfl) (by kernel_rfl) (fun _ _ _ h => h) (Or.inl ⟨by rfl, ?_⟩) (by assumption) ?_
        rotate_left
        focus (intro wS hSw; (try dsimp only at hSw); go_simp; (try with_reducible rfl))
        try simp only [Act.put, List.getElem_toArray, List.getElem_cons_zero, List.getElem_cons_succ, List.setIfInBounds_toArray, List.set_cons_zero, List.set_cons_succ]
        refine wpAnyH_ready (rs := [1]) (by kernel_rfl) (by simp) (AllReadyH.cons (o := _) rfl (fun K hK => ?_) AllReadyH.nil)
        go_simp
        go_at_call 68
        refine (qfull_any _ _ _ _ _).mono ?_
        rintro e w28 ⟨rfl, hb⟩
        have H29 := hid (H26.out.call hb)
        clear hb
        rw [HFU.out]
        refine hK.out _ _ ?_ (fun hHeld2 => ?_)
        focus ((try dsimp only); (exact ⟨H29.out.cell 1 rfl 0 rfl, H29.out.cell 1 rfl 1 rfl, H29.out.cell 1 rfl 2 rfl, H29.out.cell 1 rfl 3 rfl, H29.out.cell 2 rfl 0 rfl, H29.out.cell 2 rfl 1 rfl, H29.out.cell 2 rfl 2 rfl, H29.out.cell 2 rfl 3 rfl⟩))
        clear hK K
        try simp only [Act.put, List.getElem_toArray, List.getElem_cons_zero, List.getElem_cons_succ, List.setIfInBounds_toArray, List.set_cons_zero, List.set_cons_succ]
        clear hHeld
        have hHeld := hHeld2
        clear hHeld2
        refine wpAnyH_take (i := 2) (oi := _) (v := ?_) rfl (by kernel_rfl) (by kernel_rfl) (by kernel_rfl) (fun _ _ _ h => h) (Or.inl ⟨by rfl, ?_⟩) (by assumption) ?_
        rotate_left
        focus (intro wS hSw; (try dsimp only at hSw); go_simp; (try with_reducible rfl))
        try simp only [Act.put, List.getElem_toArray, List.getElem_cons_zero, List.getElem_cons_succ, List.setIfInBounds_toArray, List.set_cons_zero, List.set_cons_succ]
        refine wpAnyH_take (i := 3) (oi := _) (v := ?_) rfl (by kernel_rfl) (by kernel_rfl) (by kernel_rfl) (fun _ _ _ h => h) (Or.inl ⟨by rfl, ?_⟩) (by assumption) ?_
        rotate_left
        focus (intro wS hSw; (try dsimp only at hSw); go_simp; (try with_reducible rfl))
        try simp only [Act.put, List.getElem_toArray, List.getElem_cons_zero, List.getElem_cons_succ, List.setIfInBounds_toArray, List.set_cons_zero, List.set_cons_succ]
        refine wpAnyH_take (i := 4) (oi := _) (v := ?_) rfl (by kernel_rfl) (by kernel_rfl) (by kernel_rfl) (fun _ _ _ h => h) (Or.inl ⟨by rfl, ?_⟩) (by assumption) ?_
        rotate_left
        focus (intro wS hSw; (try dsimp only at hSw); go_simp; (try with_reducible rfl))
        try simp only [Act.put, List.getElem_toArray, List.getElem_cons_zero, List.getElem_cons_succ, List.setIfInBounds_toArray, List.set_cons_zero, List.set_cons_succ]
        refine wpAnyH_take (i := 5) (oi := _) (v := ?_) rfl (by kernel_rfl) (by kernel_rfl) (by kernel_rfl) (fun _ _ _ h => h) (Or.inl ⟨by rfl, ?_⟩) (by assumption) ?_
        rotate_left
        focus (intro wS hSw; (try dsimp only at hSw); go_simp; (try with_reducible rfl))
        try simp only [Act.put, List.getElem_toArray, List.getElem_cons_zero, List.getElem_cons_succ, List.setIfInBounds_toArray, List.set_cons_zero, List.set_cons_succ]
        refine wpAnyH_ready (rs := [6]) (by kernel_rfl) (by simp) (AllReadyH.cons (o := _) rfl (fun K hK => ?_) AllReadyH.nil)
        go_simp
        go_at_call 70
        refine (qcover_any _ _ _ _ _ _ _).mono ?_
        rintro e w30 ⟨rfl, hb⟩
        have H31 := hid (H29.out.call hb)
        clear hb
        refine hK.out _ _ ?_ (fun hHeld2 => ?_)
        focus ((try dsimp only); (exact ⟨H31.out.cell 1 rfl 0 rfl, H31.out.cell 1 rfl 1 rfl, H31.out.cell 1 rfl 2 rfl, H31.out.cell 1 rfl 3 rfl, H31.out.cell 2 rfl 0 rfl, H31.out.cell 2 rfl 1 rfl, H31.out.cell 2 rfl 2 rfl, H31.out.cell 2 rfl 3 rfl⟩))
        clear hK K
        try simp only [Act.put, List.getElem_toArray, List.getElem_cons_zero, List.getElem_cons_succ, List.setIfInBounds_toArray, List.set_cons_zero, List.set_cons_succ]
        clear hHeld
        have hHeld := hHeld2
        clear hHeld2
        refine wpAnyH_ready (rs := [7]) (by kernel_rfl) (by simp) (AllReadyH.cons (o := _) rfl (fun K hK => ?_) AllReadyH.nil)
        go_simp
        go_at_call 69
        refine (qinside_any _ _ _ _ _ _ _ _ _).mono ?_
        rintro e w32 ⟨rfl, hb⟩
        have H33 := hid (H31.out.call hb)
        clear hb
        rw [HIN.out]
        refine hK.out _ _ ?_ (fun hHeld2 => ?_)
        focus ((try dsimp only); (exact ⟨H33.out.cell 1 rfl 0 rfl, H33.out.cell 1 rfl 1 rfl, H33.out.cell 1 rfl 2 rfl, H33.out.cell 1 rfl 3 rfl, H33.out.cell 2 rfl 0 rfl, H33.out.cell 2 rfl 1 rfl, H33.out.cell 2 rfl 2 rfl, H33.out.cell 2 rfl 3 rfl⟩))
        clear hK K
        try simp only [Act.put, List.getElem_toArray, List.getElem_cons_zero, List.getElem_cons_succ, List.setIfInBounds_toArray, List.set_cons_zero, List.set_cons_succ]
        clear hHeld
        have hHeld := hHeld2
        clear hHeld2
        refine wpAnyH_take (i := 8) (oi := _) (v := ?_) rfl (by kernel_rfl) (by kernel_rfl) (by kernel_rfl) (fun _ _ _ h => h) (Or.inl ⟨by rfl, ?_⟩) (by assumption) ?_
        rotate_left
        focus (intro wS hSw; (try dsimp only at hSw); go_simp; (try with_reducible rfl))
        try simp only [Act.put, List.getElem_toArray, List.getElem_cons_zero, List.getElem_cons_succ, List.setIfInBounds_toArray, List.set_cons_zero, List.set_cons_succ]
        refine wpAnyH_take (i := 9) (oi := _) (v := ?_) rfl (by kernel_rfl) (by kernel_rfl) (by kernel_rfl) (fun _ _ _ h => h) (Or.inl ⟨by rfl, ?_⟩) (by assumption) ?_
        rotate_left
        focus (intro wS hSw; (try dsimp only at hSw); go_simp; (try with_reducible rfl))
        try simp only [Act.put, List.getElem_toArray, List.getElem_cons_zero, List.getElem_cons_succ, List.setIfInBounds_toArray, List.set_cons_zero, List.set_cons_succ]
        refine wpAnyH_take (i := 10) (oi := _) (v := ?_) rfl (by kernel_rfl) (by kernel_rfl) (by kernel_rfl) (fun _ _ _ h => h) (Or.inl ⟨by rfl, ?_⟩) (by assumption) ?_
        rotate_left
        focus (intro wS hSw; (try dsimp only at hSw); go_simp; (try with_reducible rfl))
        try simp only [Act.put, List.getElem_toArray, List.getElem_cons_zero, List.getElem_cons_succ, List.setIfInBounds_toArray, List.set_cons_zero, List.set_cons_succ]
        refine wpAnyH_take (i := 11) (oi := _) (v := _) rfl (by kernel_rfl) (by kernel_rfl) (by kernel_rfl) (fun _ _ _ h => h) (Or.inr ⟨by rfl, rfl⟩) (by assumption) ?_
        try simp only [Act.put, List.getElem_toArray, List.getElem_cons_zero, List.getElem_cons_succ, List.setIfInBounds_toArray, List.set_cons_zero, List.set_cons_succ]
        refine wpAnyH_take (i := 12) (oi := _) (v := _) rfl (by kernel_rfl) (by kernel_rfl) (by kernel_rfl) (fun _ _ _ h => h) (Or.inr ⟨by rfl, rfl⟩) (by assumption) ?_
        try simp only [Act.put, List.getElem_toArray, List.getElem_cons_zero, List.getElem_cons_succ, List.setIfInBounds_toArray, List.set_cons_zero, List.set_cons_succ]
        refine wpAnyH_take (i := 13) (oi := _) (v := _) rfl (by kernel_rfl) (by kernel_rfl) (by kernel_rfl) (fun _ _ _ h => h) (Or.inr ⟨by rfl, rfl⟩) (by assumption) ?_
        try simp only [Act.put, List.getElem_toArray, List.getElem_cons_zero, List.getElem_cons_succ, List.setIfInBounds_toArray, List.set_cons_zero, List.set_cons_succ]
        refine wpAnyH_take (i := 14) (oi := _) (v := _) rfl (by kernel_rfl) (by kernel_rfl) (by kernel_rfl) (fun _ _ _ h => h) (Or.inr ⟨by rfl, rfl⟩) (by assumption) ?_
        try simp only [Act.put, List.getElem_toArray, List.getElem_cons_zero, List.getElem_cons_succ, List.setIfInBounds_toArray, List.set_cons_zero, List.set_cons_succ]
        refine wpAnyH_take (i := 15) (oi := _) (v := _) rfl (by kernel_rfl) (by kernel_rfl) (by kernel_rfl) (fun _ _ _ h => h) (Or.inr ⟨by rfl, rfl⟩) (by assumption) ?_
        try simp only [Act.put, List.getElem_toArray, List.getElem_cons_zero, List.getElem_cons_succ, List.setIfInBounds_toArray, List.set_cons_zero, List.set_cons_succ]
        refine wpAnyH_take (i := 16) (oi := _) (v := _) rfl (by kernel_rfl) (by kernel_rfl) (by kernel_rfl) (fun _ _ _ h => h) (Or.inr ⟨by rfl, rfl⟩) (by assumption) ?_
        try simp only [Act.put, List.getElem_toArray, List.getElem_cons_zero, List.getElem_cons_succ, List.setIfInBounds_toArray, List.set_cons_zero, List.set_cons_succ]
        refine wpAnyH_take (i := 17) (oi := _) (v := _) rfl (by kernel_rfl) (by kernel_rfl) (by kernel_rfl) (fun _ _ _ h => h) (Or.inr ⟨by rfl, rfl⟩) (by assumption) ?_
        try simp only [Act.put, List.getElem_toArray, List.getElem_cons_zero, List.getElem_cons_succ, List.setIfInBounds_toArray, List.set_cons_zero, List.set_cons_succ]
        refine wpAnyH_take (i := 18) (oi := _) (v := _) rfl (by kernel_rfl) (by kernel_rfl) (by kernel_rfl) (fun _ _ _ h => h) (Or.inr ⟨by rfl, rfl⟩) (by assumption) ?_
        try simp only [Act.put, List.getElem_toArray, List.getElem_cons_zero, List.getElem_cons_succ, List.setIfInBounds_toArray, List.set_cons_zero, List.set_cons_succ]
        refine wpAnyH_take (i := 19) (oi := _) (v := ?_) rfl (by kernel_rfl) (by kernel_rfl) (by kernel_rfl) (fun _ _ _ h => h) (Or.inl ⟨by rfl, ?_⟩) (by assumption) ?_
        rotate_left
        focus (intro wS hSw; (try dsimp only at hSw); go_simp; (try with_reducible rfl))
        try simp only [Act.put, List.getElem_toArray, List.getElem_cons_zero, List.getElem_cons_succ, List.setIfInBounds_toArray, List.set_cons_zero, List.set_cons_succ]
        refine wpAnyH_take (i := 20) (oi := _) (v := ?_) rfl (by kernel_rfl) (by kernel_rfl) (by kernel_rfl) (fun _ _ _ h => h) (Or.inl ⟨by rfl, ?_⟩) (by assumption) ?_
        rotate_left
        focus (intro wS hSw; (try dsimp only at hSw); go_simp; (try with_reducible rfl))
        try simp only [Act.put, List.getElem_toArray, List.getElem_cons_zero, List.getElem_cons_succ, List.setIfInBounds_toArray, List.set_cons_zero, List.set_cons_succ]
        refine wpAnyH_take (i := 21) (oi := _) (v := _) rfl (by kernel_rfl) (by kernel_rfl) (by kernel_rfl) (fun _ _ _ h => h) (Or.inr ⟨by rfl, rfl⟩) (by assumption) ?_
        try simp only [Act.put, List.getElem_toArray, List.getElem_cons_zero, List.getElem_cons_succ, List.setIfInBounds_toArray, List.set_cons_zero, List.set_cons_succ]
        refine wpAnyH_take (i := 22) (oi := _) (v := _) rfl (by kernel_rfl) (by kernel_rfl) (by kernel_rfl) (fun _ _ _ h => h) (Or.inr ⟨by rfl, rfl⟩) (by assumption) ?_
        try simp only [Act.put, List.getElem_toArray, List.getElem_cons_zero, List.getElem_cons_succ, List.setIfInBounds_toArray, List.set_cons_zero, List.set_cons_succ]
        refine wpAnyH_take (i := 23) (oi := _) (v := _) rfl (by kernel_rfl) (by kernel_rfl) (by kernel_rfl) (fun _ _ _ h => h) (Or.inr ⟨by rfl, rfl⟩) (by assumption) ?_
        try simp only [Act.put, List.getElem_toArray, List.getElem_cons_zero, List.getElem_cons_succ, List.setIfInBounds_toArray, List.set_cons_zero, List.set_cons_succ]
        refine wpAnyH_take (i := 24) (oi := _) (v := _) rfl (by kernel_rfl) (by kernel_rfl) (by kernel_rfl) (fun _ _ _ h => h) (Or.inr ⟨by rfl, rfl⟩) (by assumption) ?_
        try simp only [Act.put, List.getElem_toArray, List.getElem_cons_zero, List.getElem_cons_succ, List.setIfInBounds_toArray, List.set_cons_zero, List.set_cons_succ]
        refine wpAnyH_take (i := 25) (oi := _) (v := _) rfl (by kernel_rfl) (by kernel_rfl) (by kernel_rfl) (fun _ _ _ h => h) (Or.inr ⟨by rfl, rfl⟩) (by assumption) ?_
        try simp only [Act.put, List.getElem_toArray, List.getElem_cons_zero, List.getElem_cons_succ, List.setIfInBounds_toArray, List.set_cons_zero, List.set_cons_succ]
        refine wpAnyH_take (i := 26) (oi := _) (v := _) rfl (by kernel_rfl) (by kernel_rfl) (by kernel_rfl) (fun _ _ _ h => h) (Or.inr ⟨by rfl, rfl⟩) (by assumption) ?_
        try simp only [Act.put, List.getElem_toArray, List.getElem_cons_zero, List.getElem_cons_succ, List.setIfInBounds_toArray, List.set_cons_zero, List.set_cons_succ]
        refine wpAnyH_take (i := 27) (oi := _) (v := _) rfl (by kernel_rfl) (by kernel_rfl) (by kernel_rfl) (fun _ _ _ h => h) (Or.inr ⟨by rfl, rfl⟩) (by assumption) ?_
        try simp only [Act.put, List.getElem_toArray, List.getElem_cons_zero, List.getElem_cons_succ, List.setIfInBounds_toArray, List.set_cons_zero, List.set_cons_succ]
        refine wpAnyH_take (i := 28) (oi := _) (v := _) rfl (by kernel_rfl) (by kernel_rfl) (by kernel_rfl) (fun _ _ _ h => h) (Or.inr ⟨by rfl, rfl⟩) (by assumption) ?_
        try simp only [Act.put, List.getElem_toArray, List.getElem_cons_zero, List.getElem_cons_succ, List.setIfInBounds_toArray, List.set_cons_zero, List.set_cons_succ]
        refine wpAnyH_take (i := 29) (oi := _) (v := ?_) rfl (by kernel_rfl) (by kernel_rfl) (by kernel_rfl) (fun _ _ _ h => h) (Or.inl ⟨by rfl, ?_⟩) (by assumption) ?_
        rotate_left
        focus (intro wS hSw; (try dsimp only at hSw); go_simp; (try with_reducible rfl))
        try simp only [Act.put, List.getElem_toArray, List.getElem_cons_zero, List.getElem_cons_succ, List.setIfInBounds_toArray, List.set_cons_zero, List.set_cons_succ]
        refine wpAnyH_done (by kernel_rfl) ?_ _
        try clear hHeld
        have z34 := H33.out.cell 0 rfl 0 rfl
        have z35 := H33.out.free 0 rfl 0
        have z36 := H33.out.cell 0 rfl 1 rfl
        have z37 := H33.out.free 0 rfl 1
        have z38 := H33.out.cell 0 rfl 2 rfl
        have z39 := H33.out.free 0 rfl 2
        have z40 := H33.out.cell 0 rfl 3 rfl
        have z41 := H33.out.free 0 rfl 3
        go_wp2_with fail
        clear z34 z35 z36 z37 z38 z39 z40 z41
        have H42 := hid (show St B W [.cells (B + 1 + 1) #[.int .i64 0, .int .i64 0, .int .i64 0, .slice none 0 0] 26, .cells (B + 1) #[.int .i64 r0, .int .i64 r1, .int .i64 r2, .int .i64 r3] 39, .cells B #[.int .i64 w, .int .i64 h, .int .i64 mx, .slice a n c] 26] [] ((((w32.setCell ⟨B + 1 + 1, 0, none⟩ (.int .i64 0)).setCell ⟨B + 1 + 1, 1, none⟩ (.int .i64 0)).setCell ⟨B + 1 + 1, 2, none⟩ (.int .i64 0)).setCell ⟨B + 1 + 1, 3, none⟩ (.slice none 0 0)) from (H33.out.set4 0 rfl (.int .i64 0) (.int .i64 0) (.int .i64 0) (.slice none 0 0)))
        have q43 := H42.out.cell 0 rfl 0 rfl
        have q44 := H42.out.cell 0 rfl 1 rfl
        have q45 := H42.out.cell 0 rfl 2 rfl
        have q46 := H42.out.cell 0 rfl 3 rfl
        refine bodyPost_ret (v := .tuple #[.agg #[.int .i64 0, .int .i64 0, .int .i64 0, .slice none 0 0], .int .i64 8]) ?_ rfl (tile_no (by unfold tCode; rw [if_neg HNV.out, if_neg HNI0.out, if_pos HX.out]) (by omega) (by first | exact H42.out.below | exact H42.out.below'))
        simp [results, Try.results45, go_sem, q43, q44, q45, q46]
      | true =>
        have HIN := hid hin
        have hE : (!rEmpty r0 r1 r2 r3 && rInside r0 r1 r2 r3 0 0 w h) = true := by rw [← fullInside, hfu, hin]; rfl
        have HNE := hid (show ¬ (!rEmpty r0 r1 r2 r3 && rInside r0 r1 r2 r3 0 0 w h) = false by rw [hE]; simp)
        have hin2 := (inside_iff (by have := HP.out; omega) (by have := HP.out; omega) (by have := HP.out; omega) (by have := HP.out; omega)).1 hE
        clear hin hE hfu
        obtain ⟨i1, i2, i3, i4, i5, i6⟩ := hin2
        have i7 : r2 ≤ 128 := by have := HP.out; omega
        have i8 : r3 ≤ 128 := by have := HP.out; omega
        have ml : (nl : Int) ≤ 9223372036854775807 := by have := HL.out.nc; have := HL.out.cap; omega
        have mt : (nt : Int) ≤ 9223372036854775807 := by have := HT.out.nc; have := HT.out.cap; omega
        have q1 : IntKind.i64.wrap (r3 - r1) = r3 - r1 := IntWalk.i64_in _ (by omega)
        have q2 : IntKind.i64.wrap (r2 - r0) = r2 - r0 := IntWalk.i64_in _ (by omega)
        by_cases hl1 : (nl : Int) = r3 - r1
        · skip
          have hl2 : ((nl : Int) != r3 - r1) = false := by simpa using hl1
          have hl3 : ((nl : Int) == r3 - r1) = true := by simpa using hl1
          by_cases ht1 : (nt : Int) = r2 - r0
          · skip
            have ht2 : ((nt : Int) != r2 - r0) = false := by simpa using ht1
            have ht3 : ((nt : Int) == r2 - r0) = true := by simpa using ht1
            have HX := hid (show ¬ ¬ ((left.length : Int) = r3 - r1 ∧ (top.length : Int) = r2 - r0) by rw [HLL.out, HTL.out]; exact fun e => e ⟨hl1, ht1⟩)
            obtain ⟨nl1, nl2, nl3, nl4⟩ : (nl : Int) ≤ r3 - r1 ∧ r3 - r1 ≤ nl ∧ 1 ≤ nl ∧ nl ≤ 128 := by omega
            obtain ⟨nt1, nt2, nt3, nt4⟩ : (nt : Int) ≤ r2 - r0 ∧ r2 - r0 ≤ nt ∧ 1 ≤ nt ∧ nt ≤ 128 := by omega
            clear hl1 ht1
            have H47 := hid H8.out.drew
            refine wp_region_held_drew (S := (fun w' => w'.cell? ⟨B + 1, 0, none⟩ = some (.int .i64 r0) ∧ w'.cell? ⟨B + 1, 1, none⟩ = some (.int .i64 r1) ∧ w'.cell? ⟨B + 1, 2, none⟩ = some (.int .i64 r2) ∧ w'.cell? ⟨B + 1, 3, none⟩ = some (.int .i64 r3) ∧ w'.cell? ⟨B, 0, none⟩ = some (.int .i64 w) ∧ w'.cell? ⟨B, 1, none⟩ = some (.int .i64 h) ∧ w'.cell? ⟨B, 2, none⟩ = some (.int .i64 mx) ∧ w'.cell? ⟨B, 3, none⟩ = some (.slice a n c))) (by kernel_rfl) ⟨H47.out.cell 1 rfl 0 rfl, H47.out.cell 1 rfl 1 rfl, H47.out.cell 1 rfl 2 rfl, H47.out.cell 1 rfl 3 rfl, H47.out.cell 2 rfl 0 rfl, H47.out.cell 2 rfl 1 rfl, H47.out.cell 2 rfl 2 rfl, H47.out.cell 2 rfl 3 rfl⟩ (fun hHeld => ?_)
            generalize w7.drew = k48 at *
            refine wpAnyH_take (i := 0) (oi := _) (v := ?_) rfl (by kernel_rfl) (by kernel_rfl) (by kernel_rfl) (fun _ _ _ h => h) (Or.inl ⟨by rfl, ?_⟩) (by assumption) ?_
            rotate_left
            focus (intro wS hSw; (try dsimp only at hSw); go_simp; (try with_reducible rfl))
            try simp only [Act.put, List.getElem_toArray, List.getElem_cons_zero, List.getElem_cons_succ, List.setIfInBounds_toArray, List.set_cons_zero, List.set_cons_succ]
            refine wpAnyH_ready (rs := [1]) (by kernel_rfl) (by simp) (AllReadyH.cons (o := _) rfl (fun K hK => ?_) AllReadyH.nil)
            go_simp
            go_at_call 68
            refine (qfull_any _ _ _ _ _).mono ?_
            rintro e w49 ⟨rfl, hb⟩
            have H50 := hid (H47.out.call hb)
            clear hb
            rw [HFU.out]
            refine hK.out _ _ ?_ (fun hHeld2 => ?_)
            focus ((try dsimp only); (exact ⟨H50.out.cell 1 rfl 0 rfl, H50.out.cell 1 rfl 1 rfl, H50.out.cell 1 rfl 2 rfl, H50.out.cell 1 rfl 3 rfl, H50.out.cell 2 rfl 0 rfl, H50.out.cell 2 rfl 1 rfl, H50.out.cell 2 rfl 2 rfl, H50.out.cell 2 rfl 3 rfl⟩))
            clear hK K
            try simp only [Act.put, List.getElem_toArray, List.getElem_cons_zero, List.getElem_cons_succ, List.setIfInBounds_toArray, List.set_cons_zero, List.set_cons_succ]
            clear hHeld
            have hHeld := hHeld2
            clear hHeld2
            refine wpAnyH_take (i := 2) (oi := _) (v := ?_) rfl (by kernel_rfl) (by kernel_rfl) (by kernel_rfl) (fun _ _ _ h => h) (Or.inl ⟨by rfl, ?_⟩) (by assumption) ?_
            rotate_left
            focus (intro wS hSw; (try dsimp only at hSw); go_simp; (try with_reducible rfl))
            try simp only [Act.put, List.getElem_toArray, List.getElem_cons_zero, List.getElem_cons_succ, List.setIfInBounds_toArray, List.set_cons_zero, List.set_cons_succ]
            refine wpAnyH_take (i := 3) (oi := _) (v := ?_) rfl (by kernel_rfl) (by kernel_rfl) (by kernel_rfl) (fun _ _ _ h => h) (Or.inl ⟨by rfl, ?_⟩) (by assumption) ?_
            rotate_left
            focus (intro wS hSw; (try dsimp only at hSw); go_simp; (try with_reducible rfl))
            try simp only [Act.put, List.getElem_toArray, List.getElem_cons_zero, List.getElem_cons_succ, List.setIfInBounds_toArray, List.set_cons_zero, List.set_cons_succ]
            refine wpAnyH_take (i := 4) (oi := _) (v := ?_) rfl (by kernel_rfl) (by kernel_rfl) (by kernel_rfl) (fun _ _ _ h => h) (Or.inl ⟨by rfl, ?_⟩) (by assumption) ?_
            rotate_left
            focus (intro wS hSw; (try dsimp only at hSw); go_simp; (try with_reducible rfl))
            try simp only [Act.put, List.getElem_toArray, List.getElem_cons_zero, List.getElem_cons_succ, List.setIfInBounds_toArray, List.set_cons_zero, List.set_cons_succ]
            refine wpAnyH_take (i := 5) (oi := _) (v := ?_) rfl (by kernel_rfl) (by kernel_rfl) (by kernel_rfl) (fun _ _ _ h => h) (Or.inl ⟨by rfl, ?_⟩) (by assumption) ?_
            rotate_left
            focus (intro wS hSw; (try dsimp only at hSw); go_simp; (try with_reducible rfl))
            try simp only [Act.put, List.getElem_toArray, List.getElem_cons_zero, List.getElem_cons_succ, List.setIfInBounds_toArray, List.set_cons_zero, List.set_cons_succ]
            refine wpAnyH_ready (rs := [6]) (by kernel_rfl) (by simp) (AllReadyH.cons (o := _) rfl (fun K hK => ?_) AllReadyH.nil)
            go_simp
            go_at_call 70
            refine (qcover_any _ _ _ _ _ _ _).mono ?_
            rintro e w51 ⟨rfl, hb⟩
            have H52 := hid (H50.out.call hb)
            clear hb
            refine hK.out _ _ ?_ (fun hHeld2 => ?_)
            focus ((try dsimp only); (exact ⟨H52.out.cell 1 rfl 0 rfl, H52.out.cell 1 rfl 1 rfl, H52.out.cell 1 rfl 2 rfl, H52.out.cell 1 rfl 3 rfl, H52.out.cell 2 rfl 0 rfl, H52.out.cell 2 rfl 1 rfl, H52.out.cell 2 rfl 2 rfl, H52.out.cell 2 rfl 3 rfl⟩))
            clear hK K
            try simp only [Act.put, List.getElem_toArray, List.getElem_cons_zero, List.getElem_cons_succ, List.setIfInBounds_toArray, List.set_cons_zero, List.set_cons_succ]
            clear hHeld
            have hHeld := hHeld2
            clear hHeld2
            refine wpAnyH_ready (rs := [7]) (by kernel_rfl) (by simp) (AllReadyH.cons (o := _) rfl (fun K hK => ?_) AllReadyH.nil)
            go_simp
            go_at_call 69
            refine (qinside_any _ _ _ _ _ _ _ _ _).mono ?_
            rintro e w53 ⟨rfl, hb⟩
            have H54 := hid (H52.out.call hb)
            clear hb
            rw [HIN.out]
            refine hK.out _ _ ?_ (fun hHeld2 => ?_)
            focus ((try dsimp only); (exact ⟨H54.out.cell 1 rfl 0 rfl, H54.out.cell 1 rfl 1 rfl, H54.out.cell 1 rfl 2 rfl, H54.out.cell 1 rfl 3 rfl, H54.out.cell 2 rfl 0 rfl, H54.out.cell 2 rfl 1 rfl, H54.out.cell 2 rfl 2 rfl, H54.out.cell 2 rfl 3 rfl⟩))
            clear hK K
            try simp only [Act.put, List.getElem_toArray, List.getElem_cons_zero, List.getElem_cons_succ, List.setIfInBounds_toArray, List.set_cons_zero, List.set_cons_succ]
            clear hHeld
            have hHeld := hHeld2
            clear hHeld2
            refine wpAnyH_take (i := 8) (oi := _) (v := ?_) rfl (by kernel_rfl) (by kernel_rfl) (by kernel_rfl) (fun _ _ _ h => h) (Or.inl ⟨by rfl, ?_⟩) (by assumption) ?_
            rotate_left
            focus (intro wS hSw; (try dsimp only at hSw); go_simp; (try with_reducible rfl))
            try simp only [Act.put, List.getElem_toArray, List.getElem_cons_zero, List.getElem_cons_succ, List.setIfInBounds_toArray, List.set_cons_zero, List.set_cons_succ]
            refine wpAnyH_take (i := 9) (oi := _) (v := ?_) rfl (by kernel_rfl) (by kernel_rfl) (by kernel_rfl) (fun _ _ _ h => h) (Or.inl ⟨by rfl, ?_⟩) (by assumption) ?_
            rotate_left
            focus (intro wS hSw; (try dsimp only at hSw); go_simp; (try with_reducible rfl))
            try simp only [Act.put, List.getElem_toArray, List.getElem_cons_zero, List.getElem_cons_succ, List.setIfInBounds_toArray, List.set_cons_zero, List.set_cons_succ]
            refine wpAnyH_take (i := 10) (oi := _) (v := ?_) rfl (by kernel_rfl) (by kernel_rfl) (by kernel_rfl) (fun _ _ _ h => h) (Or.inl ⟨by rfl, ?_⟩) (by assumption) ?_
            rotate_left
            focus (intro wS hSw; (try dsimp only at hSw); go_simp; (try with_reducible rfl))
            try simp only [Act.put, List.getElem_toArray, List.getElem_cons_zero, List.getElem_cons_succ, List.setIfInBounds_toArray, List.set_cons_zero, List.set_cons_succ]
            refine wpAnyH_take (i := 11) (oi := _) (v := ?_) rfl (by kernel_rfl) (by kernel_rfl) (by kernel_rfl) (fun _ _ _ h => h) (Or.inl ⟨by rfl, ?_⟩) (by assumption) ?_
            rotate_left
            focus (intro wS hSw; (try dsimp only at hSw); go_simp; (try with_reducible rfl))
            try simp only [Act.put, List.getElem_toArray, List.getElem_cons_zero, List.getElem_cons_succ, List.setIfInBounds_toArray, List.set_cons_zero, List.set_cons_succ]
            refine wpAnyH_take (i := 12) (oi := _) (v := ?_) rfl (by kernel_rfl) (by kernel_rfl) (by kernel_rfl) (fun _ _ _ h => h) (Or.inl ⟨by rfl, ?_⟩) (by assumption) ?_
            rotate_left
            focus (intro wS hSw; (try dsimp only at hSw); go_simp; (try with_reducible rfl))
            try simp only [Act.put, List.getElem_toArray, List.getElem_cons_zero, List.getElem_cons_succ, List.setIfInBounds_toArray, List.set_cons_zero, List.set_cons_succ]
            refine wpAnyH_take (i := 13) (oi := _) (v := ?_) rfl (by kernel_rfl) (by kernel_rfl) (by kernel_rfl) (fun _ _ _ h => h) (Or.inl ⟨by rfl, ?_⟩) (by assumption) ?_
            rotate_left
            focus (intro wS hSw; (try dsimp only at hSw); go_simp; (try with_reducible rfl))
            try simp only [Act.put, List.getElem_toArray, List.getElem_cons_zero, List.getElem_cons_succ, List.setIfInBounds_toArray, List.set_cons_zero, List.set_cons_succ]
            refine wpAnyH_take (i := 14) (oi := _) (v := ?_) rfl (by kernel_rfl) (by kernel_rfl) (by kernel_rfl) (fun _ _ _ h => h) (Or.inl ⟨by rfl, ?_⟩) (by assumption) ?_
            rotate_left
            focus (intro wS hSw; (try dsimp only at hSw); go_simp; (try with_reducible rfl))
            try simp only [Act.put, List.getElem_toArray, List.getElem_cons_zero, List.getElem_cons_succ, List.setIfInBounds_toArray, List.set_cons_zero, List.set_cons_succ]
            refine wpAnyH_take (i := 15) (oi := _) (v := ?_) rfl (by kernel_rfl) (by kernel_rfl) (by kernel_rfl) (fun _ _ _ h => h) (Or.inl ⟨by rfl, ?_⟩) (by assumption) ?_
            rotate_left
            focus (intro wS hSw; (try dsimp only at hSw); go_simp; (try with_reducible rfl))
            try simp only [Act.put, List.getElem_toArray, List.getElem_cons_zero, List.getElem_cons_succ, List.setIfInBounds_toArray, List.set_cons_zero, List.set_cons_succ]
            refine wpAnyH_take (i := 16) (oi := _) (v := ?_) rfl (by kernel_rfl) (by kernel_rfl) (by kernel_rfl) (fun _ _ _ h => h) (Or.inl ⟨by rfl, ?_⟩) (by assumption) ?_
            rotate_left
            focus (intro wS hSw; (try dsimp only at hSw); go_simp; (try with_reducible rfl))
            try simp only [Act.put, List.getElem_toArray, List.getElem_cons_zero, List.getElem_cons_succ, List.setIfInBounds_toArray, List.set_cons_zero, List.set_cons_succ]
            refine wpAnyH_take (i := 17) (oi := _) (v := ?_) rfl (by kernel_rfl) (by kernel_rfl) (by kernel_rfl) (fun _ _ _ h => h) (Or.inl ⟨by rfl, ?_⟩) (by assumption) ?_
            rotate_left
            focus (intro wS hSw; (try dsimp only at hSw); go_simp; (try with_reducible rfl))
            try simp only [Act.put, List.getElem_toArray, List.getElem_cons_zero, List.getElem_cons_succ, List.setIfInBounds_toArray, List.set_cons_zero, List.set_cons_succ]
            refine wpAnyH_take (i := 18) (oi := _) (v := ?_) rfl (by kernel_rfl) (by kernel_rfl) (by kernel_rfl) (fun _ _ _ h => h) (Or.inl ⟨by rfl, ?_⟩) (by assumption) ?_
            rotate_left
            focus (intro wS hSw; (try dsimp only at hSw); go_simp; (try with_reducible rfl))
            try simp only [Act.put, List.getElem_toArray, List.getElem_cons_zero, List.getElem_cons_succ, List.setIfInBounds_toArray, List.set_cons_zero, List.set_cons_succ]
            refine wpAnyH_take (i := 19) (oi := _) (v := ?_) rfl (by kernel_rfl) (by kernel_rfl) (by kernel_rfl) (fun _ _ _ h => h) (Or.inl ⟨by rfl, ?_⟩) (by assumption) ?_
            rotate_left
            focus (intro wS hSw; (try dsimp only at hSw); go_simp; (try with_reducible rfl))
            try simp only [Act.put, List.getElem_toArray, List.getElem_cons_zero, List.getElem_cons_succ, List.setIfInBounds_toArray, List.set_cons_zero, List.set_cons_succ]
            refine wpAnyH_take (i := 20) (oi := _) (v := ?_) rfl (by kernel_rfl) (by kernel_rfl) (by kernel_rfl) (fun _ _ _ h => h) (Or.inl ⟨by rfl, ?_⟩) (by assumption) ?_
            rotate_left
            focus (intro wS hSw; (try dsimp only at hSw); go_simp; (try with_reducible rfl))
            try simp only [Act.put, List.getElem_toArray, List.getElem_cons_zero, List.getElem_cons_succ, List.setIfInBounds_toArray, List.set_cons_zero, List.set_cons_succ]
            refine wpAnyH_take (i := 21) (oi := _) (v := ?_) rfl (by kernel_rfl) (by kernel_rfl) (by kernel_rfl) (fun _ _ _ h => h) (Or.inl ⟨by rfl, ?_⟩) (by assumption) ?_
            rotate_left
            focus (intro wS hSw; (try dsimp only at hSw); go_simp; (try with_reducible rfl))
            try simp only [Act.put, List.getElem_toArray, List.getElem_cons_zero, List.getElem_cons_succ, List.setIfInBounds_toArray, List.set_cons_zero, List.set_cons_succ]
            refine wpAnyH_take (i := 22) (oi := _) (v := ?_) rfl (by kernel_rfl) (by kernel_rfl) (by kernel_rfl) (fun _ _ _ h => h) (Or.inl ⟨by rfl, ?_⟩) (by assumption) ?_
            rotate_left
            focus (intro wS hSw; (try dsimp only at hSw); go_simp; (try with_reducible rfl))
            try simp only [Act.put, List.getElem_toArray, List.getElem_cons_zero, List.getElem_cons_succ, List.setIfInBounds_toArray, List.set_cons_zero, List.set_cons_succ]
            refine wpAnyH_take (i := 23) (oi := _) (v := ?_) rfl (by kernel_rfl) (by kernel_rfl) (by kernel_rfl) (fun _ _ _ h => h) (Or.inl ⟨by rfl, ?_⟩) (by assumption) ?_
            rotate_left
            focus (intro wS hSw; (try dsimp only at hSw); go_simp; (try with_reducible rfl))
            try simp only [Act.put, List.getElem_toArray, List.getElem_cons_zero, List.getElem_cons_succ, List.setIfInBounds_toArray, List.set_cons_zero, List.set_cons_succ]
            refine wpAnyH_take (i := 24) (oi := _) (v := ?_) rfl (by kernel_rfl) (by kernel_rfl) (by kernel_rfl) (fun _ _ _ h => h) (Or.inl ⟨by rfl, ?_⟩) (by assumption) ?_
            rotate_left
            focus (intro wS hSw; (try dsimp only at hSw); go_simp; (try with_reducible rfl))
            try simp only [Act.put, List.getElem_toArray, List.getElem_cons_zero, List.getElem_cons_succ, List.setIfInBounds_toArray, List.set_cons_zero, List.set_cons_succ]
            refine wpAnyH_take (i := 25) (oi := _) (v := ?_) rfl (by kernel_rfl) (by kernel_rfl) (by kernel_rfl) (fun _ _ _ h => h) (Or.inl ⟨by rfl, ?_⟩) (by assumption) ?_
            rotate_left
            focus (intro wS hSw; (try dsimp only at hSw); go_simp; (try with_reducible rfl))
            try simp only [Act.put, List.getElem_toArray, List.getElem_cons_zero, List.getElem_cons_succ, List.setIfInBounds_toArray, List.set_cons_zero, List.set_cons_succ]
            refine wpAnyH_take (i := 26) (oi := _) (v := ?_) rfl (by kernel_rfl) (by kernel_rfl) (by kernel_rfl) (fun _ _ _ h => h) (Or.inl ⟨by rfl, ?_⟩) (by assumption) ?_
            rotate_left
            focus (intro wS hSw; (try dsimp only at hSw); go_simp; (try with_reducible rfl))
            try simp only [Act.put, List.getElem_toArray, List.getElem_cons_zero, List.getElem_cons_succ, List.setIfInBounds_toArray, List.set_cons_zero, List.set_cons_succ]
            refine wpAnyH_take (i := 27) (oi := _) (v := ?_) rfl (by kernel_rfl) (by kernel_rfl) (by kernel_rfl) (fun _ _ _ h => h) (Or.inl ⟨by rfl, ?_⟩) (by assumption) ?_
            rotate_left
            focus (intro wS hSw; (try dsimp only at hSw); go_simp; (try with_reducible rfl))
            try simp only [Act.put, List.getElem_toArray, List.getElem_cons_zero, List.getElem_cons_succ, List.setIfInBounds_toArray, List.set_cons_zero, List.set_cons_succ]
            refine wpAnyH_take (i := 28) (oi := _) (v := ?_) rfl (by kernel_rfl) (by kernel_rfl) (by kernel_rfl) (fun _ _ _ h => h) (Or.inl ⟨by rfl, ?_⟩) (by assumption) ?_
            rotate_left
            focus (intro wS hSw; (try dsimp only at hSw); go_simp; (try with_reducible rfl))
            try simp only [Act.put, List.getElem_toArray, List.getElem_cons_zero, List.getElem_cons_succ, List.setIfInBounds_toArray, List.set_cons_zero, List.set_cons_succ]
            refine wpAnyH_take (i := 29) (oi := _) (v := ?_) rfl (by kernel_rfl) (by kernel_rfl) (by kernel_rfl) (fun _ _ _ h => h) (Or.inl ⟨by rfl, ?_⟩) (by assumption) ?_
            rotate_left
            focus (intro wS hSw; (try dsimp only at hSw); go_simp; (try with_reducible rfl))
            try simp only [Act.put, List.getElem_toArray, List.getElem_cons_zero, List.getElem_cons_succ, List.setIfInBounds_toArray, List.set_cons_zero, List.set_cons_succ]
            refine wpAnyH_done (by kernel_rfl) ?_ _
            try clear hHeld
            clear q1 q2 hl2 hl3 ht2 ht3
            obtain ⟨lb, lo, hla⟩ := row_at HL.out.row (by omega)
            obtain ⟨tb, to', hta⟩ := row_at HT.out.row (by omega)
            subst hla hta
            obtain ⟨D6, hD6⟩ : ∃ D, w53.heap.size = D := ⟨_, rfl⟩
            have HA0 := hid ((H54.out.alloc #[.int .i64 corner] 3 hD6).litOwn 0 [corner] rfl (by simp))
            go_upto_region 7 with (first | (at_builtin; refine append_row rfl (.tmp 64) (.tmp 65) rfl B _ [corner] lb lo nl cl left rfl rfl (HA0.out.own 0 rfl) (HA0.out.old HL.out).row (by simp; omega) HA0.out.size ?_; intro v8 w8 ho hg hv; have HA1 := hid (HA0.out.append 0 rfl ho hg hv); clear ho hg hv) | (at_builtin; refine append_row rfl (.tmp 66) (.tmp 67) rfl B _ ([corner] ++ left) tb to' nt ct top rfl rfl (HA1.out.own 0 rfl) (HA1.out.old HT.out).row (by have := HLL.out; simp; omega) HA1.out.size ?_; intro v9 w9 ho hg hv; have HA2 := hid (HA1.out.append 0 rfl ho hg hv); clear ho hg hv))
            clear HA0 HA1 hD6
            have HBB0 := hid (show (allIn most [corner] && allIn most left && allIn most top) = allIn most ([corner] ++ left ++ top) from by simp [allIn, List.all_append, Bool.and_assoc])
            obtain ⟨all, hall⟩ : ∃ l, [corner] ++ left ++ top = l := ⟨_, rfl⟩
            have HALL := hid (show all.length = nl + nt + 1 by rw [← hall]; have := HLL.out; have := HTL.out; simp; omega)
            have HA3 := hid (show St B W [.own v9 all, .cells (B + 1 + 1) #[.int .i64 0, .int .i64 0, .int .i64 0, .slice none 0 0] 26, .cells (B + 1) #[.int .i64 r0, .int .i64 r1, .int .i64 r2, .int .i64 r3] 39, .cells B #[.int .i64 w, .int .i64 h, .int .i64 mx, .slice a n c] 26] [] w9 from by have := HA2.out; simp only [List.set_cons_zero] at this; rw [hall] at this; exact this)
            rw [hall] at HBB0
            clear hall HA2
            obtain ⟨ga, ca, hga⟩ := (HA3.out.own 0 rfl).pos (by have := HALL.out; omega)
            subst hga
            rw [HALL.out] at HA3 ⊢
            go_wp2_with fail
            go_loopw [15] (fun i wr => ∃ j : Nat, j ≤ nl + nt + 1 ∧ i = .int .i64 j ∧ (∀ i, i < j → 0 ≤ all.getD i 0 ∧ all.getD i 0 ≤ most) ∧ St B W [.own (.slice (some ⟨ga, 0, none⟩) (nl + nt + 1) ca) all, .cells (B + 1 + 1) #[.int .i64 0, .int .i64 0, .int .i64 0, .slice none 0 0] 26, .cells (B + 1) #[.int .i64 r0, .int .i64 r1, .int .i64 r2, .int .i64 r3] 39, .cells B #[.int .i64 w, .int .i64 h, .int .i64 mx, .slice a n c] 26] [] wr) (fun i _ => nl + nt + 1 - (intOf i).toNat)
            case atStart => exact ⟨0, by omega, rfl, fun i hi => by omega, HA3.out⟩
            case round =>
              obtain ⟨j, hj, rfl, ha, hst⟩ := hrel
              obtain ⟨u55, rfl⟩ : ∃ u55 : World, u55 = wr := ⟨_, rfl⟩
              have H56 := hid hst
              clear hst
              have HA := hid ha
              clear ha
              by_cases hjn : j < nl + nt + 1
              · skip
                have hjn' : (j : Int) < ((nl + nt + 1 : Nat) : Int) := by omega
                have hjn2 : (j : Int) < (nl : Int) + (nt : Int) + 1 := by omega
                have hlt : j < all.length := by rw [HALL.out]; exact hjn
                have cz := (H56.out.get 0 rfl (j := j) (by rw [HALL.out]; exact hjn)).1
                have HBD := hid (fun hbad : all.getD j 0 < 0 ∨ most < all.getD j 0 => allIn_bad hlt hbad)
                have HI := hid (show 0 ≤ all.getD j 0 ∧ all.getD j 0 ≤ most → ∀ i, i < j + 1 → 0 ≤ all.getD i 0 ∧ all.getD i 0 ≤ most from fun hg i hi => by
                  rcases Nat.lt_or_ge i j with h' | h'
                  · exact HA.out i h'
                  · obtain rfl : i = j := by omega
                    exact hg)
                generalize all.getD j 0 = z at *
                by_cases c57 : (z : Int) < 0
                · skip
                  have HBB := hid (show (allIn most [corner] && allIn most left && allIn most top) = false by rw [HBB0.out]; exact HBD.out (by omega))
                  clear HBD HI
                  have z58 := H56.out.cell 1 rfl 0 rfl
                  have z59 := H56.out.free 1 rfl 0
                  have z60 := H56.out.cell 1 rfl 1 rfl
                  have z61 := H56.out.free 1 rfl 1
                  have z62 := H56.out.cell 1 rfl 2 rfl
                  have z63 := H56.out.free 1 rfl 2
                  have z64 := H56.out.cell 1 rfl 3 rfl
                  have z65 := H56.out.free 1 rfl 3
                  go_wp2_with fail
                  clear z58 z59 z60 z61 z62 z63 z64 z65
                  have H66 := hid (show St B W [.own (.slice (some ⟨ga, 0, none⟩) (nl + nt + 1) ca) all, .cells (B + 1 + 1) #[.int .i64 0, .int .i64 0, .int .i64 0, .slice none 0 0] 26, .cells (B + 1) #[.int .i64 r0, .int .i64 r1, .int .i64 r2, .int .i64 r3] 39, .cells B #[.int .i64 w, .int .i64 h, .int .i64 mx, .slice a n c] 26] [] ((((u55.setCell ⟨B + 1 + 1, 0, none⟩ (.int .i64 0)).setCell ⟨B + 1 + 1, 1, none⟩ (.int .i64 0)).setCell ⟨B + 1 + 1, 2, none⟩ (.int .i64 0)).setCell ⟨B + 1 + 1, 3, none⟩ (.slice none 0 0)) from (H56.out.set4 1 rfl (.int .i64 0) (.int .i64 0) (.int .i64 0) (.slice none 0 0)))
                  have q67 := H66.out.cell 1 rfl 0 rfl
                  have q68 := H66.out.cell 1 rfl 1 rfl
                  have q69 := H66.out.cell 1 rfl 2 rfl
                  have q70 := H66.out.cell 1 rfl 3 rfl
                  refine bodyPost_ret (v := .tuple #[.agg #[.int .i64 0, .int .i64 0, .int .i64 0, .slice none 0 0], .int .i64 2]) ?_ rfl (tile_no (by unfold tCode; rw [if_neg HNV.out, if_neg HNI0.out, if_neg HNE.out, if_neg HX.out, HMO.out, if_pos HBB.out]) (by omega) (by first | exact H66.out.below | exact H66.out.below'))
                  simp [results, Try.results45, go_sem, q67, q68, q69, q70]
                · skip
                  by_cases c71 : (most : Int) < z
                  · skip
                    have HBB := hid (show (allIn most [corner] && allIn most left && allIn most top) = false by rw [HBB0.out]; exact HBD.out (by omega))
                    clear HBD HI
                    have z72 := H56.out.cell 1 rfl 0 rfl
                    have z73 := H56.out.free 1 rfl 0
                    have z74 := H56.out.cell 1 rfl 1 rfl
                    have z75 := H56.out.free 1 rfl 1
                    have z76 := H56.out.cell 1 rfl 2 rfl
                    have z77 := H56.out.free 1 rfl 2
                    have z78 := H56.out.cell 1 rfl 3 rfl
                    have z79 := H56.out.free 1 rfl 3
                    go_wp2_with fail
                    clear z72 z73 z74 z75 z76 z77 z78 z79
                    have H80 := hid (show St B W [.own (.slice (some ⟨ga, 0, none⟩) (nl + nt + 1) ca) all, .cells (B + 1 + 1) #[.int .i64 0, .int .i64 0, .int .i64 0, .slice none 0 0] 26, .cells (B + 1) #[.int .i64 r0, .int .i64 r1, .int .i64 r2, .int .i64 r3] 39, .cells B #[.int .i64 w, .int .i64 h, .int .i64 mx, .slice a n c] 26] [] ((((u55.setCell ⟨B + 1 + 1, 0, none⟩ (.int .i64 0)).setCell ⟨B + 1 + 1, 1, none⟩ (.int .i64 0)).setCell ⟨B + 1 + 1, 2, none⟩ (.int .i64 0)).setCell ⟨B + 1 + 1, 3, none⟩ (.slice none 0 0)) from (H56.out.set4 1 rfl (.int .i64 0) (.int .i64 0) (.int .i64 0) (.slice none 0 0)))
                    have q81 := H80.out.cell 1 rfl 0 rfl
                    have q82 := H80.out.cell 1 rfl 1 rfl
                    have q83 := H80.out.cell 1 rfl 2 rfl
                    have q84 := H80.out.cell 1 rfl 3 rfl
                    refine bodyPost_ret (v := .tuple #[.agg #[.int .i64 0, .int .i64 0, .int .i64 0, .slice none 0 0], .int .i64 2]) ?_ rfl (tile_no (by unfold tCode; rw [if_neg HNV.out, if_neg HNI0.out, if_neg HNE.out, if_neg HX.out, HMO.out, if_pos HBB.out]) (by omega) (by first | exact H80.out.below | exact H80.out.below'))
                    simp [results, Try.results45, go_sem, q81, q82, q83, q84]
                  · skip
                    have z1 : 0 ≤ z := by omega
                    have z2 : z ≤ most := by omega
                    go_wp2_with fail
                    go_roundw
                    case rel => exact ⟨j + 1, by omega, by go_num, HI.out ⟨z1, z2⟩, H56.out⟩
                    case measure => simp [intOf]; omega
              · skip
                have hjn' : ¬ ((j : Int) < ((nl + nt + 1 : Nat) : Int)) := by omega
                have HGG := hid (show (allIn most [corner] && allIn most left && allIn most top) = true from by rw [HBB0.out]; exact allIn_of fun i hi => HA.out i (by rw [HALL.out] at hi; omega))
                clear HA
                obtain ⟨p1, p2, p3, p4, p5, p6, p7⟩ := HP.out
                have m1 := Int.mul_le_mul (a := (nt : Int)) (b := (nl : Int)) (c := w) (d := h) (by omega) (by omega) (by omega) (by omega)
                have m2 : 1 ≤ most := by
                  rw [← HMO.out]
                  have e1 := Int.mul_le_mul (a := 1) (b := 1) (c := w) (d := h) (by omega) (by omega) (by omega) (by omega)
                  have e2 := Int.mul_le_mul (a := 1) (b := 1) (c := w * h) (d := mx) (by omega) (by omega) (by omega) (by omega)
                  omega
                have m3 : most ≤ 4294967296 := by have := HIO.out.2.2.2.2; rw [HMO.out] at this; exact this
                obtain ⟨NN, hNN⟩ : ∃ N : Nat, nl * nt = N := ⟨_, rfl⟩
                have n1 : 1 ≤ NN := by rw [← hNN]; exact Nat.mul_pos (by omega) (by omega)
                have hNT : (nt : Int) * (nl : Int) = (NN : Int) := by rw [← hNN, Nat.mul_comm]; simp
                have n2 : NN ≤ 4096 := by omega
                have hNP : pOk nt nl most = true := pOk_iff.2 ⟨by omega, by omega, by omega, by omega, by omega, m2, m3⟩
                have HNP := hid hNP
                have HNI := hid (show ∀ x, nIf nt nl most x = x from fun x => by unfold nIf; rw [if_pos hNP])
                have HNL := hid (show nList nt nl most = List.replicate NN 0 from by unfold nList; rw [if_pos hNP, hNT]; rfl)
                have HNN := hid hNN
                have HQL := hid (show (nl : Int) = r3 - r1 by omega)
                have HQT := hid (show (nt : Int) = r2 - r0 by omega)
                clear hNN hNT hNP m1
                go_wp2_with fail
                refine (qnew_any _ _ _ _).mono ?_
                rintro e w85 ⟨v86, rfl, ho, hb⟩
                have H87 := hid (H56.out.grow hb ho)
                obtain ⟨v86a, v86c, rfl, _⟩ := ho.slc
                clear ho hb
                have hnl := HNL.out
                rw [hnl] at H87 ⊢
                simp only [List.length_replicate] at H87 ⊢
                rw [HNI.out, HNI.out, HNI.out, HNP.out]
                clear hnl
                obtain ⟨g0, g1, hg0⟩ := (H87.out.own 0 rfl).pos (by rw [List.length_replicate]; omega)
                simp only [List.length_replicate] at hg0
                injection hg0 with e1 e2 e3
                subst e1
                clear e2 e3
                obtain ⟨D88, hD88⟩ : ∃ D, w85.heap.size = D := ⟨_, rfl⟩
                go_upto_region 13 with fail
                have H89 := hid (show St B W [.cells D88 #[.int .i64 nt, .int .i64 nl, .int .i64 most, .slice (some ⟨g0, 0, none⟩) NN v86c] 26, .own (.slice (some ⟨g0, 0, none⟩) NN v86c) (List.replicate NN 0), .own (.slice (some ⟨ga, 0, none⟩) (nl + nt + 1) ca) all, .cells (B + 1 + 1) #[.int .i64 0, .int .i64 0, .int .i64 0, .slice none 0 0] 26, .cells (B + 1) #[.int .i64 r0, .int .i64 r1, .int .i64 r2, .int .i64 r3] 39, .cells B #[.int .i64 w, .int .i64 h, .int .i64 mx, .slice a n c] 26] [] (w85.alloc (.cells #[.int .i64 nt, .int .i64 nl, .int .i64 most, .slice (some ⟨g0, 0, none⟩) NN v86c] 26)) from (H87.out.alloc #[.int .i64 nt, .int .i64 nl, .int .i64 most, .slice (some ⟨g0, 0, none⟩) NN v86c] 26 hD88))
                first | refine gen_code H89.out ?_ | refine gen_list H89.out ?_ | refine gen_calls H89.out ?_
                intro w90 hG
                clear H89
                have H89 := hid hG
                clear hG
                clear hD88
                go_wp2_with fail
                obtain ⟨f, hf⟩ : ∃ f, tVal w zs r0 r1 left top corner = f := ⟨_, rfl⟩
                have HFV := hid (show ∀ k j, left.getD k 0 + top.getD j 0 - corner + tSum w zs r0 r1 (k + 1) (j + 1) = f k j from fun k j => by rw [← hf]; rfl)
                have HF := hid hf
                clear hf
                have HN := hid (show (n : Int) = w * h from by rw [← (pValid_iff.1 HV.out).2.1, HS.out.len])
                have hgg : allIn most [corner] = true ∧ allIn most left = true ∧ allIn most top = true := by have := HGG.out; simp only [Bool.and_eq_true] at this; exact ⟨this.1.1, this.1.2, this.2⟩
                obtain ⟨co1, co2⟩ : 0 ≤ corner ∧ corner ≤ most := by have := allIn_iff.1 hgg.1 corner (by simp); exact this
                have HLB := hid (fun i (hi : i < nl) => allIn_get hgg.2.1 (i := i) (by rw [HLL.out]; exact hi))
                have HTB := hid (fun i (hi : i < nt) => allIn_get hgg.2.2 (i := i) (by rw [HTL.out]; exact hi))
                clear hgg
                go_loopw [18] (fun i wr => ∃ k : Nat, k ≤ nl ∧ i = .int .i64 k ∧ (∀ a b, a < k → b < nt → 0 ≤ f a b ∧ f a b ≤ most) ∧ St B W [.own (.slice (some ⟨g0, 0, none⟩) NN v86c) (fillL f nt k 0 NN), .cells D88 #[.int .i64 nt, .int .i64 nl, .int .i64 most, .slice (some ⟨g0, 0, none⟩) NN v86c] 26, .cells (B + 1 + 1) #[.int .i64 0, .int .i64 0, .int .i64 0, .slice none 0 0] 26, .cells (B + 1) #[.int .i64 r0, .int .i64 r1, .int .i64 r2, .int .i64 r3] 39, .cells B #[.int .i64 w, .int .i64 h, .int .i64 mx, .slice a n c] 26] [] wr) (fun i _ => nl - (intOf i).toNat)
                case atStart => exact ⟨0, by omega, rfl, fun a b ha => by omega, by rw [fillL_zero]; exact H89.out.pick [1, 0, 3, 4, 5] rfl (by decide)⟩
                case round =>
                  obtain ⟨k, hk, rfl, ha, hst⟩ := hrel
                  obtain ⟨u91, rfl⟩ : ∃ u91 : World, u91 = wr := ⟨_, rfl⟩
                  have H92 := hid hst
                  clear hst
                  have HA := hid ha
                  clear ha
                  by_cases hkn : k < nl
                  · skip
                    have hkn' : (k : Int) < nl := by omega
                    have z93 := H92.out.cell 1 rfl 0 rfl
                    have z94 := H92.out.cell 1 rfl 1 rfl
                    have z95 := H92.out.cell 1 rfl 2 rfl
                    have z96 := H92.out.cell 1 rfl 3 rfl
                    go_wp2_with fail
                    clear z93 z94 z95 z96
                    go_loopw [19] (fun i wr => ∃ j : Nat, j ≤ nt ∧ i = .int .i64 j ∧ (∀ a b, (a < k ∧ b < nt) ∨ (a = k ∧ b < j) → 0 ≤ f a b ∧ f a b ≤ most) ∧ St B W [.own (.slice (some ⟨g0, 0, none⟩) NN v86c) (fillL f nt k j NN), .cells D88 #[.int .i64 nt, .int .i64 nl, .int .i64 most, .slice (some ⟨g0, 0, none⟩) NN v86c] 26, .cells (B + 1 + 1) #[.int .i64 0, .int .i64 0, .int .i64 0, .slice none 0 0] 26, .cells (B + 1) #[.int .i64 r0, .int .i64 r1, .int .i64 r2, .int .i64 r3] 39, .cells B #[.int .i64 w, .int .i64 h, .int .i64 mx, .slice a n c] 26] [] wr) (fun i _ => nt - (intOf i).toNat)
                    case atStart => exact ⟨0, by omega, rfl, fun a b h => by rcases h with h | h; exact HA.out a b h.1 h.2; omega, H92.out⟩
                    case round =>
                      obtain ⟨j, hj, rfl, ha, hst⟩ := hrel
                      obtain ⟨u97, rfl⟩ : ∃ u97 : World, u97 = wr := ⟨_, rfl⟩
                      have H98 := hid hst
                      clear hst
                      have HB := hid ha
                      clear ha
                      by_cases hjn : j < nt
                      · skip
                        have hjn' : (j : Int) < nt := by omega
                        have HLK := hid (HLB.out k hkn)
                        have HTK := hid (HTB.out j hjn)
                        have HFK := hid (HFV.out k j)
                        obtain ⟨lv, hlv⟩ : ∃ z, left.getD k 0 = z := ⟨_, rfl⟩
                        obtain ⟨tv, htv⟩ : ∃ z, top.getD j 0 = z := ⟨_, rfl⟩
                        rw [hlv] at HLK HFK
                        rw [htv] at HTK HFK
                        have HLV := hid hlv
                        have HTV := hid htv
                        clear hlv htv
                        obtain ⟨lv1, lv2⟩ := HLK.out
                        obtain ⟨tv1, tv2⟩ := HTK.out
                        clear HLK HTK
                        have w1 : IntKind.i64.wrap (lv + tv) = lv + tv := IntWalk.i64_in _ (by omega)
                        have w2 : IntKind.i64.wrap (lv + tv - corner) = lv + tv - corner := IntWalk.i64_in _ (by omega)
                        have z99 := H98.out.cell 1 rfl 0 rfl
                        have z100 := H98.out.cell 1 rfl 1 rfl
                        have z101 := H98.out.cell 1 rfl 2 rfl
                        have z102 := H98.out.cell 1 rfl 3 rfl
                        go_upto_region 19 with fail
                        clear z99 z100 z101 z102
                        have H103 := hid H98.out.drew
                        refine wp_region_held_drew (S := (fun w' => w'.cell? ⟨lb, lo + k, none⟩ = some (.int .i64 lv) ∧ w'.cell? ⟨tb, to' + j, none⟩ = some (.int .i64 tv))) (by kernel_rfl) ⟨(by have := row_cell (H103.out.old HL.out).row hkn; rw [HLV.out] at this; exact this), (by have := row_cell (H103.out.old HT.out).row hjn; rw [HTV.out] at this; exact this)⟩ (fun hHeld => ?_)
                        generalize u97.drew = k104 at *
                        refine wpAnyH_take (i := 0) (oi := _) (v := ?_) rfl (by kernel_rfl) (by kernel_rfl) (by kernel_rfl) (fun _ _ _ h => h) (Or.inl ⟨by rfl, ?_⟩) (by assumption) ?_
                        rotate_left
                        focus (intro wS hSw; (try dsimp only at hSw); go_simp; (try with_reducible rfl))
                        try simp only [Act.put, List.getElem_toArray, List.getElem_cons_zero, List.getElem_cons_succ, List.setIfInBounds_toArray, List.set_cons_zero, List.set_cons_succ]
                        refine wpAnyH_take (i := 1) (oi := _) (v := ?_) rfl (by kernel_rfl) (by kernel_rfl) (by kernel_rfl) (fun _ _ _ h => h) (Or.inl ⟨by rfl, ?_⟩) (by assumption) ?_
                        rotate_left
                        focus (intro wS hSw; (try dsimp only at hSw); go_simp; (try with_reducible rfl))
                        try simp only [Act.put, List.getElem_toArray, List.getElem_cons_zero, List.getElem_cons_succ, List.setIfInBounds_toArray, List.set_cons_zero, List.set_cons_succ]
                        refine wpAnyH_take (i := 2) (oi := _) (v := ?_) rfl (by kernel_rfl) (by kernel_rfl) (by kernel_rfl) (fun _ _ _ h => h) (Or.inl ⟨by rfl, ?_⟩) (by assumption) ?_
                        rotate_left
                        focus (intro wS hSw; (try dsimp only at hSw); go_simp; (try with_reducible rfl))
                        try simp only [Act.put, List.getElem_toArray, List.getElem_cons_zero, List.getElem_cons_succ, List.setIfInBounds_toArray, List.set_cons_zero, List.set_cons_succ]
                        refine wpAnyH_take (i := 3) (oi := _) (v := ?_) rfl (by kernel_rfl) (by kernel_rfl) (by kernel_rfl) (fun _ _ _ h => h) (Or.inl ⟨by rfl, ?_⟩) (by assumption) ?_
                        rotate_left
                        focus (intro wS hSw; (try dsimp only at hSw); go_simp; (try with_reducible rfl))
                        try simp only [Act.put, List.getElem_toArray, List.getElem_cons_zero, List.getElem_cons_succ, List.setIfInBounds_toArray, List.set_cons_zero, List.set_cons_succ]
                        refine wpAnyH_take (i := 4) (oi := _) (v := ?_) rfl (by kernel_rfl) (by kernel_rfl) (by kernel_rfl) (fun _ _ _ h => h) (Or.inl ⟨by rfl, ?_⟩) (by assumption) ?_
                        rotate_left
                        focus (intro wS hSw; (try dsimp only at hSw); go_simp; (try with_reducible rfl))
                        try simp only [Act.put, List.getElem_toArray, List.getElem_cons_zero, List.getElem_cons_succ, List.setIfInBounds_toArray, List.set_cons_zero, List.set_cons_succ]
                        refine wpAnyH_take (i := 5) (oi := _) (v := ?_) rfl (by kernel_rfl) (by kernel_rfl) (by kernel_rfl) (fun _ _ _ h => h) (Or.inl ⟨by rfl, ?_⟩) (by assumption) ?_
                        rotate_left
                        focus (intro wS hSw; (try dsimp only at hSw); go_simp; (try with_reducible rfl))
                        try simp only [Act.put, List.getElem_toArray, List.getElem_cons_zero, List.getElem_cons_succ, List.setIfInBounds_toArray, List.set_cons_zero, List.set_cons_succ]
                        refine wpAnyH_take (i := 6) (oi := _) (v := ?_) rfl (by kernel_rfl) (by kernel_rfl) (by kernel_rfl) (fun _ _ _ h => h) (Or.inl ⟨by rfl, ?_⟩) (by assumption) ?_
                        rotate_left
                        focus (intro wS hSw; (try dsimp only at hSw); go_simp; (try with_reducible rfl))
                        try simp only [Act.put, List.getElem_toArray, List.getElem_cons_zero, List.getElem_cons_succ, List.setIfInBounds_toArray, List.set_cons_zero, List.set_cons_succ]
                        refine wpAnyH_take (i := 7) (oi := _) (v := ?_) rfl (by kernel_rfl) (by kernel_rfl) (by kernel_rfl) (fun _ _ _ h => h) (Or.inl ⟨by rfl, ?_⟩) (by assumption) ?_
                        rotate_left
                        focus (intro wS hSw; (try dsimp only at hSw); go_simp; (try with_reducible rfl))
                        try simp only [Act.put, List.getElem_toArray, List.getElem_cons_zero, List.getElem_cons_succ, List.setIfInBounds_toArray, List.set_cons_zero, List.set_cons_succ]
                        refine wpAnyH_take (i := 8) (oi := _) (v := ?_) rfl (by kernel_rfl) (by kernel_rfl) (by kernel_rfl) (fun _ _ _ h => h) (Or.inl ⟨by rfl, ?_⟩) (by assumption) ?_
                        rotate_left
                        focus (intro wS hSw; (try dsimp only at hSw); go_simp; (try with_reducible rfl))
                        try simp only [Act.put, List.getElem_toArray, List.getElem_cons_zero, List.getElem_cons_succ, List.setIfInBounds_toArray, List.set_cons_zero, List.set_cons_succ]
                        refine wpAnyH_take (i := 9) (oi := _) (v := ?_) rfl (by kernel_rfl) (by kernel_rfl) (by kernel_rfl) (fun _ _ _ h => h) (Or.inl ⟨by rfl, ?_⟩) (by assumption) ?_
                        rotate_left
                        focus (intro wS hSw; (try dsimp only at hSw); go_simp; (try with_reducible rfl))
                        try simp only [Act.put, List.getElem_toArray, List.getElem_cons_zero, List.getElem_cons_succ, List.setIfInBounds_toArray, List.set_cons_zero, List.set_cons_succ]
                        refine wpAnyH_take (i := 10) (oi := _) (v := ?_) rfl (by kernel_rfl) (by kernel_rfl) (by kernel_rfl) (fun _ _ _ h => h) (Or.inl ⟨by rfl, ?_⟩) (by assumption) ?_
                        rotate_left
                        focus (intro wS hSw; (try dsimp only at hSw); go_simp; (try with_reducible rfl))
                        try simp only [Act.put, List.getElem_toArray, List.getElem_cons_zero, List.getElem_cons_succ, List.setIfInBounds_toArray, List.set_cons_zero, List.set_cons_succ]
                        refine wpAnyH_take (i := 11) (oi := _) (v := ?_) rfl (by kernel_rfl) (by kernel_rfl) (by kernel_rfl) (fun _ _ _ h => h) (Or.inl ⟨by rfl, ?_⟩) (by assumption) ?_
                        rotate_left
                        focus (intro wS hSw; (try dsimp only at hSw); go_simp; (try with_reducible rfl))
                        try simp only [Act.put, List.getElem_toArray, List.getElem_cons_zero, List.getElem_cons_succ, List.setIfInBounds_toArray, List.set_cons_zero, List.set_cons_succ]
                        refine wpAnyH_done (by kernel_rfl) ?_ _
                        try clear hHeld
                        clear w1 w2
                        go_wp2_with fail
                        obtain ⟨sv, hsv⟩ : ∃ z, lv + tv - corner = z := ⟨_, rfl⟩
                        obtain ⟨sv1, sv2⟩ : -4294967296 ≤ sv ∧ sv ≤ 8589934592 := by omega
                        rw [hsv] at HFK ⊢
                        have HSV := hid hsv
                        clear hsv
                        go_loopw [21, 20] (fun i s wr => ∃ aa : Nat, aa ≤ k + 1 ∧ i = .int .i64 aa ∧ s = .int .i64 (sv + rowsS w zs r0 r1 aa (j + 1)) ∧ St B W [.own (.slice (some ⟨g0, 0, none⟩) NN v86c) (fillL f nt k j NN), .cells D88 #[.int .i64 nt, .int .i64 nl, .int .i64 most, .slice (some ⟨g0, 0, none⟩) NN v86c] 26, .cells (B + 1 + 1) #[.int .i64 0, .int .i64 0, .int .i64 0, .slice none 0 0] 26, .cells (B + 1) #[.int .i64 r0, .int .i64 r1, .int .i64 r2, .int .i64 r3] 39, .cells B #[.int .i64 w, .int .i64 h, .int .i64 mx, .slice a n c] 26] [] wr) (fun i _ _ => k + 1 - (intOf i).toNat)
                        case atStart => exact ⟨0, by omega, rfl, by rw [show rowsS w zs r0 r1 0 (j + 1) = 0 from rfl, Int.add_zero], H103.out⟩
                        case round =>
                          obtain ⟨aa, ha, rfl, rfl, hst⟩ := hrel
                          obtain ⟨u105, rfl⟩ : ∃ u105 : World, u105 = wr := ⟨_, rfl⟩
                          have H106 := hid hst
                          clear hst
                          obtain ⟨R11, R12⟩ := rowsS_bd HV.out r0 r1 (k := aa) (j := j + 1) (by omega) (by omega)
                          obtain ⟨R1, hR1⟩ : ∃ z, rowsS w zs r0 r1 aa (j + 1) = z := ⟨_, rfl⟩
                          rw [hR1] at R11 R12 ⊢
                          have HR1 := hid hR1
                          clear hR1
                          by_cases hak : aa ≤ k
                          · skip
                            have hak' : (aa : Int) ≤ k := by omega
                            go_wp2_with fail
                            go_loopw [22, 20] (fun i s wr => ∃ b : Nat, b ≤ j + 1 ∧ i = .int .i64 b ∧ s = .int .i64 (sv + R1 + rowS w zs r0 r1 aa b) ∧ St B W [.own (.slice (some ⟨g0, 0, none⟩) NN v86c) (fillL f nt k j NN), .cells D88 #[.int .i64 nt, .int .i64 nl, .int .i64 most, .slice (some ⟨g0, 0, none⟩) NN v86c] 26, .cells (B + 1 + 1) #[.int .i64 0, .int .i64 0, .int .i64 0, .slice none 0 0] 26, .cells (B + 1) #[.int .i64 r0, .int .i64 r1, .int .i64 r2, .int .i64 r3] 39, .cells B #[.int .i64 w, .int .i64 h, .int .i64 mx, .slice a n c] 26] [] wr) (fun i _ _ => j + 1 - (intOf i).toNat)
                            case atStart => exact ⟨0, by omega, rfl, by rw [show rowS w zs r0 r1 aa 0 = 0 from rfl, Int.add_zero], H106.out⟩
                            case round =>
                              obtain ⟨b, hb, rfl, rfl, hst⟩ := hrel
                              obtain ⟨u107, rfl⟩ : ∃ u107 : World, u107 = wr := ⟨_, rfl⟩
                              have H108 := hid hst
                              clear hst
                              obtain ⟨R21, R22⟩ := rowS_bd HV.out r0 r1 aa (j := b) (by omega)
                              have HRS0 := hid (show rowS w zs r0 r1 aa (b + 1) = rowS w zs r0 r1 aa b + tPix w zs r0 r1 aa b from rfl)
                              obtain ⟨R2, hR2⟩ : ∃ z, rowS w zs r0 r1 aa b = z := ⟨_, rfl⟩
                              rw [hR2] at R21 R22 HRS0 ⊢
                              have HR2 := hid hR2
                              clear hR2
                              by_cases hbj : b ≤ j
                              · skip
                                have hbj' : (b : Int) ≤ j := by omega
                                obtain ⟨pz1, pz2⟩ := tPix_bd HV.out r0 r1 aa b
                                obtain ⟨pa0, pa1, pa2, pa3⟩ := pix_at (w := w) (h := h) (x := r0 + b) (y := r1 + aa) p1 p2 p4 (by omega) (by omega) (by omega) (by omega)
                                obtain ⟨P, hP⟩ : ∃ P, (r1 + (aa : Int)) * w = P := ⟨_, rfl⟩
                                rw [hP] at pa0 pa1 pa2 pa3
                                have hlt : P + r0 + b < n := by have := HN.out; omega
                                have HSL := hid (H108.out.old HS.out)
                                obtain ⟨pbk, po, hpa⟩ := row_at HSL.out.row (by omega)
                                have cz := row_cell (by rw [← hpa]; exact HSL.out.row) (j := (P + r0 + b).toNat) (by omega)
                                have HPZ0 : Hid (tPix w zs r0 r1 aa b = zs.getD (P + r0 + (b : Int)).toNat 0) := by rw [← hP]; rfl
                                rw [← HPZ0.out] at cz
                                obtain ⟨pz, hpz⟩ : ∃ z, tPix w zs r0 r1 aa b = z := ⟨_, rfl⟩
                                rw [hpz] at cz pz1 pz2
                                have HPZ := hid hpz
                                clear hpz
                                have w1 : IntKind.i64.wrap (r1 + (aa : Int)) = r1 + aa := IntWalk.i64_in _ (by omega)
                                have w2 : IntKind.i64.wrap P = P := IntWalk.i64_in _ (by omega)
                                have w3 : IntKind.i64.wrap (P + r0) = P + r0 := IntWalk.i64_in _ (by omega)
                                have w4 : IntKind.i64.wrap (P + r0 + (b : Int)) = P + r0 + b := IntWalk.i64_in _ (by omega)
                                have w6 : 0 ≤ P + r0 + (b : Int) := by omega
                                subst hpa
                                have z109 := H108.out.cell 4 rfl 0 rfl
                                have z110 := H108.out.cell 4 rfl 1 rfl
                                have z111 := H108.out.cell 4 rfl 2 rfl
                                have z112 := H108.out.cell 4 rfl 3 rfl
                                have z113 := H108.out.cell 3 rfl 0 rfl
                                have z114 := H108.out.cell 3 rfl 1 rfl
                                have z115 := H108.out.cell 3 rfl 2 rfl
                                have z116 := H108.out.cell 3 rfl 3 rfl
                                go_wp2_with fail
                                clear z109 z110 z111 z112 z113 z114 z115 z116
                                go_roundw
                                case rel => exact ⟨b + 1, by omega, by go_num, by rw [HRS0.out, HPZ.out, Int.add_assoc], H108.out⟩
                                case measure => simp [intOf]; omega
                              · skip
                                have hbj' : ¬ ((b : Int) ≤ j) := by omega
                                have HRS := hid (show sv + rowsS w zs r0 r1 (aa + 1) (j + 1) = sv + R1 + R2 from by rw [← HR1.out, ← HR2.out, show j + 1 = b by omega, Int.add_assoc]; rfl)
                                go_wp2_with fail
                                go_roundw
                                case rel => exact ⟨aa + 1, by omega, by go_num, by rw [HRS.out], H108.out⟩
                                case measure => simp [intOf]; omega
                          · skip
                            have hak' : ¬ ((aa : Int) ≤ k) := by omega
                            have HFW := hid (show f k j = sv + R1 by rw [← HFK.out, tSum_rowsS, ← HR1.out]; congr 2; omega)
                            obtain ⟨fv, hfv⟩ : ∃ z, sv + R1 = z := ⟨_, rfl⟩
                            rw [hfv] at HFW ⊢
                            clear hfv
                            have HBBF := hid (fun hbad : fv < 0 ∨ most < fv => show allIn most (tAll w zs r0 r1 left top corner) = false from by
                              rw [← Bool.not_eq_true, allIn_iff]
                              intro hall
                              unfold tAll at hall
                              rw [HF.out, HTL.out, HLL.out] at hall
                              have := (gridL_all f nt nl).1 hall k hkn j hjn
                              rw [HFW.out] at this
                              omega)
                            by_cases c117 : (fv : Int) < 0
                            · skip
                              have HBBG := hid (HBBF.out (by omega))
                              have z118 := H106.out.cell 2 rfl 0 rfl
                              have z119 := H106.out.free 2 rfl 0
                              have z120 := H106.out.cell 2 rfl 1 rfl
                              have z121 := H106.out.free 2 rfl 1
                              have z122 := H106.out.cell 2 rfl 2 rfl
                              have z123 := H106.out.free 2 rfl 2
                              have z124 := H106.out.cell 2 rfl 3 rfl
                              have z125 := H106.out.free 2 rfl 3
                              go_wp2_with fail
                              clear z118 z119 z120 z121 z122 z123 z124 z125
                              have H126 := hid (show St B W [.own (.slice (some ⟨g0, 0, none⟩) NN v86c) (fillL f nt k j NN), .cells D88 #[.int .i64 nt, .int .i64 nl, .int .i64 most, .slice (some ⟨g0, 0, none⟩) NN v86c] 26, .cells (B + 1 + 1) #[.int .i64 0, .int .i64 0, .int .i64 0, .slice none 0 0] 26, .cells (B + 1) #[.int .i64 r0, .int .i64 r1, .int .i64 r2, .int .i64 r3] 39, .cells B #[.int .i64 w, .int .i64 h, .int .i64 mx, .slice a n c] 26] [] ((((u105.setCell ⟨B + 1 + 1, 0, none⟩ (.int .i64 0)).setCell ⟨B + 1 + 1, 1, none⟩ (.int .i64 0)).setCell ⟨B + 1 + 1, 2, none⟩ (.int .i64 0)).setCell ⟨B + 1 + 1, 3, none⟩ (.slice none 0 0)) from (H106.out.set4 2 rfl (.int .i64 0) (.int .i64 0) (.int .i64 0) (.slice none 0 0)))
                              have q127 := H126.out.cell 2 rfl 0 rfl
                              have q128 := H126.out.cell 2 rfl 1 rfl
                              have q129 := H126.out.cell 2 rfl 2 rfl
                              have q130 := H126.out.cell 2 rfl 3 rfl
                              refine bodyPost_ret (v := .tuple #[.agg #[.int .i64 0, .int .i64 0, .int .i64 0, .slice none 0 0], .int .i64 2]) ?_ rfl (tile_no (by unfold tCode; rw [if_neg HNV.out, if_neg HNI0.out, if_neg HNE.out, if_neg HX.out, HMO.out, if_neg (by rw [HGG.out]; simp), if_pos HBBG.out]) (by omega) (by first | exact H126.out.below | exact H126.out.below'))
                              simp [results, Try.results45, go_sem, q127, q128, q129, q130]
                            · skip
                              by_cases c131 : (most : Int) < fv
                              · skip
                                have HBBG := hid (HBBF.out (by omega))
                                have z132 := H106.out.cell 2 rfl 0 rfl
                                have z133 := H106.out.free 2 rfl 0
                                have z134 := H106.out.cell 2 rfl 1 rfl
                                have z135 := H106.out.free 2 rfl 1
                                have z136 := H106.out.cell 2 rfl 2 rfl
                                have z137 := H106.out.free 2 rfl 2
                                have z138 := H106.out.cell 2 rfl 3 rfl
                                have z139 := H106.out.free 2 rfl 3
                                go_wp2_with fail
                                clear z132 z133 z134 z135 z136 z137 z138 z139
                                have H140 := hid (show St B W [.own (.slice (some ⟨g0, 0, none⟩) NN v86c) (fillL f nt k j NN), .cells D88 #[.int .i64 nt, .int .i64 nl, .int .i64 most, .slice (some ⟨g0, 0, none⟩) NN v86c] 26, .cells (B + 1 + 1) #[.int .i64 0, .int .i64 0, .int .i64 0, .slice none 0 0] 26, .cells (B + 1) #[.int .i64 r0, .int .i64 r1, .int .i64 r2, .int .i64 r3] 39, .cells B #[.int .i64 w, .int .i64 h, .int .i64 mx, .slice a n c] 26] [] ((((u105.setCell ⟨B + 1 + 1, 0, none⟩ (.int .i64 0)).setCell ⟨B + 1 + 1, 1, none⟩ (.int .i64 0)).setCell ⟨B + 1 + 1, 2, none⟩ (.int .i64 0)).setCell ⟨B + 1 + 1, 3, none⟩ (.slice none 0 0)) from (H106.out.set4 2 rfl (.int .i64 0) (.int .i64 0) (.int .i64 0) (.slice none 0 0)))
                                have q141 := H140.out.cell 2 rfl 0 rfl
                                have q142 := H140.out.cell 2 rfl 1 rfl
                                have q143 := H140.out.cell 2 rfl 2 rfl
                                have q144 := H140.out.cell 2 rfl 3 rfl
                                refine bodyPost_ret (v := .tuple #[.agg #[.int .i64 0, .int .i64 0, .int .i64 0, .slice none 0 0], .int .i64 2]) ?_ rfl (tile_no (by unfold tCode; rw [if_neg HNV.out, if_neg HNI0.out, if_neg HNE.out, if_neg HX.out, HMO.out, if_neg (by rw [HGG.out]; simp), if_pos HBBG.out]) (by omega) (by first | exact H140.out.below | exact H140.out.below'))
                                simp [results, Try.results45, go_sem, q141, q142, q143, q144]
                              · skip
                                obtain ⟨KN, hKN⟩ : ∃ K : Nat, k * nt = K := ⟨_, rfl⟩
                                have hKM : (k : Int) * (nt : Int) = (KN : Int) := by rw [← hKN]; simp
                                have kn1 : KN + j < NN := by
                                  have e1 : (k + 1) * nt ≤ nl * nt := Nat.mul_le_mul_right _ (by omega)
                                  rw [HNN.out, Nat.add_mul, Nat.one_mul, hKN] at e1
                                  omega
                                have HNX := hid (show (fillL f nt k j NN).set (KN + j) fv = fillL f nt k (j + 1) NN from by rw [← HFW.out, ← hKN]; exact fillL_next (by omega))
                                have HB1 := hid (show ∀ a b, (a < k ∧ b < nt) ∨ (a = k ∧ b < j + 1) → 0 ≤ f a b ∧ f a b ≤ most from fun a b h' => by
                                  by_cases e : a = k ∧ b = j
                                  · obtain ⟨rfl, rfl⟩ := e; rw [HFW.out]; omega
                                  · exact HB.out a b (by omega))
                                obtain ⟨s1, s2⟩ := H106.out.get 0 rfl (j := KN + j) (by rw [fillL_len (by omega)]; omega)
                                have w7 : IntKind.i64.wrap (KN : Int) = KN := IntWalk.i64_in _ (by omega)
                                have kn2 : (KN : Int) + (j : Int) < NN := by omega
                                clear hKN
                                have z145 := H106.out.cell 1 rfl 0 rfl
                                have z146 := H106.out.cell 1 rfl 1 rfl
                                have z147 := H106.out.cell 1 rfl 2 rfl
                                have z148 := H106.out.cell 1 rfl 3 rfl
                                go_upto_region 18 with fail
                                clear z145 z146 z147 z148
                                have H149 := hid (show St B W [.own (.slice (some ⟨g0, 0, none⟩) NN v86c) ((fillL f nt k j NN).set (KN + j) fv), .cells D88 #[.int .i64 nt, .int .i64 nl, .int .i64 most, .slice (some ⟨g0, 0, none⟩) NN v86c] 26, .cells (B + 1 + 1) #[.int .i64 0, .int .i64 0, .int .i64 0, .slice none 0 0] 26, .cells (B + 1) #[.int .i64 r0, .int .i64 r1, .int .i64 r2, .int .i64 r3] 39, .cells B #[.int .i64 w, .int .i64 h, .int .i64 mx, .slice a n c] 26] [] (u105.setCell ⟨g0, (KN + j), none⟩ (.int .i64 fv)) from (H106.out.store 0 rfl (KN + j) fv))
                                first | refine gen_code H149.out ?_ | refine gen_list H149.out ?_ | refine gen_calls H149.out ?_
                                intro w150 hG
                                clear H149
                                have H149 := hid hG
                                clear hG
                                go_wp2_with fail
                                go_roundw
                                case rel => exact ⟨j + 1, by omega, by go_num, HB1.out, by rw [← HNX.out]; exact H149.out⟩
                                case measure => simp [intOf]; omega
                      · skip
                        have hjn' : ¬ ((j : Int) < nt) := by omega
                        have HJ := hid (show j = nt by omega)
                        have HA1 := hid (show ∀ a b, a < k + 1 → b < nt → 0 ≤ f a b ∧ f a b ≤ most from fun a b h1 h2 => HB.out a b (by have := HJ.out; omega))
                        have z151 := H98.out.cell 1 rfl 0 rfl
                        have z152 := H98.out.cell 1 rfl 1 rfl
                        have z153 := H98.out.cell 1 rfl 2 rfl
                        have z154 := H98.out.cell 1 rfl 3 rfl
                        go_wp2_with fail
                        clear z151 z152 z153 z154
                        go_roundw
                        case rel => exact ⟨k + 1, by omega, by go_num, HA1.out, by rw [← fillL_row]; have e := HJ.out; subst e; exact H98.out⟩
                        case measure => simp [intOf]; omega
                  · skip
                    have hkn' : ¬ ((k : Int) < nl) := by omega
                    have HKL := hid (show k = nl by omega)
                    have z155 := H92.out.cell 1 rfl 0 rfl
                    have z156 := H92.out.cell 1 rfl 1 rfl
                    have z157 := H92.out.cell 1 rfl 2 rfl
                    have z158 := H92.out.cell 1 rfl 3 rfl
                    have z159 := H92.out.cell 2 rfl 0 rfl
                    have z160 := H92.out.free 2 rfl 0
                    have z161 := H92.out.cell 2 rfl 1 rfl
                    have z162 := H92.out.free 2 rfl 1
                    have z163 := H92.out.cell 2 rfl 2 rfl
                    have z164 := H92.out.free 2 rfl 2
                    have z165 := H92.out.cell 2 rfl 3 rfl
                    have z166 := H92.out.free 2 rfl 3
                    go_wp2_with fail
                    clear z155 z156 z157 z158 z159 z160 z161 z162 z163 z164 z165 z166
                    have H167 := hid (show St B W [.own (.slice (some ⟨g0, 0, none⟩) NN v86c) (fillL f nt k 0 NN), .cells D88 #[.int .i64 nt, .int .i64 nl, .int .i64 most, .slice (some ⟨g0, 0, none⟩) NN v86c] 26, .cells (B + 1 + 1) #[.int .i64 nt, .int .i64 nl, .int .i64 most, .slice (some ⟨g0, 0, none⟩) NN v86c] 26, .cells (B + 1) #[.int .i64 r0, .int .i64 r1, .int .i64 r2, .int .i64 r3] 39, .cells B #[.int .i64 w, .int .i64 h, .int .i64 mx, .slice a n c] 26] [] ((((u91.setCell ⟨B + 1 + 1, 0, none⟩ (.int .i64 nt)).setCell ⟨B + 1 + 1, 1, none⟩ (.int .i64 nl)).setCell ⟨B + 1 + 1, 2, none⟩ (.int .i64 most)).setCell ⟨B + 1 + 1, 3, none⟩ (.slice (some ⟨g0, 0, none⟩) NN v86c)) from (H92.out.set4 2 rfl (.int .i64 nt) (.int .i64 nl) (.int .i64 most) (.slice (some ⟨g0, 0, none⟩) NN v86c)))
                    have HAL := hid (show tAll w zs r0 r1 left top corner = gridL f nt k 0 from by unfold tAll; rw [HF.out, HTL.out, HLL.out, HKL.out])
                    have HAI2 := hid (show allIn most (tAll w zs r0 r1 left top corner) = true from by rw [HAL.out, allIn_iff]; exact (gridL_all f nt k).2 fun a ha b hb => HA.out a b ha hb)
                    have HC0 := hid (show tCode w h mx zs r0 r1 r2 r3 left top corner = 0 by unfold tCode; rw [if_neg HNV.out, if_neg HNI0.out, if_neg HNE.out, if_neg HX.out, HMO.out, if_neg (by rw [HGG.out]; simp), if_neg (by rw [HAI2.out]; simp)])
                    have HTI := hid (show ∀ x, tIf w h mx zs r0 r1 r2 r3 left top corner x = x from fun x => by unfold tIf; rw [if_pos HC0.out])
                    have HTLL := hid (show tList w h mx zs r0 r1 r2 r3 left top corner = fillL f nt k 0 NN from by unfold tList; rw [if_pos HC0.out, HAL.out, ← HNN.out, ← HKL.out, fillL_all])
                    have q168 := H167.out.cell 2 rfl 0 rfl
                    have q169 := H167.out.cell 2 rfl 1 rfl
                    have q170 := H167.out.cell 2 rfl 2 rfl
                    have q171 := H167.out.cell 2 rfl 3 rfl
                    refine bodyPost_ret (v := .tuple #[.agg #[.int .i64 nt, .int .i64 nl, .int .i64 most, .slice (some ⟨g0, 0, none⟩) NN v86c], .int .i64 0]) ?_ rfl ⟨_, by rw [HTI.out, HTI.out, HTI.out, HC0.out, HMO.out, ← HQL.out, ← HQT.out], by rw [HTLL.out, hB]; exact H167.out.own 0 rfl, by first | exact H167.out.below | exact H167.out.below'⟩
                    simp [results, Try.results45, go_sem, q168, q169, q170, q171]
          · skip
            have ht2 : ((nt : Int) != r2 - r0) = true := by simpa using ht1
            have ht3 : ((nt : Int) == r2 - r0) = false := by simpa using ht1
            have HX := hid (show ¬ ((left.length : Int) = r3 - r1 ∧ (top.length : Int) = r2 - r0) by rw [HLL.out, HTL.out]; exact fun e => ht1 e.2)
            clear hl1 ht1
            have H172 := hid H8.out.drew
            refine wp_region_held_drew (S := (fun w' => w'.cell? ⟨B + 1, 0, none⟩ = some (.int .i64 r0) ∧ w'.cell? ⟨B + 1, 1, none⟩ = some (.int .i64 r1) ∧ w'.cell? ⟨B + 1, 2, none⟩ = some (.int .i64 r2) ∧ w'.cell? ⟨B + 1, 3, none⟩ = some (.int .i64 r3) ∧ w'.cell? ⟨B, 0, none⟩ = some (.int .i64 w) ∧ w'.cell? ⟨B, 1, none⟩ = some (.int .i64 h) ∧ w'.cell? ⟨B, 2, none⟩ = some (.int .i64 mx) ∧ w'.cell? ⟨B, 3, none⟩ = some (.slice a n c))) (by kernel_rfl) ⟨H172.out.cell 1 rfl 0 rfl, H172.out.cell 1 rfl 1 rfl, H172.out.cell 1 rfl 2 rfl, H172.out.cell 1 rfl 3 rfl, H172.out.cell 2 rfl 0 rfl, H172.out.cell 2 rfl 1 rfl, H172.out.cell 2 rfl 2 rfl, H172.out.cell 2 rfl 3 rfl⟩ (fun hHeld => ?_)
            generalize w7.drew = k173 at *
            refine wpAnyH_take (i := 0) (oi := _) (v := ?_) rfl (by kernel_rfl) (by kernel_rfl) (by kernel_rfl) (fun _ _ _ h => h) (Or.inl ⟨by rfl, ?_⟩) (by assumption) ?_
            rotate_left
            focus (intro wS hSw; (try dsimp only at hSw); go_simp; (try with_reducible rfl))
            try simp only [Act.put, List.getElem_toArray, List.getElem_cons_zero, List.getElem_cons_succ, List.setIfInBounds_toArray, List.set_cons_zero, List.set_cons_succ]
            refine wpAnyH_ready (rs := [1]) (by kernel_rfl) (by simp) (AllReadyH.cons (o := _) rfl (fun K hK => ?_) AllReadyH.nil)
            go_simp
            go_at_call 68
            refine (qfull_any _ _ _ _ _).mono ?_
            rintro e w174 ⟨rfl, hb⟩
            have H175 := hid (H172.out.call hb)
            clear hb
            rw [HFU.out]
            refine hK.out _ _ ?_ (fun hHeld2 => ?_)
            focus ((try dsimp only); (exact ⟨H175.out.cell 1 rfl 0 rfl, H175.out.cell 1 rfl 1 rfl, H175.out.cell 1 rfl 2 rfl, H175.out.cell 1 rfl 3 rfl, H175.out.cell 2 rfl 0 rfl, H175.out.cell 2 rfl 1 rfl, H175.out.cell 2 rfl 2 rfl, H175.out.cell 2 rfl 3 rfl⟩))
            clear hK K
            try simp only [Act.put, List.getElem_toArray, List.getElem_cons_zero, List.getElem_cons_succ, List.setIfInBounds_toArray, List.set_cons_zero, List.set_cons_succ]
            clear hHeld
            have hHeld := hHeld2
            clear hHeld2
            refine wpAnyH_take (i := 2) (oi := _) (v := ?_) rfl (by kernel_rfl) (by kernel_rfl) (by kernel_rfl) (fun _ _ _ h => h) (Or.inl ⟨by rfl, ?_⟩) (by assumption) ?_
            rotate_left
            focus (intro wS hSw; (try dsimp only at hSw); go_simp; (try with_reducible rfl))
            try simp only [Act.put, List.getElem_toArray, List.getElem_cons_zero, List.getElem_cons_succ, List.setIfInBounds_toArray, List.set_cons_zero, List.set_cons_succ]
            refine wpAnyH_take (i := 3) (oi := _) (v := ?_) rfl (by kernel_rfl) (by kernel_rfl) (by kernel_rfl) (fun _ _ _ h => h) (Or.inl ⟨by rfl, ?_⟩) (by assumption) ?_
            rotate_left
            focus (intro wS hSw; (try dsimp only at hSw); go_simp; (try with_reducible rfl))
            try simp only [Act.put, List.getElem_toArray, List.getElem_cons_zero, List.getElem_cons_succ, List.setIfInBounds_toArray, List.set_cons_zero, List.set_cons_succ]
            refine wpAnyH_take (i := 4) (oi := _) (v := ?_) rfl (by kernel_rfl) (by kernel_rfl) (by kernel_rfl) (fun _ _ _ h => h) (Or.inl ⟨by rfl, ?_⟩) (by assumption) ?_
            rotate_left
            focus (intro wS hSw; (try dsimp only at hSw); go_simp; (try with_reducible rfl))
            try simp only [Act.put, List.getElem_toArray, List.getElem_cons_zero, List.getElem_cons_succ, List.setIfInBounds_toArray, List.set_cons_zero, List.set_cons_succ]
            refine wpAnyH_take (i := 5) (oi := _) (v := ?_) rfl (by kernel_rfl) (by kernel_rfl) (by kernel_rfl) (fun _ _ _ h => h) (Or.inl ⟨by rfl, ?_⟩) (by assumption) ?_
            rotate_left
            focus (intro wS hSw; (try dsimp only at hSw); go_simp; (try with_reducible rfl))
            try simp only [Act.put, List.getElem_toArray, List.getElem_cons_zero, List.getElem_cons_succ, List.setIfInBounds_toArray, List.set_cons_zero, List.set_cons_succ]
            refine wpAnyH_ready (rs := [6]) (by kernel_rfl) (by simp) (AllReadyH.cons (o := _) rfl (fun K hK => ?_) AllReadyH.nil)
            go_simp
            go_at_call 70
            refine (qcover_any _ _ _ _ _ _ _).mono ?_
            rintro e w176 ⟨rfl, hb⟩
            have H177 := hid (H175.out.call hb)
            clear hb
            refine hK.out _ _ ?_ (fun hHeld2 => ?_)
            focus ((try dsimp only); (exact ⟨H177.out.cell 1 rfl 0 rfl, H177.out.cell 1 rfl 1 rfl, H177.out.cell 1 rfl 2 rfl, H177.out.cell 1 rfl 3 rfl, H177.out.cell 2 rfl 0 rfl, H177.out.cell 2 rfl 1 rfl, H177.out.cell 2 rfl 2 rfl, H177.out.cell 2 rfl 3 rfl⟩))
            clear hK K
            try simp only [Act.put, List.getElem_toArray, List.getElem_cons_zero, List.getElem_cons_succ, List.setIfInBounds_toArray, List.set_cons_zero, List.set_cons_succ]
            clear hHeld
            have hHeld := hHeld2
            clear hHeld2
            refine wpAnyH_ready (rs := [7]) (by kernel_rfl) (by simp) (AllReadyH.cons (o := _) rfl (fun K hK => ?_) AllReadyH.nil)
            go_simp
            go_at_call 69
            refine (qinside_any _ _ _ _ _ _ _ _ _).mono ?_
            rintro e w178 ⟨rfl, hb⟩
            have H179 := hid (H177.out.call hb)
            clear hb
            rw [HIN.out]
            refine hK.out _ _ ?_ (fun hHeld2 => ?_)
            focus ((try dsimp only); (exact ⟨H179.out.cell 1 rfl 0 rfl, H179.out.cell 1 rfl 1 rfl, H179.out.cell 1 rfl 2 rfl, H179.out.cell 1 rfl 3 rfl, H179.out.cell 2 rfl 0 rfl, H179.out.cell 2 rfl 1 rfl, H179.out.cell 2 rfl 2 rfl, H179.out.cell 2 rfl 3 rfl⟩))
            clear hK K
            try simp only [Act.put, List.getElem_toArray, List.getElem_cons_zero, List.getElem_cons_succ, List.setIfInBounds_toArray, List.set_cons_zero, List.set_cons_succ]
            clear hHeld
            have hHeld := hHeld2
            clear hHeld2
            refine wpAnyH_take (i := 8) (oi := _) (v := ?_) rfl (by kernel_rfl) (by kernel_rfl) (by kernel_rfl) (fun _ _ _ h => h) (Or.inl ⟨by rfl, ?_⟩) (by assumption) ?_
            rotate_left
            focus (intro wS hSw; (try dsimp only at hSw); go_simp; (try with_reducible rfl))
            try simp only [Act.put, List.getElem_toArray, List.getElem_cons_zero, List.getElem_cons_succ, List.setIfInBounds_toArray, List.set_cons_zero, List.set_cons_succ]
            refine wpAnyH_take (i := 9) (oi := _) (v := ?_) rfl (by kernel_rfl) (by kernel_rfl) (by kernel_rfl) (fun _ _ _ h => h) (Or.inl ⟨by rfl, ?_⟩) (by assumption) ?_
            rotate_left
            focus (intro wS hSw; (try dsimp only at hSw); go_simp; (try with_reducible rfl))
            try simp only [Act.put, List.getElem_toArray, List.getElem_cons_zero, List.getElem_cons_succ, List.setIfInBounds_toArray, List.set_cons_zero, List.set_cons_succ]
            refine wpAnyH_take (i := 10) (oi := _) (v := ?_) rfl (by kernel_rfl) (by kernel_rfl) (by kernel_rfl) (fun _ _ _ h => h) (Or.inl ⟨by rfl, ?_⟩) (by assumption) ?_
            rotate_left
            focus (intro wS hSw; (try dsimp only at hSw); go_simp; (try with_reducible rfl))
            try simp only [Act.put, List.getElem_toArray, List.getElem_cons_zero, List.getElem_cons_succ, List.setIfInBounds_toArray, List.set_cons_zero, List.set_cons_succ]
            refine wpAnyH_take (i := 11) (oi := _) (v := ?_) rfl (by kernel_rfl) (by kernel_rfl) (by kernel_rfl) (fun _ _ _ h => h) (Or.inl ⟨by rfl, ?_⟩) (by assumption) ?_
            rotate_left
            focus (intro wS hSw; (try dsimp only at hSw); go_simp; (try with_reducible rfl))
            try simp only [Act.put, List.getElem_toArray, List.getElem_cons_zero, List.getElem_cons_succ, List.setIfInBounds_toArray, List.set_cons_zero, List.set_cons_succ]
            refine wpAnyH_take (i := 12) (oi := _) (v := ?_) rfl (by kernel_rfl) (by kernel_rfl) (by kernel_rfl) (fun _ _ _ h => h) (Or.inl ⟨by rfl, ?_⟩) (by assumption) ?_
            rotate_left
            focus (intro wS hSw; (try dsimp only at hSw); go_simp; (try with_reducible rfl))
            try simp only [Act.put, List.getElem_toArray, List.getElem_cons_zero, List.getElem_cons_succ, List.setIfInBounds_toArray, List.set_cons_zero, List.set_cons_succ]
            refine wpAnyH_take (i := 13) (oi := _) (v := ?_) rfl (by kernel_rfl) (by kernel_rfl) (by kernel_rfl) (fun _ _ _ h => h) (Or.inl ⟨by rfl, ?_⟩) (by assumption) ?_
            rotate_left
            focus (intro wS hSw; (try dsimp only at hSw); go_simp; (try with_reducible rfl))
            try simp only [Act.put, List.getElem_toArray, List.getElem_cons_zero, List.getElem_cons_succ, List.setIfInBounds_toArray, List.set_cons_zero, List.set_cons_succ]
            refine wpAnyH_take (i := 14) (oi := _) (v := ?_) rfl (by kernel_rfl) (by kernel_rfl) (by kernel_rfl) (fun _ _ _ h => h) (Or.inl ⟨by rfl, ?_⟩) (by assumption) ?_
            rotate_left
            focus (intro wS hSw; (try dsimp only at hSw); go_simp; (try with_reducible rfl))
            try simp only [Act.put, List.getElem_toArray, List.getElem_cons_zero, List.getElem_cons_succ, List.setIfInBounds_toArray, List.set_cons_zero, List.set_cons_succ]
            refine wpAnyH_take (i := 15) (oi := _) (v := ?_) rfl (by kernel_rfl) (by kernel_rfl) (by kernel_rfl) (fun _ _ _ h => h) (Or.inl ⟨by rfl, ?_⟩) (by assumption) ?_
            rotate_left
            focus (intro wS hSw; (try dsimp only at hSw); go_simp; (try with_reducible rfl))
            try simp only [Act.put, List.getElem_toArray, List.getElem_cons_zero, List.getElem_cons_succ, List.setIfInBounds_toArray, List.set_cons_zero, List.set_cons_succ]
            refine wpAnyH_take (i := 16) (oi := _) (v := ?_) rfl (by kernel_rfl) (by kernel_rfl) (by kernel_rfl) (fun _ _ _ h => h) (Or.inl ⟨by rfl, ?_⟩) (by assumption) ?_
            rotate_left
            focus (intro wS hSw; (try dsimp only at hSw); go_simp; (try with_reducible rfl))
            try simp only [Act.put, List.getElem_toArray, List.getElem_cons_zero, List.getElem_cons_succ, List.setIfInBounds_toArray, List.set_cons_zero, List.set_cons_succ]
            refine wpAnyH_take (i := 17) (oi := _) (v := ?_) rfl (by kernel_rfl) (by kernel_rfl) (by kernel_rfl) (fun _ _ _ h => h) (Or.inl ⟨by rfl, ?_⟩) (by assumption) ?_
            rotate_left
            focus (intro wS hSw; (try dsimp only at hSw); go_simp; (try with_reducible rfl))
            try simp only [Act.put, List.getElem_toArray, List.getElem_cons_zero, List.getElem_cons_succ, List.setIfInBounds_toArray, List.set_cons_zero, List.set_cons_succ]
            refine wpAnyH_take (i := 18) (oi := _) (v := ?_) rfl (by kernel_rfl) (by kernel_rfl) (by kernel_rfl) (fun _ _ _ h => h) (Or.inl ⟨by rfl, ?_⟩) (by assumption) ?_
            rotate_left
            focus (intro wS hSw; (try dsimp only at hSw); go_simp; (try with_reducible rfl))
            try simp only [Act.put, List.getElem_toArray, List.getElem_cons_zero, List.getElem_cons_succ, List.setIfInBounds_toArray, List.set_cons_zero, List.set_cons_succ]
            refine wpAnyH_take (i := 19) (oi := _) (v := ?_) rfl (by kernel_rfl) (by kernel_rfl) (by kernel_rfl) (fun _ _ _ h => h) (Or.inl ⟨by rfl, ?_⟩) (by assumption) ?_
            rotate_left
            focus (intro wS hSw; (try dsimp only at hSw); go_simp; (try with_reducible rfl))
            try simp only [Act.put, List.getElem_toArray, List.getElem_cons_zero, List.getElem_cons_succ, List.setIfInBounds_toArray, List.set_cons_zero, List.set_cons_succ]
            refine wpAnyH_take (i := 20) (oi := _) (v := ?_) rfl (by kernel_rfl) (by kernel_rfl) (by kernel_rfl) (fun _ _ _ h => h) (Or.inl ⟨by rfl, ?_⟩) (by assumption) ?_
            rotate_left
            focus (intro wS hSw; (try dsimp only at hSw); go_simp; (try with_reducible rfl))
            try simp only [Act.put, List.getElem_toArray, List.getElem_cons_zero, List.getElem_cons_succ, List.setIfInBounds_toArray, List.set_cons_zero, List.set_cons_succ]
            refine wpAnyH_take (i := 21) (oi := _) (v := ?_) rfl (by kernel_rfl) (by kernel_rfl) (by kernel_rfl) (fun _ _ _ h => h) (Or.inl ⟨by rfl, ?_⟩) (by assumption) ?_
            rotate_left
            focus (intro wS hSw; (try dsimp only at hSw); go_simp; (try with_reducible rfl))
            try simp only [Act.put, List.getElem_toArray, List.getElem_cons_zero, List.getElem_cons_succ, List.setIfInBounds_toArray, List.set_cons_zero, List.set_cons_succ]
            refine wpAnyH_take (i := 22) (oi := _) (v := ?_) rfl (by kernel_rfl) (by kernel_rfl) (by kernel_rfl) (fun _ _ _ h => h) (Or.inl ⟨by rfl, ?_⟩) (by assumption) ?_
            rotate_left
            focus (intro wS hSw; (try dsimp only at hSw); go_simp; (try with_reducible rfl))
            try simp only [Act.put, List.getElem_toArray, List.getElem_cons_zero, List.getElem_cons_succ, List.setIfInBounds_toArray, List.set_cons_zero, List.set_cons_succ]
            refine wpAnyH_take (i := 23) (oi := _) (v := ?_) rfl (by kernel_rfl) (by kernel_rfl) (by kernel_rfl) (fun _ _ _ h => h) (Or.inl ⟨by rfl, ?_⟩) (by assumption) ?_
            rotate_left
            focus (intro wS hSw; (try dsimp only at hSw); go_simp; (try with_reducible rfl))
            try simp only [Act.put, List.getElem_toArray, List.getElem_cons_zero, List.getElem_cons_succ, List.setIfInBounds_toArray, List.set_cons_zero, List.set_cons_succ]
            refine wpAnyH_take (i := 24) (oi := _) (v := ?_) rfl (by kernel_rfl) (by kernel_rfl) (by kernel_rfl) (fun _ _ _ h => h) (Or.inl ⟨by rfl, ?_⟩) (by assumption) ?_
            rotate_left
            focus (intro wS hSw; (try dsimp only at hSw); go_simp; (try with_reducible rfl))
            try simp only [Act.put, List.getElem_toArray, List.getElem_cons_zero, List.getElem_cons_succ, List.setIfInBounds_toArray, List.set_cons_zero, List.set_cons_succ]
            refine wpAnyH_take (i := 25) (oi := _) (v := ?_) rfl (by kernel_rfl) (by kernel_rfl) (by kernel_rfl) (fun _ _ _ h => h) (Or.inl ⟨by rfl, ?_⟩) (by assumption) ?_
            rotate_left
            focus (intro wS hSw; (try dsimp only at hSw); go_simp; (try with_reducible rfl))
            try simp only [Act.put, List.getElem_toArray, List.getElem_cons_zero, List.getElem_cons_succ, List.setIfInBounds_toArray, List.set_cons_zero, List.set_cons_succ]
            refine wpAnyH_take (i := 26) (oi := _) (v := ?_) rfl (by kernel_rfl) (by kernel_rfl) (by kernel_rfl) (fun _ _ _ h => h) (Or.inl ⟨by rfl, ?_⟩) (by assumption) ?_
            rotate_left
            focus (intro wS hSw; (try dsimp only at hSw); go_simp; (try with_reducible rfl))
            try simp only [Act.put, List.getElem_toArray, List.getElem_cons_zero, List.getElem_cons_succ, List.setIfInBounds_toArray, List.set_cons_zero, List.set_cons_succ]
            refine wpAnyH_take (i := 27) (oi := _) (v := ?_) rfl (by kernel_rfl) (by kernel_rfl) (by kernel_rfl) (fun _ _ _ h => h) (Or.inl ⟨by rfl, ?_⟩) (by assumption) ?_
            rotate_left
            focus (intro wS hSw; (try dsimp only at hSw); go_simp; (try with_reducible rfl))
            try simp only [Act.put, List.getElem_toArray, List.getElem_cons_zero, List.getElem_cons_succ, List.setIfInBounds_toArray, List.set_cons_zero, List.set_cons_succ]
            refine wpAnyH_take (i := 28) (oi := _) (v := ?_) rfl (by kernel_rfl) (by kernel_rfl) (by kernel_rfl) (fun _ _ _ h => h) (Or.inl ⟨by rfl, ?_⟩) (by assumption) ?_
            rotate_left
            focus (intro wS hSw; (try dsimp only at hSw); go_simp; (try with_reducible rfl))
            try simp only [Act.put, List.getElem_toArray, List.getElem_cons_zero, List.getElem_cons_succ, List.setIfInBounds_toArray, List.set_cons_zero, List.set_cons_succ]
            refine wpAnyH_take (i := 29) (oi := _) (v := ?_) rfl (by kernel_rfl) (by kernel_rfl) (by kernel_rfl) (fun _ _ _ h => h) (Or.inl ⟨by rfl, ?_⟩) (by assumption) ?_
            rotate_left
            focus (intro wS hSw; (try dsimp only at hSw); go_simp; (try with_reducible rfl))
            try simp only [Act.put, List.getElem_toArray, List.getElem_cons_zero, List.getElem_cons_succ, List.setIfInBounds_toArray, List.set_cons_zero, List.set_cons_succ]
            refine wpAnyH_done (by kernel_rfl) ?_ _
            try clear hHeld
            have z180 := H179.out.cell 0 rfl 0 rfl
            have z181 := H179.out.free 0 rfl 0
            have z182 := H179.out.cell 0 rfl 1 rfl
            have z183 := H179.out.free 0 rfl 1
            have z184 := H179.out.cell 0 rfl 2 rfl
            have z185 := H179.out.free 0 rfl 2
            have z186 := H179.out.cell 0 rfl 3 rfl
            have z187 := H179.out.free 0 rfl 3
            go_wp2_with fail
            clear z180 z181 z182 z183 z184 z185 z186 z187
            have H188 := hid (show St B W [.cells (B + 1 + 1) #[.int .i64 0, .int .i64 0, .int .i64 0, .slice none 0 0] 26, .cells (B + 1) #[.int .i64 r0, .int .i64 r1, .int .i64 r2, .int .i64 r3] 39, .cells B #[.int .i64 w, .int .i64 h, .int .i64 mx, .slice a n c] 26] [] ((((w178.setCell ⟨B + 1 + 1, 0, none⟩ (.int .i64 0)).setCell ⟨B + 1 + 1, 1, none⟩ (.int .i64 0)).setCell ⟨B + 1 + 1, 2, none⟩ (.int .i64 0)).setCell ⟨B + 1 + 1, 3, none⟩ (.slice none 0 0)) from (H179.out.set4 0 rfl (.int .i64 0) (.int .i64 0) (.int .i64 0) (.slice none 0 0)))
            have q189 := H188.out.cell 0 rfl 0 rfl
            have q190 := H188.out.cell 0 rfl 1 rfl
            have q191 := H188.out.cell 0 rfl 2 rfl
            have q192 := H188.out.cell 0 rfl 3 rfl
            refine bodyPost_ret (v := .tuple #[.agg #[.int .i64 0, .int .i64 0, .int .i64 0, .slice none 0 0], .int .i64 8]) ?_ rfl (tile_no (by unfold tCode; rw [if_neg HNV.out, if_neg HNI0.out, if_neg HNE.out, if_pos HX.out]) (by omega) (by first | exact H188.out.below | exact H188.out.below'))
            simp [results, Try.results45, go_sem, q189, q190, q191, q192]
        · skip
          have hl2 : ((nl : Int) != r3 - r1) = true := by simpa using hl1
          have hl3 : ((nl : Int) == r3 - r1) = false := by simpa using hl1
          have HX := hid (show ¬ ((left.length : Int) = r3 - r1 ∧ (top.length : Int) = r2 - r0) by rw [HLL.out]; exact fun e => hl1 e.1)
          clear hl1
          have H193 := hid H8.out.drew
          refine wp_region_held_drew (S := (fun w' => w'.cell? ⟨B + 1, 0, none⟩ = some (.int .i64 r0) ∧ w'.cell? ⟨B + 1, 1, none⟩ = some (.int .i64 r1) ∧ w'.cell? ⟨B + 1, 2, none⟩ = some (.int .i64 r2) ∧ w'.cell? ⟨B + 1, 3, none⟩ = some (.int .i64 r3) ∧ w'.cell? ⟨B, 0, none⟩ = some (.int .i64 w) ∧ w'.cell? ⟨B, 1, none⟩ = some (.int .i64 h) ∧ w'.cell? ⟨B, 2, none⟩ = some (.int .i64 mx) ∧ w'.cell? ⟨B, 3, none⟩ = some (.slice a n c))) (by kernel_rfl) ⟨H193.out.cell 1 rfl 0 rfl, H193.out.cell 1 rfl 1 rfl, H193.out.cell 1 rfl 2 rfl, H193.out.cell 1 rfl 3 rfl, H193.out.cell 2 rfl 0 rfl, H193.out.cell 2 rfl 1 rfl, H193.out.cell 2 rfl 2 rfl, H193.out.cell 2 rfl 3 rfl⟩ (fun hHeld => ?_)
          generalize w7.drew = k194 at *
          refine wpAnyH_take (i := 0) (oi := _) (v := ?_) rfl (by kernel_rfl) (by kernel_rfl) (by kernel_rfl) (fun _ _ _ h => h) (Or.inl ⟨by rfl, ?_⟩) (by assumption) ?_
          rotate_left
          focus (intro wS hSw; (try dsimp only at hSw); go_simp; (try with_reducible rfl))
          try simp only [Act.put, List.getElem_toArray, List.getElem_cons_zero, List.getElem_cons_succ, List.setIfInBounds_toArray, List.set_cons_zero, List.set_cons_succ]
          refine wpAnyH_ready (rs := [1]) (by kernel_rfl) (by simp) (AllReadyH.cons (o := _) rfl (fun K hK => ?_) AllReadyH.nil)
          go_simp
          go_at_call 68
          refine (qfull_any _ _ _ _ _).mono ?_
          rintro e w195 ⟨rfl, hb⟩
          have H196 := hid (H193.out.call hb)
          clear hb
          rw [HFU.out]
          refine hK.out _ _ ?_ (fun hHeld2 => ?_)
          focus ((try dsimp only); (exact ⟨H196.out.cell 1 rfl 0 rfl, H196.out.cell 1 rfl 1 rfl, H196.out.cell 1 rfl 2 rfl, H196.out.cell 1 rfl 3 rfl, H196.out.cell 2 rfl 0 rfl, H196.out.cell 2 rfl 1 rfl, H196.out.cell 2 rfl 2 rfl, H196.out.cell 2 rfl 3 rfl⟩))
          clear hK K
          try simp only [Act.put, List.getElem_toArray, List.getElem_cons_zero, List.getElem_cons_succ, List.setIfInBounds_toArray, List.set_cons_zero, List.set_cons_succ]
          clear hHeld
          have hHeld := hHeld2
          clear hHeld2
          refine wpAnyH_take (i := 2) (oi := _) (v := ?_) rfl (by kernel_rfl) (by kernel_rfl) (by kernel_rfl) (fun _ _ _ h => h) (Or.inl ⟨by rfl, ?_⟩) (by assumption) ?_
          rotate_left
          focus (intro wS hSw; (try dsimp only at hSw); go_simp; (try with_reducible rfl))
          try simp only [Act.put, List.getElem_toArray, List.getElem_cons_zero, List.getElem_cons_succ, List.setIfInBounds_toArray, List.set_cons_zero, List.set_cons_succ]
          refine wpAnyH_take (i := 3) (oi := _) (v := ?_) rfl (by kernel_rfl) (by kernel_rfl) (by kernel_rfl) (fun _ _ _ h => h) (Or.inl ⟨by rfl, ?_⟩) (by assumption) ?_
          rotate_left
          focus (intro wS hSw; (try dsimp only at hSw); go_simp; (try with_reducible rfl))
          try simp only [Act.put, List.getElem_toArray, List.getElem_cons_zero, List.getElem_cons_succ, List.setIfInBounds_toArray, List.set_cons_zero, List.set_cons_succ]
          refine wpAnyH_take (i := 4) (oi := _) (v := ?_) rfl (by kernel_rfl) (by kernel_rfl) (by kernel_rfl) (fun _ _ _ h => h) (Or.inl ⟨by rfl, ?_⟩) (by assumption) ?_
          rotate_left
          focus (intro wS hSw; (try dsimp only at hSw); go_simp; (try with_reducible rfl))
          try simp only [Act.put, List.getElem_toArray, List.getElem_cons_zero, List.getElem_cons_succ, List.setIfInBounds_toArray, List.set_cons_zero, List.set_cons_succ]
          refine wpAnyH_take (i := 5) (oi := _) (v := ?_) rfl (by kernel_rfl) (by kernel_rfl) (by kernel_rfl) (fun _ _ _ h => h) (Or.inl ⟨by rfl, ?_⟩) (by assumption) ?_
          rotate_left
          focus (intro wS hSw; (try dsimp only at hSw); go_simp; (try with_reducible rfl))
          try simp only [Act.put, List.getElem_toArray, List.getElem_cons_zero, List.getElem_cons_succ, List.setIfInBounds_toArray, List.set_cons_zero, List.set_cons_succ]
          refine wpAnyH_ready (rs := [6]) (by kernel_rfl) (by simp) (AllReadyH.cons (o := _) rfl (fun K hK => ?_) AllReadyH.nil)
          go_simp
          go_at_call 70
          refine (qcover_any _ _ _ _ _ _ _).mono ?_
          rintro e w197 ⟨rfl, hb⟩
          have H198 := hid (H196.out.call hb)
          clear hb
          refine hK.out _ _ ?_ (fun hHeld2 => ?_)
          focus ((try dsimp only); (exact ⟨H198.out.cell 1 rfl 0 rfl, H198.out.cell 1 rfl 1 rfl, H198.out.cell 1 rfl 2 rfl, H198.out.cell 1 rfl 3 rfl, H198.out.cell 2 rfl 0 rfl, H198.out.cell 2 rfl 1 rfl, H198.out.cell 2 rfl 2 rfl, H198.out.cell 2 rfl 3 rfl⟩))
          clear hK K
          try simp only [Act.put, List.getElem_toArray, List.getElem_cons_zero, List.getElem_cons_succ, List.setIfInBounds_toArray, List.set_cons_zero, List.set_cons_succ]
          clear hHeld
          have hHeld := hHeld2
          clear hHeld2
          refine wpAnyH_ready (rs := [7]) (by kernel_rfl) (by simp) (AllReadyH.cons (o := _) rfl (fun K hK => ?_) AllReadyH.nil)
          go_simp
          go_at_call 69
          refine (qinside_any _ _ _ _ _ _ _ _ _).mono ?_
          rintro e w199 ⟨rfl, hb⟩
          have H200 := hid (H198.out.call hb)
          clear hb
          rw [HIN.out]
          refine hK.out _ _ ?_ (fun hHeld2 => ?_)
          focus ((try dsimp only); (exact ⟨H200.out.cell 1 rfl 0 rfl, H200.out.cell 1 rfl 1 rfl, H200.out.cell 1 rfl 2 rfl, H200.out.cell 1 rfl 3 rfl, H200.out.cell 2 rfl 0 rfl, H200.out.cell 2 rfl 1 rfl, H200.out.cell 2 rfl 2 rfl, H200.out.cell 2 rfl 3 rfl⟩))
          clear hK K
          try simp only [Act.put, List.getElem_toArray, List.getElem_cons_zero, List.getElem_cons_succ, List.setIfInBounds_toArray, List.set_cons_zero, List.set_cons_succ]
          clear hHeld
          have hHeld := hHeld2
          clear hHeld2
          refine wpAnyH_take (i := 8) (oi := _) (v := ?_) rfl (by kernel_rfl) (by kernel_rfl) (by kernel_rfl) (fun _ _ _ h => h) (Or.inl ⟨by rfl, ?_⟩) (by assumption) ?_
          rotate_left
          focus (intro wS hSw; (try dsimp only at hSw); go_simp; (try with_reducible rfl))
          try simp only [Act.put, List.getElem_toArray, List.getElem_cons_zero, List.getElem_cons_succ, List.setIfInBounds_toArray, List.set_cons_zero, List.set_cons_succ]
          refine wpAnyH_take (i := 9) (oi := _) (v := ?_) rfl (by kernel_rfl) (by kernel_rfl) (by kernel_rfl) (fun _ _ _ h => h) (Or.inl ⟨by rfl, ?_⟩) (by assumption) ?_
          rotate_left
          focus (intro wS hSw; (try dsimp only at hSw); go_simp; (try with_reducible rfl))
          try simp only [Act.put, List.getElem_toArray, List.getElem_cons_zero, List.getElem_cons_succ, List.setIfInBounds_toArray, List.set_cons_zero, List.set_cons_succ]
          refine wpAnyH_take (i := 10) (oi := _) (v := ?_) rfl (by kernel_rfl) (by kernel_rfl) (by kernel_rfl) (fun _ _ _ h => h) (Or.inl ⟨by rfl, ?_⟩) (by assumption) ?_
          rotate_left
          focus (intro wS hSw; (try dsimp only at hSw); go_simp; (try with_reducible rfl))
          try simp only [Act.put, List.getElem_toArray, List.getElem_cons_zero, List.getElem_cons_succ, List.setIfInBounds_toArray, List.set_cons_zero, List.set_cons_succ]
          refine wpAnyH_take (i := 11) (oi := _) (v := ?_) rfl (by kernel_rfl) (by kernel_rfl) (by kernel_rfl) (fun _ _ _ h => h) (Or.inl ⟨by rfl, ?_⟩) (by assumption) ?_
          rotate_left
          focus (intro wS hSw; (try dsimp only at hSw); go_simp; (try with_reducible rfl))
          try simp only [Act.put, List.getElem_toArray, List.getElem_cons_zero, List.getElem_cons_succ, List.setIfInBounds_toArray, List.set_cons_zero, List.set_cons_succ]
          refine wpAnyH_take (i := 12) (oi := _) (v := ?_) rfl (by kernel_rfl) (by kernel_rfl) (by kernel_rfl) (fun _ _ _ h => h) (Or.inl ⟨by rfl, ?_⟩) (by assumption) ?_
          rotate_left
          focus (intro wS hSw; (try dsimp only at hSw); go_simp; (try with_reducible rfl))
          try simp only [Act.put, List.getElem_toArray, List.getElem_cons_zero, List.getElem_cons_succ, List.setIfInBounds_toArray, List.set_cons_zero, List.set_cons_succ]
          refine wpAnyH_take (i := 13) (oi := _) (v := ?_) rfl (by kernel_rfl) (by kernel_rfl) (by kernel_rfl) (fun _ _ _ h => h) (Or.inl ⟨by rfl, ?_⟩) (by assumption) ?_
          rotate_left
          focus (intro wS hSw; (try dsimp only at hSw); go_simp; (try with_reducible rfl))
          try simp only [Act.put, List.getElem_toArray, List.getElem_cons_zero, List.getElem_cons_succ, List.setIfInBounds_toArray, List.set_cons_zero, List.set_cons_succ]
          refine wpAnyH_take (i := 14) (oi := _) (v := ?_) rfl (by kernel_rfl) (by kernel_rfl) (by kernel_rfl) (fun _ _ _ h => h) (Or.inl ⟨by rfl, ?_⟩) (by assumption) ?_
          rotate_left
          focus (intro wS hSw; (try dsimp only at hSw); go_simp; (try with_reducible rfl))
          try simp only [Act.put, List.getElem_toArray, List.getElem_cons_zero, List.getElem_cons_succ, List.setIfInBounds_toArray, List.set_cons_zero, List.set_cons_succ]
          refine wpAnyH_take (i := 15) (oi := _) (v := ?_) rfl (by kernel_rfl) (by kernel_rfl) (by kernel_rfl) (fun _ _ _ h => h) (Or.inl ⟨by rfl, ?_⟩) (by assumption) ?_
          rotate_left
          focus (intro wS hSw; (try dsimp only at hSw); go_simp; (try with_reducible rfl))
          try simp only [Act.put, List.getElem_toArray, List.getElem_cons_zero, List.getElem_cons_succ, List.setIfInBounds_toArray, List.set_cons_zero, List.set_cons_succ]
          refine wpAnyH_take (i := 16) (oi := _) (v := ?_) rfl (by kernel_rfl) (by kernel_rfl) (by kernel_rfl) (fun _ _ _ h => h) (Or.inl ⟨by rfl, ?_⟩) (by assumption) ?_
          rotate_left
          focus (intro wS hSw; (try dsimp only at hSw); go_simp; (try with_reducible rfl))
          try simp only [Act.put, List.getElem_toArray, List.getElem_cons_zero, List.getElem_cons_succ, List.setIfInBounds_toArray, List.set_cons_zero, List.set_cons_succ]
          refine wpAnyH_take (i := 17) (oi := _) (v := ?_) rfl (by kernel_rfl) (by kernel_rfl) (by kernel_rfl) (fun _ _ _ h => h) (Or.inl ⟨by rfl, ?_⟩) (by assumption) ?_
          rotate_left
          focus (intro wS hSw; (try dsimp only at hSw); go_simp; (try with_reducible rfl))
          try simp only [Act.put, List.getElem_toArray, List.getElem_cons_zero, List.getElem_cons_succ, List.setIfInBounds_toArray, List.set_cons_zero, List.set_cons_succ]
          refine wpAnyH_take (i := 18) (oi := _) (v := ?_) rfl (by kernel_rfl) (by kernel_rfl) (by kernel_rfl) (fun _ _ _ h => h) (Or.inl ⟨by rfl, ?_⟩) (by assumption) ?_
          rotate_left
          focus (intro wS hSw; (try dsimp only at hSw); go_simp; (try with_reducible rfl))
          try simp only [Act.put, List.getElem_toArray, List.getElem_cons_zero, List.getElem_cons_succ, List.setIfInBounds_toArray, List.set_cons_zero, List.set_cons_succ]
          refine wpAnyH_take (i := 19) (oi := _) (v := ?_) rfl (by kernel_rfl) (by kernel_rfl) (by kernel_rfl) (fun _ _ _ h => h) (Or.inl ⟨by rfl, ?_⟩) (by assumption) ?_
          rotate_left
          focus (intro wS hSw; (try dsimp only at hSw); go_simp; (try with_reducible rfl))
          try simp only [Act.put, List.getElem_toArray, List.getElem_cons_zero, List.getElem_cons_succ, List.setIfInBounds_toArray, List.set_cons_zero, List.set_cons_succ]
          refine wpAnyH_take (i := 20) (oi := _) (v := ?_) rfl (by kernel_rfl) (by kernel_rfl) (by kernel_rfl) (fun _ _ _ h => h) (Or.inl ⟨by rfl, ?_⟩) (by assumption) ?_
          rotate_left
          focus (intro wS hSw; (try dsimp only at hSw); go_simp; (try with_reducible rfl))
          try simp only [Act.put, List.getElem_toArray, List.getElem_cons_zero, List.getElem_cons_succ, List.setIfInBounds_toArray, List.set_cons_zero, List.set_cons_succ]
          refine wpAnyH_take (i := 21) (oi := _) (v := _) rfl (by kernel_rfl) (by kernel_rfl) (by kernel_rfl) (fun _ _ _ h => h) (Or.inr ⟨by rfl, rfl⟩) (by assumption) ?_
          try simp only [Act.put, List.getElem_toArray, List.getElem_cons_zero, List.getElem_cons_succ, List.setIfInBounds_toArray, List.set_cons_zero, List.set_cons_succ]
          refine wpAnyH_take (i := 22) (oi := _) (v := _) rfl (by kernel_rfl) (by kernel_rfl) (by kernel_rfl) (fun _ _ _ h => h) (Or.inr ⟨by rfl, rfl⟩) (by assumption) ?_
          try simp only [Act.put, List.getElem_toArray, List.getElem_cons_zero, List.getElem_cons_succ, List.setIfInBounds_toArray, List.set_cons_zero, List.set_cons_succ]
          refine wpAnyH_take (i := 23) (oi := _) (v := _) rfl (by kernel_rfl) (by kernel_rfl) (by kernel_rfl) (fun _ _ _ h => h) (Or.inr ⟨by rfl, rfl⟩) (by assumption) ?_
          try simp only [Act.put, List.getElem_toArray, List.getElem_cons_zero, List.getElem_cons_succ, List.setIfInBounds_toArray, List.set_cons_zero, List.set_cons_succ]
          refine wpAnyH_take (i := 24) (oi := _) (v := _) rfl (by kernel_rfl) (by kernel_rfl) (by kernel_rfl) (fun _ _ _ h => h) (Or.inr ⟨by rfl, rfl⟩) (by assumption) ?_
          try simp only [Act.put, List.getElem_toArray, List.getElem_cons_zero, List.getElem_cons_succ, List.setIfInBounds_toArray, List.set_cons_zero, List.set_cons_succ]
          refine wpAnyH_take (i := 25) (oi := _) (v := _) rfl (by kernel_rfl) (by kernel_rfl) (by kernel_rfl) (fun _ _ _ h => h) (Or.inr ⟨by rfl, rfl⟩) (by assumption) ?_
          try simp only [Act.put, List.getElem_toArray, List.getElem_cons_zero, List.getElem_cons_succ, List.setIfInBounds_toArray, List.set_cons_zero, List.set_cons_succ]
          refine wpAnyH_take (i := 26) (oi := _) (v := _) rfl (by kernel_rfl) (by kernel_rfl) (by kernel_rfl) (fun _ _ _ h => h) (Or.inr ⟨by rfl, rfl⟩) (by assumption) ?_
          try simp only [Act.put, List.getElem_toArray, List.getElem_cons_zero, List.getElem_cons_succ, List.setIfInBounds_toArray, List.set_cons_zero, List.set_cons_succ]
          refine wpAnyH_take (i := 27) (oi := _) (v := _) rfl (by kernel_rfl) (by kernel_rfl) (by kernel_rfl) (fun _ _ _ h => h) (Or.inr ⟨by rfl, rfl⟩) (by assumption) ?_
          try simp only [Act.put, List.getElem_toArray, List.getElem_cons_zero, List.getElem_cons_succ, List.setIfInBounds_toArray, List.set_cons_zero, List.set_cons_succ]
          refine wpAnyH_take (i := 28) (oi := _) (v := _) rfl (by kernel_rfl) (by kernel_rfl) (by kernel_rfl) (fun _ _ _ h => h) (Or.inr ⟨by rfl, rfl⟩) (by assumption) ?_
          try simp only [Act.put, List.getElem_toArray, List.getElem_cons_zero, List.getElem_cons_succ, List.setIfInBounds_toArray, List.set_cons_zero, List.set_cons_succ]
          refine wpAnyH_take (i := 29) (oi := _) (v := ?_) rfl (by kernel_rfl) (by kernel_rfl) (by kernel_rfl) (fun _ _ _ h => h) (Or.inl ⟨by rfl, ?_⟩) (by assumption) ?_
          rotate_left
          focus (intro wS hSw; (try dsimp only at hSw); go_simp; (try with_reducible rfl))
          try simp only [Act.put, List.getElem_toArray, List.getElem_cons_zero, List.getElem_cons_succ, List.setIfInBounds_toArray, List.set_cons_zero, List.set_cons_succ]
          refine wpAnyH_done (by kernel_rfl) ?_ _
          try clear hHeld
          have z201 := H200.out.cell 0 rfl 0 rfl
          have z202 := H200.out.free 0 rfl 0
          have z203 := H200.out.cell 0 rfl 1 rfl
          have z204 := H200.out.free 0 rfl 1
          have z205 := H200.out.cell 0 rfl 2 rfl
          have z206 := H200.out.free 0 rfl 2
          have z207 := H200.out.cell 0 rfl 3 rfl
          have z208 := H200.out.free 0 rfl 3
          go_wp2_with fail
          clear z201 z202 z203 z204 z205 z206 z207 z208
          have H209 := hid (show St B W [.cells (B + 1 + 1) #[.int .i64 0, .int .i64 0, .int .i64 0, .slice none 0 0] 26, .cells (B + 1) #[.int .i64 r0, .int .i64 r1, .int .i64 r2, .int .i64 r3] 39, .cells B #[.int .i64 w, .int .i64 h, .int .i64 mx, .slice a n c] 26] [] ((((w199.setCell ⟨B + 1 + 1, 0, none⟩ (.int .i64 0)).setCell ⟨B + 1 + 1, 1, none⟩ (.int .i64 0)).setCell ⟨B + 1 + 1, 2, none⟩ (.int .i64 0)).setCell ⟨B + 1 + 1, 3, none⟩ (.slice none 0 0)) from (H200.out.set4 0 rfl (.int .i64 0) (.int .i64 0) (.int .i64 0) (.slice none 0 0)))
          have q210 := H209.out.cell 0 rfl 0 rfl
          have q211 := H209.out.cell 0 rfl 1 rfl
          have q212 := H209.out.cell 0 rfl 2 rfl
          have q213 := H209.out.cell 0 rfl 3 rfl
          refine bodyPost_ret (v := .tuple #[.agg #[.int .i64 0, .int .i64 0, .int .i64 0, .slice none 0 0], .int .i64 8]) ?_ rfl (tile_no (by unfold tCode; rw [if_neg HNV.out, if_neg HNI0.out, if_neg HNE.out, if_pos HX.out]) (by omega) (by first | exact H209.out.below | exact H209.out.below'))
          simp [results, Try.results45, go_sem, q210, q211, q212, q213]
  · skip
    have hk1 : (kc == 0) = false := by simpa using hk0
    have hk2 : (kc != 0) = true := by simpa using hk0
    have HC := hid (HKC.out hk0)
    have hk3 := hid hk0
    clear hk0
    have z214 := H8.out.cell 0 rfl 0 rfl
    have z215 := H8.out.free 0 rfl 0
    have z216 := H8.out.cell 0 rfl 1 rfl
    have z217 := H8.out.free 0 rfl 1
    have z218 := H8.out.cell 0 rfl 2 rfl
    have z219 := H8.out.free 0 rfl 2
    have z220 := H8.out.cell 0 rfl 3 rfl
    have z221 := H8.out.free 0 rfl 3
    go_wp2_with fail
    clear z214 z215 z216 z217 z218 z219 z220 z221
    have H222 := hid (show St B W [.cells (B + 1 + 1) #[.int .i64 0, .int .i64 0, .int .i64 0, .slice none 0 0] 26, .cells (B + 1) #[.int .i64 r0, .int .i64 r1, .int .i64 r2, .int .i64 r3] 39, .cells B #[.int .i64 w, .int .i64 h, .int .i64 mx, .slice a n c] 26] [] ((((w7.setCell ⟨B + 1 + 1, 0, none⟩ (.int .i64 0)).setCell ⟨B + 1 + 1, 1, none⟩ (.int .i64 0)).setCell ⟨B + 1 + 1, 2, none⟩ (.int .i64 0)).setCell ⟨B + 1 + 1, 3, none⟩ (.slice none 0 0)) from (H8.out.set4 0 rfl (.int .i64 0) (.int .i64 0) (.int .i64 0) (.slice none 0 0)))
    have q223 := H222.out.cell 0 rfl 0 rfl
    have q224 := H222.out.cell 0 rfl 1 rfl
    have q225 := H222.out.cell 0 rfl 2 rfl
    have q226 := H222.out.cell 0 rfl 3 rfl
    refine bodyPost_ret (v := .tuple #[.agg #[.int .i64 0, .int .i64 0, .int .i64 0, .slice none 0 0], .int .i64 kc]) ?_ rfl (tile_no (HC.out) (hk3.out) (by first | exact H222.out.below | exact H222.out.below'))
    simp [results, Try.results45, go_sem, q223, q224, q225, q226]
end

section
open Go.RowKit
attribute [local go_sem ↓] Go.wp_at_zero Go.wp_at_succ
set_option linter.unusedVariables false
set_option linter.unusedSimpArgs false

theorem rep_get (n k : Nat) : (List.replicate n (0 : Int)).getD k 0 = 0 := by
  rw [List.getD_eq_getElem?_getD]
  rcases Nat.lt_or_ge k n with h | h <;> simp [h]
theorem tVal_whole (w : Int) (zs : List Int) (n m : Nat) (k j : Nat) : tVal w zs 0 0 (List.replicate n 0) (List.replicate m 0) 0 k j = rowsS w zs 0 0 (k + 1) (j + 1) := by
  unfold tVal
  rw [rep_get, rep_get, tSum_rowsS]; simp
theorem rowS_le {w h mx : Int} {zs : List Int} (hv : pValid w h mx zs = true) (r0 r1 : Int) (a j : Nat) : 0 ≤ rowS w zs r0 r1 a j ∧ rowS w zs r0 r1 a j ≤ j * mx :=
  sumN_bd fun i _ => tPix_bd hv r0 r1 a i
theorem rowsS_le {w h mx : Int} {zs : List Int} (hv : pValid w h mx zs = true) (r0 r1 : Int) (k j : Nat) : 0 ≤ rowsS w zs r0 r1 k j ∧ rowsS w zs r0 r1 k j ≤ k * (j * mx) :=
  sumN_bd fun i _ => rowS_le hv r0 r1 i j
/-- Every sum of pixels of a plane is permitted. -/
theorem whole_in {w h mx : Int} {zs : List Int} (hv : pValid w h mx zs = true) {k j : Nat} (hk : (k : Int) ≤ h) (hj : (j : Int) ≤ w) : 0 ≤ rowsS w zs 0 0 k j ∧ rowsS w zs 0 0 k j ≤ w * h * mx := by
  obtain ⟨h0, h1⟩ := rowsS_le hv 0 0 k j
  obtain ⟨p1, p2, p3, p4, p5, p6, p7⟩ := pOk_iff.1 (pValid_iff.1 hv).1
  have e1 : (j : Int) * mx ≤ w * mx := Int.mul_le_mul_of_nonneg_right hj (by omega)
  have e2 : (k : Int) * (j * mx) ≤ h * (w * mx) := Int.mul_le_mul hk e1 (Int.mul_nonneg (by omega) (by omega)) (by omega)
  have e3 : h * (w * mx) = w * h * mx := by rw [← Int.mul_assoc, Int.mul_comm h w]
  omega
theorem whole_all {w h mx : Int} {zs : List Int} (hv : pValid w h mx zs = true) (nh nw : Nat) (hnh : h = nh) (hnw : w = nw) :
    tAll w zs 0 0 (List.replicate nh 0) (List.replicate nw 0) 0 = gridL (fun k j => rowsS w zs 0 0 (k + 1) (j + 1)) nw nh 0 := by
  unfold tAll
  rw [List.length_replicate, List.length_replicate]
  congr 1
  funext k j
  exact tVal_whole w zs nh nw k j
theorem whole_code {w h mx : Int} {zs : List Int} (hv : pValid w h mx zs = true) (hi : iOk w h mx = true) (nh nw : Nat) (hnh : h = nh) (hnw : w = nw) :
    tCode w h mx zs 0 0 w h (List.replicate nh 0) (List.replicate nw 0) 0 = 0 := by
  have hp := (pOk_iff.1 (pValid_iff.1 hv).1)
  obtain ⟨p1, p2, p3, p4, p5, p6, p7⟩ := hp
  have hin := (inside_iff (w := w) (h := h) (r0 := 0) (r1 := 0) (r2 := w) (r3 := h) p1 p2 p3 p4).2 (by omega)
  have hm : 0 ≤ w * h * mx := Int.mul_nonneg (Int.mul_nonneg (by omega) (by omega)) (by omega)
  have hz : ∀ n, allIn (w * h * mx) (List.replicate n 0) = true := fun n => allIn_iff.2 fun v hv' => by
    rw [List.mem_replicate] at hv'; omega
  have h1 : allIn (w * h * mx) [0] = true := hz 1
  have ha : allIn (w * h * mx) (tAll w zs 0 0 (List.replicate nh 0) (List.replicate nw 0) 0) = true := by
    rw [whole_all hv nh nw hnh hnw, allIn_iff]
    refine (gridL_all _ nw nh).2 fun a ha b hb => ?_
    exact whole_in hv (by omega) (by omega)
  unfold tCode
  rw [if_neg (by rw [hv]; simp), if_neg (by rw [hi]; simp), if_neg (by rw [hin]; simp), if_neg (by simp; omega), if_neg (by rw [h1, hz, hz]; simp), if_neg (by rw [ha]; simp)]
theorem fillL_get {f : Nat → Nat → Int} {wd k j N a b : Nat} (hN : k * wd + j ≤ N) (hb : b < wd) (h : a < k ∨ (a = k ∧ b < j)) : (fillL f wd k j N).getD (a * wd + b) 0 = f a b := by
  have hlt : a * wd + b < k * wd + j := by
    rcases h with h | ⟨rfl, h⟩
    · have := Nat.mul_le_mul_right wd (show a + 1 ≤ k by omega)
      rw [Nat.add_mul, Nat.one_mul] at this
      omega
    · omega
  unfold fillL
  rw [List.getD_eq_getElem?_getD, List.getElem?_append_left (by rw [gridL_len]; exact hlt), ← List.getD_eq_getElem?_getD]
  exact gridL_get f wd k j a b hb h

set_option maxRecDepth 100000 in
set_option maxHeartbeats 6400000 in
theorem qwhole13_any (w h mx : Int) (a : Option Addr) (n c : Nat) (zs : List Int) (W : World) (hs : Slc W a n c zs) :
    Calls Try.prog 42 #[.agg #[.int .i64 w, .int .i64 h, .int .i64 mx, .slice a n c]] W (TilePost w h mx zs 0 0 w h (List.replicate h.toNat 0) (List.replicate w.toNat 0) 0 W) := by
  obtain ⟨B, hB⟩ : ∃ B, W.heap.size = B := ⟨_, rfl⟩
  have HS := hid hs
  have HI0 := hid (St.init hB)
  clear hs
  go_enter Try.func42, Try.ntmps42
  go_upto_region 1 with fail
  have H1 := hid (show St B W [.cells (B + 1) #[.int .i64 0, .int .i64 0, .int .i64 0, .slice none 0 0] 26, .cells B #[.int .i64 w, .int .i64 h, .int .i64 mx, .slice a n c] 26] [] ((W.alloc (.cells #[.int .i64 w, .int .i64 h, .int .i64 mx, .slice a n c] 26)).alloc (.cells #[.int .i64 0, .int .i64 0, .int .i64 0, .slice none 0 0] 26)) from ((HI0.out.alloc #[.int .i64 w, .int .i64 h, .int .i64 mx, .slice a n c] 26 hB).alloc #[.int .i64 0, .int .i64 0, .int .i64 0, .slice none 0 0] 26 (by first | exact hB | simp [hB])))
  first | refine gen_code H1.out ?_ | refine gen_list H1.out ?_ | refine gen_calls H1.out ?_
  intro w2 hG
  clear H1
  have H1 := hid hG
  clear hG
  have z3 := H1.out.cell 1 rfl 0 rfl
  have z4 := H1.out.cell 1 rfl 1 rfl
  have z5 := H1.out.cell 1 rfl 2 rfl
  have z6 := H1.out.cell 1 rfl 3 rfl
  go_wp2_with fail
  clear z3 z4 z5 z6
  refine (qchecked_any _ _ _ _ _ _ _ _ (H1.out.old HS.out)).mono ?_
  rintro e w7 ⟨rfl, hb⟩
  have H8 := hid (H1.out.call hb)
  clear hb
  have HKC := hid (show kCode w h mx zs ≠ 0 → tCode w h mx zs 0 0 w h (List.replicate h.toNat 0) (List.replicate w.toNat 0) 0 = kCode w h mx zs from fun hk => tCode_of_k hk)
  have HKV := hid (show kCode w h mx zs = 0 → pValid w h mx zs = true ∧ iOk w h mx = true from fun hk => valid_of_k hk)
  have HKM := hid (show pValid w h mx zs = true → iOk w h mx = true → kVal w h mx zs = w * h * mx from fun hv hi => by simp [kVal, iVal, hv, hi])
  obtain ⟨kc, hkc⟩ : ∃ k, kCode w h mx zs = k := ⟨_, rfl⟩
  obtain ⟨kv, hkv⟩ : ∃ k, kVal w h mx zs = k := ⟨_, rfl⟩
  rw [hkc] at HKC HKV ⊢
  rw [hkv] at HKM ⊢
  clear hkc hkv
  by_cases hk0 : kc = 0
  · skip
    subst hk0
    obtain ⟨hv, hio⟩ := HKV.out rfl
    have hm := HKM.out hv hio
    subst hm
    have HV := hid hv
    have HIO := hid (iOk_iff.1 hio)
    have HIK := hid hio
    obtain ⟨p1, p2, p3, p4, p5, p6, p7⟩ := pOk_iff.1 (pValid_iff.1 hv).1
    clear HKC HKV HKM hio
    obtain ⟨most, hmost⟩ : ∃ m, w * h * mx = m := ⟨_, rfl⟩
    have HMO := hid hmost
    rw [hmost]
    obtain ⟨nh, hnh⟩ : ∃ m : Nat, h = m := ⟨h.toNat, by omega⟩
    obtain ⟨nw, hnw⟩ : ∃ m : Nat, w = m := ⟨w.toNat, by omega⟩
    have HNH := hid hnh
    have HNW := hid hnw
    have hn1 : 1 ≤ nh ∧ nh ≤ 128 ∧ h ≤ nh ∧ nh ≤ h := by omega
    have hn2 : 1 ≤ nw ∧ nw ≤ 128 ∧ w ≤ nw ∧ nw ≤ w := by omega
    obtain ⟨nh1, nh2, nh3, nh4⟩ := hn1
    obtain ⟨nw1, nw2, nw3, nw4⟩ := hn2
    have m2 : 1 ≤ most := by
      rw [← hmost]
      have e1 := Int.mul_le_mul (a := 1) (b := 1) (c := w) (d := h) (by omega) (by omega) (by omega) (by omega)
      have e2 := Int.mul_le_mul (a := 1) (b := 1) (c := w * h) (d := mx) (by omega) (by omega) (by omega) (by omega)
      omega
    have m3 : most ≤ 4294967296 := by rw [← hmost]; exact HIO.out.2.2.2.2
    obtain ⟨NN, hNN⟩ : ∃ N : Nat, nh * nw = N := ⟨_, rfl⟩
    have n1 : 1 ≤ NN := by rw [← hNN]; exact Nat.mul_pos (by omega) (by omega)
    have hNT : w * h = (NN : Int) := by rw [← hNN, hnw, hnh, Int.mul_comm]; simp
    have n2 : NN ≤ 4096 := by omega
    have HN := hid (show (n : Int) = NN from by rw [← hNT, ← (pValid_iff.1 hv).2.1, HS.out.len])
    have hNP : pOk w h most = true := pOk_iff.2 ⟨by omega, by omega, by omega, by omega, by omega, m2, m3⟩
    have HNP := hid hNP
    have HNI := hid (show ∀ x, nIf w h most x = x from fun x => by unfold nIf; rw [if_pos hNP])
    have HNL := hid (show nList w h most = List.replicate NN 0 from by unfold nList; rw [if_pos hNP, hNT]; rfl)
    have HNN := hid hNN
    clear hNN hNT hNP hnh hnw hmost hv
    have z9 := H8.out.cell 1 rfl 0 rfl
    have z10 := H8.out.cell 1 rfl 1 rfl
    have z11 := H8.out.cell 1 rfl 2 rfl
    have z12 := H8.out.cell 1 rfl 3 rfl
    go_wp2_with fail
    clear z9 z10 z11 z12
    refine (qnew_any _ _ _ _).mono ?_
    rintro e w13 ⟨v14, rfl, ho, hb⟩
    have H15 := hid (H8.out.grow hb ho)
    obtain ⟨v14a, v14c, rfl, _⟩ := ho.slc
    clear ho hb
    have hnl := HNL.out
    rw [hnl] at H15 ⊢
    simp only [List.length_replicate] at H15 ⊢
    rw [HNI.out, HNI.out, HNI.out, HNP.out]
    clear hnl
    obtain ⟨g0, g1, hg0⟩ := (H15.out.own 0 rfl).pos (by rw [List.length_replicate]; omega)
    simp only [List.length_replicate] at hg0
    injection hg0 with e1 e2 e3
    subst e1
    clear e2 e3
    obtain ⟨D16, hD16⟩ : ∃ D, w13.heap.size = D := ⟨_, rfl⟩
    go_upto_region 5 with fail
    have H17 := hid (show St B W [.cells D16 #[.int .i64 w, .int .i64 h, .int .i64 most, .slice (some ⟨g0, 0, none⟩) NN v14c] 26, .own (.slice (some ⟨g0, 0, none⟩) NN v14c) (List.replicate NN 0), .cells (B + 1) #[.int .i64 0, .int .i64 0, .int .i64 0, .slice none 0 0] 26, .cells B #[.int .i64 w, .int .i64 h, .int .i64 mx, .slice a n c] 26] [] (w13.alloc (.cells #[.int .i64 w, .int .i64 h, .int .i64 most, .slice (some ⟨g0, 0, none⟩) NN v14c] 26)) from (H15.out.alloc #[.int .i64 w, .int .i64 h, .int .i64 most, .slice (some ⟨g0, 0, none⟩) NN v14c] 26 hD16))
    first | refine gen_code H17.out ?_ | refine gen_list H17.out ?_ | refine gen_calls H17.out ?_
    intro w18 hG
    clear H17
    have H17 := hid hG
    clear hG
    clear hD16
    go_wp2_with fail
    obtain ⟨f, hf⟩ : ∃ f : Nat → Nat → Int, (fun k j => rowsS w zs 0 0 (k + 1) (j + 1)) = f := ⟨_, rfl⟩
    have HFV := hid (show ∀ k j, rowsS w zs 0 0 k (j + 1) + rowS w zs 0 0 k (j + 1) = f k j from fun k j => by rw [← hf]; rfl)
    have HFB := hid (show ∀ k j, k < nh → j < nw → 0 ≤ f k j ∧ f k j ≤ most from fun k j h1 h2 => by rw [← hf, ← HMO.out]; exact whole_in HV.out (by omega) (by omega))
    have HF := hid hf
    clear hf
    go_loopw [8] (fun i wr => ∃ k : Nat, k ≤ nh ∧ i = .int .i64 k ∧ St B W [.own (.slice (some ⟨g0, 0, none⟩) NN v14c) (fillL f nw k 0 NN), .cells D16 #[.int .i64 w, .int .i64 h, .int .i64 most, .slice (some ⟨g0, 0, none⟩) NN v14c] 26, .cells (B + 1) #[.int .i64 0, .int .i64 0, .int .i64 0, .slice none 0 0] 26, .cells B #[.int .i64 w, .int .i64 h, .int .i64 mx, .slice a n c] 26] [] wr) (fun i _ => nh - (intOf i).toNat)
    case atStart => exact ⟨0, by omega, rfl, by rw [fillL_zero]; exact H17.out.pick [1, 0, 2, 3] rfl (by decide)⟩
    case round =>
      obtain ⟨k, hk, rfl, hst⟩ := hrel
      obtain ⟨u19, rfl⟩ : ∃ u19 : World, u19 = wr := ⟨_, rfl⟩
      have H20 := hid hst
      clear hst
      by_cases hkn : k < nh
      · skip
        have hkn' : (k : Int) < h := by omega
        have z21 := H20.out.cell 3 rfl 0 rfl
        have z22 := H20.out.cell 3 rfl 1 rfl
        have z23 := H20.out.cell 3 rfl 2 rfl
        have z24 := H20.out.cell 3 rfl 3 rfl
        go_wp2_with fail
        clear z21 z22 z23 z24
        go_loopw [10, 9] (fun i s wr => ∃ j : Nat, j ≤ nw ∧ i = .int .i64 j ∧ s = .int .i64 (rowS w zs 0 0 k j) ∧ St B W [.own (.slice (some ⟨g0, 0, none⟩) NN v14c) (fillL f nw k j NN), .cells D16 #[.int .i64 w, .int .i64 h, .int .i64 most, .slice (some ⟨g0, 0, none⟩) NN v14c] 26, .cells (B + 1) #[.int .i64 0, .int .i64 0, .int .i64 0, .slice none 0 0] 26, .cells B #[.int .i64 w, .int .i64 h, .int .i64 mx, .slice a n c] 26] [] wr) (fun i _ _ => nw - (intOf i).toNat)
        case atStart => exact ⟨0, by omega, rfl, rfl, H20.out⟩
        case round =>
          obtain ⟨j, hj, rfl, rfl, hst⟩ := hrel
          obtain ⟨u25, rfl⟩ : ∃ u25 : World, u25 = wr := ⟨_, rfl⟩
          have H26 := hid hst
          clear hst
          obtain ⟨R21, R22⟩ := rowS_bd HV.out 0 0 k (j := j) (by omega)
          have HRS0 := hid (show rowS w zs 0 0 k (j + 1) = rowS w zs 0 0 k j + tPix w zs 0 0 k j from rfl)
          obtain ⟨R2, hR2⟩ : ∃ z, rowS w zs 0 0 k j = z := ⟨_, rfl⟩
          rw [hR2] at R21 R22 HRS0 ⊢
          have HR2 := hid hR2
          clear hR2
          by_cases hjn : j < nw
          · skip
            have hjn' : (j : Int) < w := by omega
            obtain ⟨pz1, pz2⟩ := tPix_bd HV.out 0 0 k j
            obtain ⟨KN, hKN⟩ : ∃ K : Nat, k * nw = K := ⟨_, rfl⟩
            have HKN := hid hKN
            have hKM : (k : Int) * w = (KN : Int) := by rw [HNW.out, ← hKN]; simp
            have kn1 : KN + j < NN := by
              have e1 : (k + 1) * nw ≤ nh * nw := Nat.mul_le_mul_right _ (by omega)
              rw [HNN.out, Nat.add_mul, Nat.one_mul, hKN] at e1
              omega
            have kn2 : (KN : Int) + (j : Int) < NN := by omega
            have hnn : (n : Int) ≤ NN ∧ (NN : Int) ≤ n := by have := HN.out; omega
            obtain ⟨hnn1, hnn2⟩ := hnn
            have w0 : IntKind.i64.wrap (KN : Int) = KN := IntWalk.i64_in _ (by omega)
            obtain ⟨pbk, po, hpa⟩ := row_at (H26.out.old HS.out).row (by omega)
            have cz := row_cell (by rw [← hpa]; exact (H26.out.old HS.out).row) (j := KN + j) (by omega)
            have HPZ0 := hid (show tPix w zs 0 0 k j = zs.getD (KN + j) 0 from by unfold tPix; rw [Int.zero_add, hKM]; congr 1 <;> omega)
            rw [← HPZ0.out] at cz
            rw [hpa] at HS
            subst hpa
            clear hKN
            obtain ⟨pz, hpz⟩ : ∃ z, tPix w zs 0 0 k j = z := ⟨_, rfl⟩
            rw [hpz] at cz pz1 pz2 HRS0
            have HPZ := hid hpz
            clear hpz
            have nk1 : k * nw + j < NN := by rw [HKN.out]; exact kn1
            obtain ⟨s1, s2⟩ := H26.out.get 0 rfl (j := KN + j) (by rw [fillL_len (by omega)]; omega)
            have z27 := H26.out.cell 3 rfl 0 rfl
            have z28 := H26.out.cell 3 rfl 1 rfl
            have z29 := H26.out.cell 3 rfl 2 rfl
            have z30 := H26.out.cell 3 rfl 3 rfl
            have z31 := H26.out.cell 1 rfl 0 rfl
            have z32 := H26.out.cell 1 rfl 1 rfl
            have z33 := H26.out.cell 1 rfl 2 rfl
            have z34 := H26.out.cell 1 rfl 3 rfl
            go_upto_region 14 with fail
            clear z27 z28 z29 z30 z31 z32 z33 z34
            have H35 := hid (show St B W [.own (.slice (some ⟨g0, 0, none⟩) NN v14c) ((fillL f nw k j NN).set (KN + j) (R2 + pz)), .cells D16 #[.int .i64 w, .int .i64 h, .int .i64 most, .slice (some ⟨g0, 0, none⟩) NN v14c] 26, .cells (B + 1) #[.int .i64 0, .int .i64 0, .int .i64 0, .slice none 0 0] 26, .cells B #[.int .i64 w, .int .i64 h, .int .i64 mx, .slice (some ⟨pbk, po, none⟩) n c] 26] [] (u25.setCell ⟨g0, (KN + j), none⟩ (.int .i64 (R2 + pz))) from (H26.out.store 0 rfl (KN + j) (R2 + pz)))
            first | refine gen_code H35.out ?_ | refine gen_list H35.out ?_ | refine gen_calls H35.out ?_
            intro w36 hG
            clear H35
            have H35 := hid hG
            clear hG
            clear s1 s2 cz
            by_cases hk0 : 0 < k
            · skip
              have hk0' : (0 : Int) < k := by omega
              go_upto_region 15 with fail
              refine wp_region_still_tail 23 (by kernel_rfl) (by kernel_rfl) ?_
              change wpStill _ _ (w36.drewN 1) (fun a' => wpList _ _ _ _ a' (w36.drewN 1)) _ _
              have H37 := hid (H35.out.drewN 1)
              generalize w36.drewN 1 = k38 at *
              have z39 := H37.out.cell 1 rfl 0 rfl
              have z40 := H37.out.cell 1 rfl 1 rfl
              have z41 := H37.out.cell 1 rfl 2 rfl
              have z42 := H37.out.cell 1 rfl 3 rfl
              have z43 := H37.out.cell 3 rfl 0 rfl
              have z44 := H37.out.cell 3 rfl 1 rfl
              have z45 := H37.out.cell 3 rfl 2 rfl
              have z46 := H37.out.cell 3 rfl 3 rfl
              obtain ⟨KP, hKP⟩ : ∃ K : Nat, (k - 1) * nw = K := ⟨_, rfl⟩
              have kp1 : KP + nw = KN := by
                rw [← hKP, ← HKN.out]
                obtain ⟨m, hm⟩ : ∃ m, k = m + 1 := ⟨k - 1, by omega⟩
                rw [hm, Nat.add_sub_cancel, Nat.add_mul, Nat.one_mul]
              have hKQ : ((k : Int) - 1) * w = (KP : Int) := by rw [Int.sub_mul, Int.one_mul, hKM]; omega
              obtain ⟨t1, t2⟩ := H37.out.get 0 rfl (j := KN + j) (by rw [List.length_set, fillL_len (by omega)]; omega)
              obtain ⟨t3, t4⟩ := H37.out.get 0 rfl (j := KP + j) (by rw [List.length_set, fillL_len (by omega)]; omega)
              have e5 : ((fillL f nw k j NN).set (KN + j) (R2 + pz)).getD (KN + j) 0 = R2 + pz := by rw [List.getD_eq_getElem?_getD, List.getElem?_set_self (by rw [fillL_len (by omega)]; omega)]; rfl
              have e6 : ((fillL f nw k j NN).set (KN + j) (R2 + pz)).getD (KP + j) 0 = f (k - 1) j := by
                rw [List.getD_eq_getElem?_getD, List.getElem?_set_ne (by omega), ← List.getD_eq_getElem?_getD, ← hKP]
                exact fillL_get (f := f) (wd := nw) (k := k) (j := j) (N := NN) (a := k - 1) (b := j) (by omega) (by omega) (.inl (by omega))
              rw [e5] at t1
              rw [e6] at t3
              obtain ⟨fp1, fp2⟩ := HFB.out (k - 1) j (by omega) (by omega)
              have hfk := HFV.out k j
              have hfp := HFV.out (k - 1) j
              have e7 : rowsS w zs 0 0 k (j + 1) = f (k - 1) j := by
                rw [← hfp]
                obtain ⟨m, hm⟩ : ∃ m, k = m + 1 := ⟨k - 1, by omega⟩
                rw [hm, Nat.add_sub_cancel]
                rfl
              have HNX := hid (show ((fillL f nw k j NN).set (KN + j) (R2 + pz)).set (KN + j) (R2 + pz + f (k - 1) j) = fillL f nw k (j + 1) NN from by
                rw [List.set_set, ← HKN.out, ← fillL_next (by omega), ← hfk, e7, HRS0.out, Int.add_comm])
              clear e5 e6 e7 hfk hfp hKP
              obtain ⟨fp, hfq⟩ : ∃ z, f (k - 1) j = z := ⟨_, rfl⟩
              rw [hfq] at t3 fp1 fp2 HNX
              clear hfq
              have w1 : IntKind.i64.wrap ((k : Int) - 1) = (k : Int) - 1 := IntWalk.i64_in _ (by omega)
              have w2 : IntKind.i64.wrap (KP : Int) = KP := IntWalk.i64_in _ (by omega)
              have w3 : IntKind.i64.wrap ((KN : Int) + (j : Int)) = (KN : Int) + j := IntWalk.i64_in _ (by omega)
              have w4 : IntKind.i64.wrap ((KP : Int) + (j : Int)) = (KP : Int) + j := IntWalk.i64_in _ (by omega)
              have w5 : IntKind.i64.wrap (R2 + pz + fp) = R2 + pz + fp := IntWalk.i64_in _ (by omega)
              have v1 : 0 ≤ (KN : Int) + (j : Int) := by omega
              have v2 : 0 ≤ (KP : Int) + (j : Int) := by omega
              have v3 : (KP : Int) + (j : Int) < NN := by omega
              have v4 : ((KN : Int) + (j : Int)).toNat = KN + j := by omega
              have v5 : ((KP : Int) + (j : Int)).toNat = KP + j := by omega
              simp only [List.take_succ_cons, List.take_zero, List.drop_succ_cons, List.drop_zero]
              iterate 23 still_step
              refine wpStill_nil ?_
              go_upto_region 11 with fail
              have H47 := hid (show St B W [.own (.slice (some ⟨g0, 0, none⟩) NN v14c) (((fillL f nw k j NN).set (KN + j) (R2 + pz)).set (KN + j) (R2 + pz + fp)), .cells D16 #[.int .i64 w, .int .i64 h, .int .i64 most, .slice (some ⟨g0, 0, none⟩) NN v14c] 26, .cells (B + 1) #[.int .i64 0, .int .i64 0, .int .i64 0, .slice none 0 0] 26, .cells B #[.int .i64 w, .int .i64 h, .int .i64 mx, .slice (some ⟨pbk, po, none⟩) n c] 26] [] (k38.setCell ⟨g0, (KN + j), none⟩ (.int .i64 (R2 + pz + fp))) from (H37.out.store 0 rfl (KN + j) (R2 + pz + fp)))
              first | refine gen_code H47.out ?_ | refine gen_list H47.out ?_ | refine gen_calls H47.out ?_
              intro w48 hG
              clear H47
              have H47 := hid hG
              clear hG
              go_wp2_with fail
              go_roundw
              case rel => exact ⟨j + 1, by omega, by go_num, by rw [HRS0.out], by rw [← HNX.out]; exact H47.out⟩
              case measure => simp [intOf]; omega
            · skip
              have hk0' : ¬ ((0 : Int) < k) := by omega
              have HNX := hid (show (fillL f nw k j NN).set (KN + j) (R2 + pz) = fillL f nw k (j + 1) NN from by
                rw [← HKN.out, ← fillL_next (by omega), ← HFV.out k j, ← HRS0.out]
                congr 1
                have e : k = 0 := by omega
                subst e
                exact (Int.zero_add _).symm)
              go_wp2_with fail
              go_roundw
              case rel => exact ⟨j + 1, by omega, by go_num, by rw [HRS0.out], by rw [← HNX.out]; exact H35.out⟩
              case measure => simp [intOf]; omega
          · skip
            have hjn' : ¬ ((j : Int) < w) := by omega
            have HJ := hid (show j = nw by omega)
            have z49 := H26.out.cell 3 rfl 0 rfl
            have z50 := H26.out.cell 3 rfl 1 rfl
            have z51 := H26.out.cell 3 rfl 2 rfl
            have z52 := H26.out.cell 3 rfl 3 rfl
            go_wp2_with fail
            clear z49 z50 z51 z52
            go_roundw
            case rel => exact ⟨k + 1, by omega, by go_num, by rw [← fillL_row]; have e := HJ.out; subst e; exact H26.out⟩
            case measure => simp [intOf]; omega
      · skip
        have hkn' : ¬ ((k : Int) < h) := by omega
        have HKL := hid (show k = nh by omega)
        have z53 := H20.out.cell 3 rfl 0 rfl
        have z54 := H20.out.cell 3 rfl 1 rfl
        have z55 := H20.out.cell 3 rfl 2 rfl
        have z56 := H20.out.cell 3 rfl 3 rfl
        have z57 := H20.out.cell 1 rfl 0 rfl
        have z58 := H20.out.cell 1 rfl 1 rfl
        have z59 := H20.out.cell 1 rfl 2 rfl
        have z60 := H20.out.cell 1 rfl 3 rfl
        have z61 := H20.out.cell 2 rfl 0 rfl
        have z62 := H20.out.free 2 rfl 0
        have z63 := H20.out.cell 2 rfl 1 rfl
        have z64 := H20.out.free 2 rfl 1
        have z65 := H20.out.cell 2 rfl 2 rfl
        have z66 := H20.out.free 2 rfl 2
        have z67 := H20.out.cell 2 rfl 3 rfl
        have z68 := H20.out.free 2 rfl 3
        go_wp2_with fail
        clear z53 z54 z55 z56 z57 z58 z59 z60 z61 z62 z63 z64 z65 z66 z67 z68
        have H69 := hid (show St B W [.own (.slice (some ⟨g0, 0, none⟩) NN v14c) (fillL f nw k 0 NN), .cells D16 #[.int .i64 w, .int .i64 h, .int .i64 most, .slice (some ⟨g0, 0, none⟩) NN v14c] 26, .cells (B + 1) #[.int .i64 w, .int .i64 h, .int .i64 most, .slice (some ⟨g0, 0, none⟩) NN v14c] 26, .cells B #[.int .i64 w, .int .i64 h, .int .i64 mx, .slice a n c] 26] [] ((((u19.setCell ⟨B + 1, 0, none⟩ (.int .i64 w)).setCell ⟨B + 1, 1, none⟩ (.int .i64 h)).setCell ⟨B + 1, 2, none⟩ (.int .i64 most)).setCell ⟨B + 1, 3, none⟩ (.slice (some ⟨g0, 0, none⟩) NN v14c)) from (H20.out.set4 2 rfl (.int .i64 w) (.int .i64 h) (.int .i64 most) (.slice (some ⟨g0, 0, none⟩) NN v14c)))
        have e1 : h.toNat = nh := by omega
        have e2 : w.toNat = nw := by omega
        have HC0 := hid (whole_code HV.out HIK.out nh nw HNH.out HNW.out)
        rw [e1, e2]
        have HTI := hid (show ∀ x, tIf w h mx zs 0 0 w h (List.replicate nh 0) (List.replicate nw 0) 0 x = x from fun x => by unfold tIf; rw [if_pos HC0.out])
        have HTLL := hid (show tList w h mx zs 0 0 w h (List.replicate nh 0) (List.replicate nw 0) 0 = fillL f nw k 0 NN from by unfold tList; rw [if_pos HC0.out, whole_all HV.out nh nw HNH.out HNW.out, HF.out, ← HNN.out, ← HKL.out, fillL_all])
        have q70 := H69.out.cell 2 rfl 0 rfl
        have q71 := H69.out.cell 2 rfl 1 rfl
        have q72 := H69.out.cell 2 rfl 2 rfl
        have q73 := H69.out.cell 2 rfl 3 rfl
        refine bodyPost_ret (v := .tuple #[.agg #[.int .i64 w, .int .i64 h, .int .i64 most, .slice (some ⟨g0, 0, none⟩) NN v14c], .int .i64 0]) ?_ rfl ⟨_, by rw [HTI.out, HTI.out, HTI.out, HC0.out, HMO.out, Int.sub_zero, Int.sub_zero], by rw [HTLL.out, hB]; exact H69.out.own 0 rfl, by first | exact H69.out.below | exact H69.out.below'⟩
        simp [results, Try.results42, go_sem, q70, q71, q72, q73]
  · skip
    have hk1 : (kc == 0) = false := by simpa using hk0
    have hk2 : (kc != 0) = true := by simpa using hk0
    have HC := hid (HKC.out hk0)
    have hk3 := hid hk0
    clear hk0
    have z74 := H8.out.cell 0 rfl 0 rfl
    have z75 := H8.out.free 0 rfl 0
    have z76 := H8.out.cell 0 rfl 1 rfl
    have z77 := H8.out.free 0 rfl 1
    have z78 := H8.out.cell 0 rfl 2 rfl
    have z79 := H8.out.free 0 rfl 2
    have z80 := H8.out.cell 0 rfl 3 rfl
    have z81 := H8.out.free 0 rfl 3
    go_wp2_with fail
    clear z74 z75 z76 z77 z78 z79 z80 z81
    have H82 := hid (show St B W [.cells (B + 1) #[.int .i64 0, .int .i64 0, .int .i64 0, .slice none 0 0] 26, .cells B #[.int .i64 w, .int .i64 h, .int .i64 mx, .slice a n c] 26] [] ((((w7.setCell ⟨B + 1, 0, none⟩ (.int .i64 0)).setCell ⟨B + 1, 1, none⟩ (.int .i64 0)).setCell ⟨B + 1, 2, none⟩ (.int .i64 0)).setCell ⟨B + 1, 3, none⟩ (.slice none 0 0)) from (H8.out.set4 0 rfl (.int .i64 0) (.int .i64 0) (.int .i64 0) (.slice none 0 0)))
    have q83 := H82.out.cell 0 rfl 0 rfl
    have q84 := H82.out.cell 0 rfl 1 rfl
    have q85 := H82.out.cell 0 rfl 2 rfl
    have q86 := H82.out.cell 0 rfl 3 rfl
    refine bodyPost_ret (v := .tuple #[.agg #[.int .i64 0, .int .i64 0, .int .i64 0, .slice none 0 0], .int .i64 kc]) ?_ rfl (tile_no (HC.out) (hk3.out) (by first | exact H82.out.below | exact H82.out.below'))
    simp [results, Try.results42, go_sem, q83, q84, q85, q86]
end
end Go.Proofs.Ytoojiabdgaflgaa
