/-
  The walk of IeeeReads: classes, parts and the order of values are those of the reference.
-/
import Derived.Test.YtfmahdcnikeaiaaDoorSane6
import Derived.Test.YtfmahdcnikeaiaaDoorKX
import Derived.Test.YtfmahdcnikeaiaaDoorArr2
namespace Go.Proofs.YtfmahdcnikeaiaaDoor
open Go.RowKit
attribute [local go_sem ↓] Go.wp_at_zero Go.wp_at_succ
set_option linter.unusedVariables false
set_option linter.unusedSimpArgs false

theorem xor_rng (b : Int) : ∃ f : Int, bits .xor .u64 b 9223372036854775808 = f ∧ 0 ≤ f ∧ f < 18446744073709551616 := ⟨_, rfl, wrap_rng _⟩
theorem arr_cell {w : World} {B : Nat} {e : TypeId} {g n : Nat} {us : List Int} (h : w.ownsRow B e 1 (.slice (some ⟨g, 0, none⟩) n n) n (us.map (Value.int .u64))) {j : Nat} (hj : j < us.length) : w.cell? ⟨g, j, none⟩ = some (.int .u64 (us.getD j 0)) := by
  have := World.ownsRow.cells h (g := g) rfl j (.int .u64 (us.getD j 0)) (by rw [List.getElem?_map, List.getD_eq_getElem?_getD, List.getElem?_eq_getElem hj]; rfl)
  simp only [Addr.add] at this
  split at this
  · rename_i e0; subst e0; exact this
  · rw [Nat.zero_add] at this; exact this

set_option maxRecDepth 100000 in
set_option maxHeartbeats 12800000 in
theorem walk_IeeeReads (a : Option Addr) (n c : Nat) (zs : List Int) (x y : Int) (W : World) (hr : RowIn .i64 W a n c zs) (hx : U64 x) (hy : U64 y) (hT : Tab W) :
    Calls Tryd.prog 5 #[.slice a n c, .int .u64 x, .int .u64 y] W fun e w' => e = .returned (.bool true) ∧ Below W.heap.size W w' := by
  obtain ⟨B, hB⟩ : ∃ B, W.heap.size = B := ⟨_, rfl⟩
  have HI0 := hid (St.init hB)
  have HT := hid hT
  have HB0 := hid (show 0 < B from by rw [← hB]; exact hT.pos)
  clear hT
  have HN := hid (nearRow hr hB)
  have HR := hid hr
  obtain ⟨x1, x2⟩ : 0 ≤ x ∧ x < 18446744073709551616 := ⟨hx.1, by have := hx.2; omega⟩
  obtain ⟨y1, y2⟩ : 0 ≤ y ∧ y < 18446744073709551616 := ⟨hy.1, by have := hy.2; omega⟩
  clear hr hx hy
  go_enter Tryd.func5, Tryd.ntmps5
  go_wp2_with fail
  obtain ⟨K1, hK1⟩ : ∃ D, W.heap.size = D := ⟨_, rfl⟩
  refine (newB_any B _ _ _ _ _ HR.out.len (HI0.out.oldRow HR.out.row) HN.out HI0.out.size).mono ?_
  rintro e w2 ⟨rfl, ht, hb, hs⟩
  rw [hK1] at ht ⊢
  have H3 := hid (HI0.out.newTape ht hb hK1)
  clear ht hb hs hK1
  obtain ⟨fx, hfx, fx1, fx2⟩ := xor_rng x
  obtain ⟨fy, hfy, fy1, fy2⟩ := xor_rng y
  go_wp2_with fail
  refine (bits_any B K1 _ (H3.out.tapeAt 0 rfl)).mono ?_
  rintro e w5 ⟨b4, rfl, ⟨b4a, b4b⟩, htn, hgn⟩
  have H6 := hid (H3.out.next 0 rfl htn hgn)
  clear htn hgn
  go_wp2_with fail
  refine (bits_any B K1 _ (H6.out.tapeAt 0 rfl)).mono ?_
  rintro e w8 ⟨b7, rfl, ⟨b7a, b7b⟩, htn, hgn⟩
  have H9 := hid (H6.out.next 0 rfl htn hgn)
  clear htn hgn
  go_wp2_with fail
  refine (bits_any B K1 _ (H9.out.tapeAt 0 rfl)).mono ?_
  rintro e w11 ⟨b10, rfl, ⟨b10a, b10b⟩, htn, hgn⟩
  have H12 := hid (H9.out.next 0 rfl htn hgn)
  clear htn hgn
  obtain ⟨D13, hD13⟩ : ∃ D, w11.heap.size = D := ⟨_, rfl⟩
  go_upto_region 3 with fail
  have H14 := hid (show St B W [.cells D13 #[.int .u64 x, .int .u64 y, .int .u64 b4, .int .u64 b7, .int .u64 b10, .int .u64 fx, .int .u64 fy] 23, .tape K1] [] (w11.alloc (.cells #[.int .u64 x, .int .u64 y, .int .u64 b4, .int .u64 b7, .int .u64 b10, .int .u64 fx, .int .u64 fy] 23)) from (H12.out.alloc #[.int .u64 x, .int .u64 y, .int .u64 b4, .int .u64 b7, .int .u64 b10, .int .u64 fx, .int .u64 fy] 23 hD13))
  first | refine gen_code H14.out ?_ | refine gen_list H14.out ?_ | refine gen_calls H14.out ?_
  intro w15 hG
  clear H14
  have H14 := hid hG
  clear hG
  clear hD13
  clear hfx hfy
  obtain ⟨us, hus⟩ : ∃ us : List Int, us = [x, y, b4, b7, b10, fx, fy] := ⟨_, rfl⟩
  have HUL := hid (show us.length = 7 from by rw [hus]; rfl)
  have HUU := hid (show U64s us from by rw [hus]; exact u64s_all (by intro z hz; simp only [List.mem_cons, List.not_mem_nil, or_false] at hz; omega))
  have H16 := hid (show St B W [.arr (23) 1 (.slice (some ⟨D13, 0, none⟩) 7 7) 7 (us.map (Value.int .u64)), .tape K1] [] w15 from by rw [hus]; exact H14.out.litArr2 0 1 7 ([x, y, b4, b7, b10, fx, fy].map (Value.int .u64)) rfl rfl (by decide))
  clear hus
  go_wp2_with fail
  go_loopw [9] (fun i wr => ∃ j : Nat, j ≤ 7 ∧ i = .int .i64 j ∧ St B W [.arr (23) 1 (.slice (some ⟨D13, 0, none⟩) 7 7) 7 (us.map (Value.int .u64)), .tape K1] [] wr) (fun i _ => 7 - (intOf i).toNat)
  case atStart => exact ⟨0, by omega, rfl, H16.out.pick [0, 1] rfl (by decide)⟩
  case round =>
    obtain ⟨j, hj, rfl, hst⟩ := hrel
    obtain ⟨u18, rfl⟩ : ∃ u18 : World, u18 = wr := ⟨_, rfl⟩
    have H19 := hid hst
    clear hst
    by_cases hj7 : j < 7
    · skip
      have hj7' : (j : Int) < 7 := by omega
      obtain ⟨z, hz⟩ : ∃ z, us.getD j 0 = z := ⟨_, rfl⟩
      obtain ⟨za, zb⟩ : 0 ≤ z ∧ z < 18446744073709551616 := by rw [← hz]; exact HUU.out j
      have cz := arr_cell (H19.out.arrOf 0 rfl) (j := j) (by rw [HUL.out]; omega)
      rw [hz] at cz
      have HGz := hid hz
      clear hz
      go_wp2_with fail
      refine (parts_anyI z (by omega) _ (HT.out.below (by first | exact H19.out.below' | exact H19.out.below) HB0.out)).mono ?_
      rintro e w20 ⟨rfl, hsw⟩
      have hsw2 : u18 = w20 := by first | exact hsw | exact hsw.symm
      clear hsw
      subst hsw2
      obtain ⟨m21, hm21⟩ : ∃ xx', ieM z.toNat = xx' := ⟨_, rfl⟩
      rw [hm21]
      have HNm21 := hid hm21
      clear hm21
      obtain ⟨x22, hx22⟩ : ∃ xx', ieE z.toNat = xx' := ⟨_, rfl⟩
      rw [hx22]
      have HNx22 := hid hx22
      clear hx22
      obtain ⟨b23, hb23⟩ : ∃ xx', ieOk z.toNat = xx' := ⟨_, rfl⟩
      rw [hb23]
      have HNb23 := hid hb23
      clear hb23
      go_upto_region 7 with fail
      have cz24 := arr_cell (H19.out.arrOf 0 rfl) (j := j) (by rw [HUL.out]; omega)
      rw [HGz.out] at cz24
      go_wp2_with fail
      refine (qparts_anyI z (by omega) _).mono ?_
      rintro e w25 ⟨rfl, hsw⟩
      have hsw2 : u18 = w25 := by first | exact hsw | exact hsw.symm
      clear hsw
      subst hsw2
      rw [HNm21.out]
      rw [HNx22.out]
      rw [HNb23.out]
      go_upto_region 8 with fail
      have H26 := hid H19.out.drew
      refine wp_region_held_drew (S := (fun w' => w'.cell? ⟨D13, j, none⟩ = some (.int .u64 z))) (by kernel_rfl) (by have hc := arr_cell (H26.out.arrOf 0 rfl) (j := j) (by rw [HUL.out]; omega); rw [HGz.out] at hc; exact hc) (fun hHeld => ?_)
      generalize u18.drew = k27 at *
      refine wpAnyH_take (i := 0) (oi := _) (v := ?_) rfl (by kernel_rfl) (by kernel_rfl) (by kernel_rfl) (fun _ _ _ h => h) (Or.inl ⟨by rfl, ?_⟩) (by assumption) ?_
      rotate_left
      focus (intro wS hSw; (try dsimp only at hSw); go_simp; (try with_reducible rfl))
      try simp only [Act.put, List.getElem_toArray, List.getElem_cons_zero, List.getElem_cons_succ, List.setIfInBounds_toArray, List.set_cons_zero, List.set_cons_succ]
      refine wpAnyH_take (i := 1) (oi := _) (v := ?_) rfl (by kernel_rfl) (by kernel_rfl) (by kernel_rfl) (fun _ _ _ h => h) (Or.inl ⟨by rfl, ?_⟩) (by assumption) ?_
      rotate_left
      focus (intro wS hSw; (try dsimp only at hSw); go_simp; (try with_reducible rfl))
      try simp only [Act.put, List.getElem_toArray, List.getElem_cons_zero, List.getElem_cons_succ, List.setIfInBounds_toArray, List.set_cons_zero, List.set_cons_succ]
      refine wpAnyH_take (i := 2) (oi := _) (v := ?_) rfl (by kernel_rfl) (by kernel_rfl) (by kernel_rfl) (fun _ _ _ h => h) (Or.inl ⟨by rfl, ?_⟩) (by assumption) ?_
      rotate_left
      focus (intro wS hSw; (try dsimp only at hSw); go_simp; (try with_reducible rfl))
      try simp only [Act.put, List.getElem_toArray, List.getElem_cons_zero, List.getElem_cons_succ, List.setIfInBounds_toArray, List.set_cons_zero, List.set_cons_succ]
      refine wpAnyH_take (i := 3) (oi := _) (v := ?_) rfl (by kernel_rfl) (by kernel_rfl) (by kernel_rfl) (fun _ _ _ h => h) (Or.inl ⟨by rfl, ?_⟩) (by assumption) ?_
      rotate_left
      focus (intro wS hSw; (try dsimp only at hSw); go_simp; (try with_reducible rfl))
      try simp only [Act.put, List.getElem_toArray, List.getElem_cons_zero, List.getElem_cons_succ, List.setIfInBounds_toArray, List.set_cons_zero, List.set_cons_succ]
      refine wpAnyH_take (i := 4) (oi := _) (v := ?_) rfl (by kernel_rfl) (by kernel_rfl) (by kernel_rfl) (fun _ _ _ h => h) (Or.inl ⟨by rfl, ?_⟩) (by assumption) ?_
      rotate_left
      focus (intro wS hSw; (try dsimp only at hSw); go_simp; (try with_reducible rfl))
      try simp only [Act.put, List.getElem_toArray, List.getElem_cons_zero, List.getElem_cons_succ, List.setIfInBounds_toArray, List.set_cons_zero, List.set_cons_succ]
      refine wpAnyH_take (i := 5) (oi := _) (v := ?_) rfl (by kernel_rfl) (by kernel_rfl) (by kernel_rfl) (fun _ _ _ h => h) (Or.inl ⟨by rfl, ?_⟩) (by assumption) ?_
      rotate_left
      focus (intro wS hSw; (try dsimp only at hSw); go_simp; (try with_reducible rfl))
      try simp only [Act.put, List.getElem_toArray, List.getElem_cons_zero, List.getElem_cons_succ, List.setIfInBounds_toArray, List.set_cons_zero, List.set_cons_succ]
      refine wpAnyH_take (i := 6) (oi := _) (v := ?_) rfl (by kernel_rfl) (by kernel_rfl) (by kernel_rfl) (fun _ _ _ h => h) (Or.inl ⟨by rfl, ?_⟩) (by assumption) ?_
      rotate_left
      focus (intro wS hSw; (try dsimp only at hSw); go_simp; (try with_reducible rfl))
      try simp only [Act.put, List.getElem_toArray, List.getElem_cons_zero, List.getElem_cons_succ, List.setIfInBounds_toArray, List.set_cons_zero, List.set_cons_succ]
      refine wpAnyH_take (i := 7) (oi := _) (v := ?_) rfl (by kernel_rfl) (by kernel_rfl) (by kernel_rfl) (fun _ _ _ h => h) (Or.inl ⟨by rfl, ?_⟩) (by assumption) ?_
      rotate_left
      focus (intro wS hSw; (try dsimp only at hSw); go_simp; (try with_reducible rfl))
      try simp only [Act.put, List.getElem_toArray, List.getElem_cons_zero, List.getElem_cons_succ, List.setIfInBounds_toArray, List.set_cons_zero, List.set_cons_succ]
      refine wpAnyH_take (i := 8) (oi := _) (v := ?_) rfl (by kernel_rfl) (by kernel_rfl) (by kernel_rfl) (fun _ _ _ h => h) (Or.inl ⟨by rfl, ?_⟩) (by assumption) ?_
      rotate_left
      focus (intro wS hSw; (try dsimp only at hSw); go_simp; (try with_reducible rfl))
      try simp only [Act.put, List.getElem_toArray, List.getElem_cons_zero, List.getElem_cons_succ, List.setIfInBounds_toArray, List.set_cons_zero, List.set_cons_succ]
      refine wpAnyH_take (i := 9) (oi := _) (v := ?_) rfl (by kernel_rfl) (by kernel_rfl) (by kernel_rfl) (fun _ _ _ h => h) (Or.inl ⟨by rfl, ?_⟩) (by assumption) ?_
      rotate_left
      focus (intro wS hSw; (try dsimp only at hSw); go_simp; (try with_reducible rfl))
      try simp only [Act.put, List.getElem_toArray, List.getElem_cons_zero, List.getElem_cons_succ, List.setIfInBounds_toArray, List.set_cons_zero, List.set_cons_succ]
      refine wpAnyH_take (i := 10) (oi := _) (v := ?_) rfl (by kernel_rfl) (by kernel_rfl) (by kernel_rfl) (fun _ _ _ h => h) (Or.inl ⟨by rfl, ?_⟩) (by assumption) ?_
      rotate_left
      focus (intro wS hSw; (try dsimp only at hSw); go_simp; (try with_reducible rfl))
      try simp only [Act.put, List.getElem_toArray, List.getElem_cons_zero, List.getElem_cons_succ, List.setIfInBounds_toArray, List.set_cons_zero, List.set_cons_succ]
      refine wpAnyH_take (i := 11) (oi := _) (v := ?_) rfl (by kernel_rfl) (by kernel_rfl) (by kernel_rfl) (fun _ _ _ h => h) (Or.inl ⟨by rfl, ?_⟩) (by assumption) ?_
      rotate_left
      focus (intro wS hSw; (try dsimp only at hSw); go_simp; (try with_reducible rfl))
      try simp only [Act.put, List.getElem_toArray, List.getElem_cons_zero, List.getElem_cons_succ, List.setIfInBounds_toArray, List.set_cons_zero, List.set_cons_succ]
      refine wpAnyH_take (i := 12) (oi := _) (v := ?_) rfl (by kernel_rfl) (by kernel_rfl) (by kernel_rfl) (fun _ _ _ h => h) (Or.inl ⟨by rfl, ?_⟩) (by assumption) ?_
      rotate_left
      focus (intro wS hSw; (try dsimp only at hSw); go_simp; (try with_reducible rfl))
      try simp only [Act.put, List.getElem_toArray, List.getElem_cons_zero, List.getElem_cons_succ, List.setIfInBounds_toArray, List.set_cons_zero, List.set_cons_succ]
      refine wpAnyH_take (i := 13) (oi := _) (v := ?_) rfl (by kernel_rfl) (by kernel_rfl) (by kernel_rfl) (fun _ _ _ h => h) (Or.inl ⟨by rfl, ?_⟩) (by assumption) ?_
      rotate_left
      focus (intro wS hSw; (try dsimp only at hSw); go_simp; (try with_reducible rfl))
      try simp only [Act.put, List.getElem_toArray, List.getElem_cons_zero, List.getElem_cons_succ, List.setIfInBounds_toArray, List.set_cons_zero, List.set_cons_succ]
      refine wpAnyH_take (i := 14) (oi := _) (v := ?_) rfl (by kernel_rfl) (by kernel_rfl) (by kernel_rfl) (fun _ _ _ h => h) (Or.inl ⟨by rfl, ?_⟩) (by assumption) ?_
      rotate_left
      focus (intro wS hSw; (try dsimp only at hSw); go_simp; (try with_reducible rfl))
      try simp only [Act.put, List.getElem_toArray, List.getElem_cons_zero, List.getElem_cons_succ, List.setIfInBounds_toArray, List.set_cons_zero, List.set_cons_succ]
      refine wpAnyH_take (i := 15) (oi := _) (v := ?_) rfl (by kernel_rfl) (by kernel_rfl) (by kernel_rfl) (fun _ _ _ h => h) (Or.inl ⟨by rfl, ?_⟩) (by assumption) ?_
      rotate_left
      focus (intro wS hSw; (try dsimp only at hSw); go_simp; (try with_reducible rfl))
      try simp only [Act.put, List.getElem_toArray, List.getElem_cons_zero, List.getElem_cons_succ, List.setIfInBounds_toArray, List.set_cons_zero, List.set_cons_succ]
      refine wpAnyH_take (i := 16) (oi := _) (v := ?_) rfl (by kernel_rfl) (by kernel_rfl) (by kernel_rfl) (fun _ _ _ h => h) (Or.inl ⟨by rfl, ?_⟩) (by assumption) ?_
      rotate_left
      focus (intro wS hSw; (try dsimp only at hSw); go_simp; (try with_reducible rfl))
      try simp only [Act.put, List.getElem_toArray, List.getElem_cons_zero, List.getElem_cons_succ, List.setIfInBounds_toArray, List.set_cons_zero, List.set_cons_succ]
      refine wpAnyH_take (i := 17) (oi := _) (v := ?_) rfl (by kernel_rfl) (by kernel_rfl) (by kernel_rfl) (fun _ _ _ h => h) (Or.inl ⟨by rfl, ?_⟩) (by assumption) ?_
      rotate_left
      focus (intro wS hSw; (try dsimp only at hSw); go_simp; (try with_reducible rfl))
      try simp only [Act.put, List.getElem_toArray, List.getElem_cons_zero, List.getElem_cons_succ, List.setIfInBounds_toArray, List.set_cons_zero, List.set_cons_succ]
      refine wpAnyH_take (i := 19) (oi := _) (v := ?_) rfl (by kernel_rfl) (by kernel_rfl) (by kernel_rfl) (fun _ _ _ h => h) (Or.inl ⟨by rfl, ?_⟩) (by assumption) ?_
      rotate_left
      focus (intro wS hSw; (try dsimp only at hSw); go_simp; (try with_reducible rfl))
      try simp only [Act.put, List.getElem_toArray, List.getElem_cons_zero, List.getElem_cons_succ, List.setIfInBounds_toArray, List.set_cons_zero, List.set_cons_succ]
      refine wpAnyH_take (i := 20) (oi := _) (v := ?_) rfl (by kernel_rfl) (by kernel_rfl) (by kernel_rfl) (fun _ _ _ h => h) (Or.inl ⟨by rfl, ?_⟩) (by assumption) ?_
      rotate_left
      focus (intro wS hSw; (try dsimp only at hSw); go_simp; (try with_reducible rfl))
      try simp only [Act.put, List.getElem_toArray, List.getElem_cons_zero, List.getElem_cons_succ, List.setIfInBounds_toArray, List.set_cons_zero, List.set_cons_succ]
      refine wpAnyH_take (i := 21) (oi := _) (v := ?_) rfl (by kernel_rfl) (by kernel_rfl) (by kernel_rfl) (fun _ _ _ h => h) (Or.inl ⟨by rfl, ?_⟩) (by assumption) ?_
      rotate_left
      focus (intro wS hSw; (try dsimp only at hSw); go_simp; (try with_reducible rfl))
      try simp only [Act.put, List.getElem_toArray, List.getElem_cons_zero, List.getElem_cons_succ, List.setIfInBounds_toArray, List.set_cons_zero, List.set_cons_succ]
      refine wpAnyH_take (i := 22) (oi := _) (v := ?_) rfl (by kernel_rfl) (by kernel_rfl) (by kernel_rfl) (fun _ _ _ h => h) (Or.inl ⟨by rfl, ?_⟩) (by assumption) ?_
      rotate_left
      focus (intro wS hSw; (try dsimp only at hSw); go_simp; (try with_reducible rfl))
      try simp only [Act.put, List.getElem_toArray, List.getElem_cons_zero, List.getElem_cons_succ, List.setIfInBounds_toArray, List.set_cons_zero, List.set_cons_succ]
      refine wpAnyH_ready (rs := [18]) (by kernel_rfl) (by simp) (AllReadyH.cons (o := _) rfl (fun K hK => ?_) AllReadyH.nil)
      go_simp
      go_at_call 21
      refine (class_anyI z (by omega) _).mono ?_
      rintro e w28 ⟨rfl, hsw⟩
      have hsw2 : k27 = w28 := by first | exact hsw | exact hsw.symm
      clear hsw
      subst hsw2
      obtain ⟨c29, hc29⟩ : ∃ xx', clsV z.toNat = xx' := ⟨_, rfl⟩
      rw [hc29]
      have HNc29 := hid hc29
      clear hc29
      refine hK.out _ _ ?_ (fun hHeld2 => ?_)
      focus ((try dsimp only); (exact (by have hc := arr_cell (H26.out.arrOf 0 rfl) (j := j) (by rw [HUL.out]; omega); rw [HGz.out] at hc; exact hc)))
      clear hK K
      try simp only [Act.put, List.getElem_toArray, List.getElem_cons_zero, List.getElem_cons_succ, List.setIfInBounds_toArray, List.set_cons_zero, List.set_cons_succ]
      clear hHeld
      have hHeld := hHeld2
      clear hHeld2
      refine wpAnyH_ready (rs := [23]) (by kernel_rfl) (by simp) (AllReadyH.cons (o := _) rfl (fun K hK => ?_) AllReadyH.nil)
      go_simp
      go_at_call 22
      refine (qclass_anyI z (by omega) _).mono ?_
      rintro e w30 ⟨rfl, hsw⟩
      have hsw2 : k27 = w30 := by first | exact hsw | exact hsw.symm
      clear hsw
      subst hsw2
      rw [HNc29.out]
      refine hK.out _ _ ?_ (fun hHeld2 => ?_)
      focus ((try dsimp only); (exact (by have hc := arr_cell (H26.out.arrOf 0 rfl) (j := j) (by rw [HUL.out]; omega); rw [HGz.out] at hc; exact hc)))
      clear hK K
      try simp only [Act.put, List.getElem_toArray, List.getElem_cons_zero, List.getElem_cons_succ, List.setIfInBounds_toArray, List.set_cons_zero, List.set_cons_succ]
      clear hHeld
      have hHeld := hHeld2
      clear hHeld2
      refine wpAnyH_take (i := 24) (oi := _) (v := ?_) rfl (by kernel_rfl) (by kernel_rfl) (by kernel_rfl) (fun _ _ _ h => h) (Or.inl ⟨by rfl, ?_⟩) (by assumption) ?_
      rotate_left
      focus (intro wS hSw; (try dsimp only at hSw); go_simp; (try with_reducible rfl))
      try simp only [Act.put, List.getElem_toArray, List.getElem_cons_zero, List.getElem_cons_succ, List.setIfInBounds_toArray, List.set_cons_zero, List.set_cons_succ]
      refine wpAnyH_take (i := 25) (oi := _) (v := ?_) rfl (by kernel_rfl) (by kernel_rfl) (by kernel_rfl) (fun _ _ _ h => h) (Or.inl ⟨by rfl, ?_⟩) (by assumption) ?_
      rotate_left
      focus (intro wS hSw; (try dsimp only at hSw); go_simp; (try with_reducible rfl))
      try simp only [Act.put, List.getElem_toArray, List.getElem_cons_zero, List.getElem_cons_succ, List.setIfInBounds_toArray, List.set_cons_zero, List.set_cons_succ]
      refine wpAnyH_done (by kernel_rfl) ?_ _
      try clear hHeld
      go_wp2_with fail
      go_loopw [16] (fun i wr => ∃ k : Nat, k ≤ 7 ∧ i = .int .i64 k ∧ St B W [.arr (23) 1 (.slice (some ⟨D13, 0, none⟩) 7 7) 7 (us.map (Value.int .u64)), .tape K1] [] wr) (fun i _ => 7 - (intOf i).toNat)
      case atStart => exact ⟨0, by omega, rfl, H26.out.pick [0, 1] rfl (by decide)⟩
      case round =>
        obtain ⟨k, hk, rfl, hst⟩ := hrel
        obtain ⟨u31, rfl⟩ : ∃ u31 : World, u31 = wr := ⟨_, rfl⟩
        have H32 := hid hst
        clear hst
        by_cases hk7 : k < 7
        · skip
          have hk7' : (k : Int) < 7 := by omega
          obtain ⟨u, hu⟩ : ∃ z, us.getD k 0 = z := ⟨_, rfl⟩
          obtain ⟨ua, ub⟩ : 0 ≤ u ∧ u < 18446744073709551616 := by rw [← hu]; exact HUU.out k
          have cu := arr_cell (H32.out.arrOf 0 rfl) (j := k) (by rw [HUL.out]; omega)
          rw [hu] at cu
          have HGu := hid hu
          clear hu
          go_upto_region 13 with fail
          have H33 := hid H32.out.drew
          refine wp_region_held_drew (S := (fun w' => w'.cell? ⟨D13, j, none⟩ = some (.int .u64 z) ∧ w'.cell? ⟨D13, k, none⟩ = some (.int .u64 u))) (by kernel_rfl) ⟨(by have hc := arr_cell (H33.out.arrOf 0 rfl) (j := j) (by rw [HUL.out]; omega); rw [HGz.out] at hc; exact hc), (by have hc := arr_cell (H33.out.arrOf 0 rfl) (j := k) (by rw [HUL.out]; omega); rw [HGu.out] at hc; exact hc)⟩ (fun hHeld => ?_)
          generalize u31.drew = k34 at *
          refine wpAnyH_take (i := 0) (oi := _) (v := ?_) rfl (by kernel_rfl) (by kernel_rfl) (by kernel_rfl) (fun _ _ _ h => h) (Or.inl ⟨by rfl, ?_⟩) (by assumption) ?_
          rotate_left
          focus (intro wS hSw; (try dsimp only at hSw); go_simp; (try with_reducible rfl))
          try simp only [Act.put, List.getElem_toArray, List.getElem_cons_zero, List.getElem_cons_succ, List.setIfInBounds_toArray, List.set_cons_zero, List.set_cons_succ]
          refine wpAnyH_take (i := 1) (oi := _) (v := ?_) rfl (by kernel_rfl) (by kernel_rfl) (by kernel_rfl) (fun _ _ _ h => h) (Or.inl ⟨by rfl, ?_⟩) (by assumption) ?_
          rotate_left
          focus (intro wS hSw; (try dsimp only at hSw); go_simp; (try with_reducible rfl))
          try simp only [Act.put, List.getElem_toArray, List.getElem_cons_zero, List.getElem_cons_succ, List.setIfInBounds_toArray, List.set_cons_zero, List.set_cons_succ]
          refine wpAnyH_take (i := 2) (oi := _) (v := ?_) rfl (by kernel_rfl) (by kernel_rfl) (by kernel_rfl) (fun _ _ _ h => h) (Or.inl ⟨by rfl, ?_⟩) (by assumption) ?_
          rotate_left
          focus (intro wS hSw; (try dsimp only at hSw); go_simp; (try with_reducible rfl))
          try simp only [Act.put, List.getElem_toArray, List.getElem_cons_zero, List.getElem_cons_succ, List.setIfInBounds_toArray, List.set_cons_zero, List.set_cons_succ]
          refine wpAnyH_take (i := 3) (oi := _) (v := ?_) rfl (by kernel_rfl) (by kernel_rfl) (by kernel_rfl) (fun _ _ _ h => h) (Or.inl ⟨by rfl, ?_⟩) (by assumption) ?_
          rotate_left
          focus (intro wS hSw; (try dsimp only at hSw); go_simp; (try with_reducible rfl))
          try simp only [Act.put, List.getElem_toArray, List.getElem_cons_zero, List.getElem_cons_succ, List.setIfInBounds_toArray, List.set_cons_zero, List.set_cons_succ]
          refine wpAnyH_take (i := 4) (oi := _) (v := ?_) rfl (by kernel_rfl) (by kernel_rfl) (by kernel_rfl) (fun _ _ _ h => h) (Or.inl ⟨by rfl, ?_⟩) (by assumption) ?_
          rotate_left
          focus (intro wS hSw; (try dsimp only at hSw); go_simp; (try with_reducible rfl))
          try simp only [Act.put, List.getElem_toArray, List.getElem_cons_zero, List.getElem_cons_succ, List.setIfInBounds_toArray, List.set_cons_zero, List.set_cons_succ]
          refine wpAnyH_take (i := 5) (oi := _) (v := ?_) rfl (by kernel_rfl) (by kernel_rfl) (by kernel_rfl) (fun _ _ _ h => h) (Or.inl ⟨by rfl, ?_⟩) (by assumption) ?_
          rotate_left
          focus (intro wS hSw; (try dsimp only at hSw); go_simp; (try with_reducible rfl))
          try simp only [Act.put, List.getElem_toArray, List.getElem_cons_zero, List.getElem_cons_succ, List.setIfInBounds_toArray, List.set_cons_zero, List.set_cons_succ]
          refine wpAnyH_take (i := 6) (oi := _) (v := ?_) rfl (by kernel_rfl) (by kernel_rfl) (by kernel_rfl) (fun _ _ _ h => h) (Or.inl ⟨by rfl, ?_⟩) (by assumption) ?_
          rotate_left
          focus (intro wS hSw; (try dsimp only at hSw); go_simp; (try with_reducible rfl))
          try simp only [Act.put, List.getElem_toArray, List.getElem_cons_zero, List.getElem_cons_succ, List.setIfInBounds_toArray, List.set_cons_zero, List.set_cons_succ]
          refine wpAnyH_take (i := 7) (oi := _) (v := ?_) rfl (by kernel_rfl) (by kernel_rfl) (by kernel_rfl) (fun _ _ _ h => h) (Or.inl ⟨by rfl, ?_⟩) (by assumption) ?_
          rotate_left
          focus (intro wS hSw; (try dsimp only at hSw); go_simp; (try with_reducible rfl))
          try simp only [Act.put, List.getElem_toArray, List.getElem_cons_zero, List.getElem_cons_succ, List.setIfInBounds_toArray, List.set_cons_zero, List.set_cons_succ]
          refine wpAnyH_ready (rs := [8]) (by kernel_rfl) (by simp) (AllReadyH.cons (o := _) rfl (fun K hK => ?_) AllReadyH.nil)
          go_simp
          go_at_call 23
          refine (compare_any z u (by omega) (by omega) _).mono ?_
          rintro e w35 ⟨rfl, hsw⟩
          have hsw2 : k34 = w35 := by first | exact hsw | exact hsw.symm
          clear hsw
          subst hsw2
          obtain ⟨k36, hk36⟩ : ∃ xx', cmpV z.toNat u.toNat = xx' := ⟨_, rfl⟩
          rw [hk36]
          have HNk36 := hid hk36
          clear hk36
          obtain ⟨b37, hb37⟩ : ∃ xx', cmpOk z.toNat u.toNat = xx' := ⟨_, rfl⟩
          rw [hb37]
          have HNb37 := hid hb37
          clear hb37
          refine hK.out _ _ ?_ (fun hHeld2 => ?_)
          focus ((try dsimp only); (exact ⟨(by have hc := arr_cell (H33.out.arrOf 0 rfl) (j := j) (by rw [HUL.out]; omega); rw [HGz.out] at hc; exact hc), (by have hc := arr_cell (H33.out.arrOf 0 rfl) (j := k) (by rw [HUL.out]; omega); rw [HGu.out] at hc; exact hc)⟩))
          clear hK K
          try simp only [Act.put, List.getElem_toArray, List.getElem_cons_zero, List.getElem_cons_succ, List.setIfInBounds_toArray, List.set_cons_zero, List.set_cons_succ]
          clear hHeld
          have hHeld := hHeld2
          clear hHeld2
          refine wpAnyH_take (i := 9) (oi := _) (v := ?_) rfl (by kernel_rfl) (by kernel_rfl) (by kernel_rfl) (fun _ _ _ h => h) (Or.inl ⟨by rfl, ?_⟩) (by assumption) ?_
          rotate_left
          focus (intro wS hSw; (try dsimp only at hSw); go_simp; (try with_reducible rfl))
          try simp only [Act.put, List.getElem_toArray, List.getElem_cons_zero, List.getElem_cons_succ, List.setIfInBounds_toArray, List.set_cons_zero, List.set_cons_succ]
          refine wpAnyH_take (i := 10) (oi := _) (v := ?_) rfl (by kernel_rfl) (by kernel_rfl) (by kernel_rfl) (fun _ _ _ h => h) (Or.inl ⟨by rfl, ?_⟩) (by assumption) ?_
          rotate_left
          focus (intro wS hSw; (try dsimp only at hSw); go_simp; (try with_reducible rfl))
          try simp only [Act.put, List.getElem_toArray, List.getElem_cons_zero, List.getElem_cons_succ, List.setIfInBounds_toArray, List.set_cons_zero, List.set_cons_succ]
          refine wpAnyH_take (i := 11) (oi := _) (v := ?_) rfl (by kernel_rfl) (by kernel_rfl) (by kernel_rfl) (fun _ _ _ h => h) (Or.inl ⟨by rfl, ?_⟩) (by assumption) ?_
          rotate_left
          focus (intro wS hSw; (try dsimp only at hSw); go_simp; (try with_reducible rfl))
          try simp only [Act.put, List.getElem_toArray, List.getElem_cons_zero, List.getElem_cons_succ, List.setIfInBounds_toArray, List.set_cons_zero, List.set_cons_succ]
          refine wpAnyH_take (i := 12) (oi := _) (v := ?_) rfl (by kernel_rfl) (by kernel_rfl) (by kernel_rfl) (fun _ _ _ h => h) (Or.inl ⟨by rfl, ?_⟩) (by assumption) ?_
          rotate_left
          focus (intro wS hSw; (try dsimp only at hSw); go_simp; (try with_reducible rfl))
          try simp only [Act.put, List.getElem_toArray, List.getElem_cons_zero, List.getElem_cons_succ, List.setIfInBounds_toArray, List.set_cons_zero, List.set_cons_succ]
          refine wpAnyH_take (i := 13) (oi := _) (v := ?_) rfl (by kernel_rfl) (by kernel_rfl) (by kernel_rfl) (fun _ _ _ h => h) (Or.inl ⟨by rfl, ?_⟩) (by assumption) ?_
          rotate_left
          focus (intro wS hSw; (try dsimp only at hSw); go_simp; (try with_reducible rfl))
          try simp only [Act.put, List.getElem_toArray, List.getElem_cons_zero, List.getElem_cons_succ, List.setIfInBounds_toArray, List.set_cons_zero, List.set_cons_succ]
          refine wpAnyH_done (by kernel_rfl) ?_ _
          try clear hHeld
          go_upto_region 14 with fail
          have H38 := hid H33.out.drew
          refine wp_region_held_drew (S := (fun w' => w'.cell? ⟨D13, j, none⟩ = some (.int .u64 z) ∧ w'.cell? ⟨D13, k, none⟩ = some (.int .u64 u))) (by kernel_rfl) ⟨(by have hc := arr_cell (H38.out.arrOf 0 rfl) (j := j) (by rw [HUL.out]; omega); rw [HGz.out] at hc; exact hc), (by have hc := arr_cell (H38.out.arrOf 0 rfl) (j := k) (by rw [HUL.out]; omega); rw [HGu.out] at hc; exact hc)⟩ (fun hHeld => ?_)
          generalize k34.drew = k39 at *
          refine wpAnyH_take (i := 0) (oi := _) (v := ?_) rfl (by kernel_rfl) (by kernel_rfl) (by kernel_rfl) (fun _ _ _ h => h) (Or.inl ⟨by rfl, ?_⟩) (by assumption) ?_
          rotate_left
          focus (intro wS hSw; (try dsimp only at hSw); go_simp; (try with_reducible rfl))
          try simp only [Act.put, List.getElem_toArray, List.getElem_cons_zero, List.getElem_cons_succ, List.setIfInBounds_toArray, List.set_cons_zero, List.set_cons_succ]
          refine wpAnyH_take (i := 1) (oi := _) (v := ?_) rfl (by kernel_rfl) (by kernel_rfl) (by kernel_rfl) (fun _ _ _ h => h) (Or.inl ⟨by rfl, ?_⟩) (by assumption) ?_
          rotate_left
          focus (intro wS hSw; (try dsimp only at hSw); go_simp; (try with_reducible rfl))
          try simp only [Act.put, List.getElem_toArray, List.getElem_cons_zero, List.getElem_cons_succ, List.setIfInBounds_toArray, List.set_cons_zero, List.set_cons_succ]
          refine wpAnyH_take (i := 2) (oi := _) (v := ?_) rfl (by kernel_rfl) (by kernel_rfl) (by kernel_rfl) (fun _ _ _ h => h) (Or.inl ⟨by rfl, ?_⟩) (by assumption) ?_
          rotate_left
          focus (intro wS hSw; (try dsimp only at hSw); go_simp; (try with_reducible rfl))
          try simp only [Act.put, List.getElem_toArray, List.getElem_cons_zero, List.getElem_cons_succ, List.setIfInBounds_toArray, List.set_cons_zero, List.set_cons_succ]
          refine wpAnyH_take (i := 3) (oi := _) (v := ?_) rfl (by kernel_rfl) (by kernel_rfl) (by kernel_rfl) (fun _ _ _ h => h) (Or.inl ⟨by rfl, ?_⟩) (by assumption) ?_
          rotate_left
          focus (intro wS hSw; (try dsimp only at hSw); go_simp; (try with_reducible rfl))
          try simp only [Act.put, List.getElem_toArray, List.getElem_cons_zero, List.getElem_cons_succ, List.setIfInBounds_toArray, List.set_cons_zero, List.set_cons_succ]
          refine wpAnyH_take (i := 4) (oi := _) (v := ?_) rfl (by kernel_rfl) (by kernel_rfl) (by kernel_rfl) (fun _ _ _ h => h) (Or.inl ⟨by rfl, ?_⟩) (by assumption) ?_
          rotate_left
          focus (intro wS hSw; (try dsimp only at hSw); go_simp; (try with_reducible rfl))
          try simp only [Act.put, List.getElem_toArray, List.getElem_cons_zero, List.getElem_cons_succ, List.setIfInBounds_toArray, List.set_cons_zero, List.set_cons_succ]
          refine wpAnyH_take (i := 5) (oi := _) (v := ?_) rfl (by kernel_rfl) (by kernel_rfl) (by kernel_rfl) (fun _ _ _ h => h) (Or.inl ⟨by rfl, ?_⟩) (by assumption) ?_
          rotate_left
          focus (intro wS hSw; (try dsimp only at hSw); go_simp; (try with_reducible rfl))
          try simp only [Act.put, List.getElem_toArray, List.getElem_cons_zero, List.getElem_cons_succ, List.setIfInBounds_toArray, List.set_cons_zero, List.set_cons_succ]
          refine wpAnyH_take (i := 6) (oi := _) (v := ?_) rfl (by kernel_rfl) (by kernel_rfl) (by kernel_rfl) (fun _ _ _ h => h) (Or.inl ⟨by rfl, ?_⟩) (by assumption) ?_
          rotate_left
          focus (intro wS hSw; (try dsimp only at hSw); go_simp; (try with_reducible rfl))
          try simp only [Act.put, List.getElem_toArray, List.getElem_cons_zero, List.getElem_cons_succ, List.setIfInBounds_toArray, List.set_cons_zero, List.set_cons_succ]
          refine wpAnyH_take (i := 7) (oi := _) (v := ?_) rfl (by kernel_rfl) (by kernel_rfl) (by kernel_rfl) (fun _ _ _ h => h) (Or.inl ⟨by rfl, ?_⟩) (by assumption) ?_
          rotate_left
          focus (intro wS hSw; (try dsimp only at hSw); go_simp; (try with_reducible rfl))
          try simp only [Act.put, List.getElem_toArray, List.getElem_cons_zero, List.getElem_cons_succ, List.setIfInBounds_toArray, List.set_cons_zero, List.set_cons_succ]
          refine wpAnyH_ready (rs := [8]) (by kernel_rfl) (by simp) (AllReadyH.cons (o := _) rfl (fun K hK => ?_) AllReadyH.nil)
          go_simp
          go_at_call 24
          refine (qcompare_any z u (by omega) (by omega) _).mono ?_
          rintro e w40 ⟨rfl, hsw⟩
          have hsw2 : k39 = w40 := by first | exact hsw | exact hsw.symm
          clear hsw
          subst hsw2
          rw [HNk36.out]
          rw [HNb37.out]
          refine hK.out _ _ ?_ (fun hHeld2 => ?_)
          focus ((try dsimp only); (exact ⟨(by have hc := arr_cell (H38.out.arrOf 0 rfl) (j := j) (by rw [HUL.out]; omega); rw [HGz.out] at hc; exact hc), (by have hc := arr_cell (H38.out.arrOf 0 rfl) (j := k) (by rw [HUL.out]; omega); rw [HGu.out] at hc; exact hc)⟩))
          clear hK K
          try simp only [Act.put, List.getElem_toArray, List.getElem_cons_zero, List.getElem_cons_succ, List.setIfInBounds_toArray, List.set_cons_zero, List.set_cons_succ]
          clear hHeld
          have hHeld := hHeld2
          clear hHeld2
          refine wpAnyH_take (i := 9) (oi := _) (v := ?_) rfl (by kernel_rfl) (by kernel_rfl) (by kernel_rfl) (fun _ _ _ h => h) (Or.inl ⟨by rfl, ?_⟩) (by assumption) ?_
          rotate_left
          focus (intro wS hSw; (try dsimp only at hSw); go_simp; (try with_reducible rfl))
          try simp only [Act.put, List.getElem_toArray, List.getElem_cons_zero, List.getElem_cons_succ, List.setIfInBounds_toArray, List.set_cons_zero, List.set_cons_succ]
          refine wpAnyH_take (i := 10) (oi := _) (v := ?_) rfl (by kernel_rfl) (by kernel_rfl) (by kernel_rfl) (fun _ _ _ h => h) (Or.inl ⟨by rfl, ?_⟩) (by assumption) ?_
          rotate_left
          focus (intro wS hSw; (try dsimp only at hSw); go_simp; (try with_reducible rfl))
          try simp only [Act.put, List.getElem_toArray, List.getElem_cons_zero, List.getElem_cons_succ, List.setIfInBounds_toArray, List.set_cons_zero, List.set_cons_succ]
          refine wpAnyH_take (i := 11) (oi := _) (v := ?_) rfl (by kernel_rfl) (by kernel_rfl) (by kernel_rfl) (fun _ _ _ h => h) (Or.inl ⟨by rfl, ?_⟩) (by assumption) ?_
          rotate_left
          focus (intro wS hSw; (try dsimp only at hSw); go_simp; (try with_reducible rfl))
          try simp only [Act.put, List.getElem_toArray, List.getElem_cons_zero, List.getElem_cons_succ, List.setIfInBounds_toArray, List.set_cons_zero, List.set_cons_succ]
          refine wpAnyH_take (i := 12) (oi := _) (v := ?_) rfl (by kernel_rfl) (by kernel_rfl) (by kernel_rfl) (fun _ _ _ h => h) (Or.inl ⟨by rfl, ?_⟩) (by assumption) ?_
          rotate_left
          focus (intro wS hSw; (try dsimp only at hSw); go_simp; (try with_reducible rfl))
          try simp only [Act.put, List.getElem_toArray, List.getElem_cons_zero, List.getElem_cons_succ, List.setIfInBounds_toArray, List.set_cons_zero, List.set_cons_succ]
          refine wpAnyH_take (i := 13) (oi := _) (v := ?_) rfl (by kernel_rfl) (by kernel_rfl) (by kernel_rfl) (fun _ _ _ h => h) (Or.inl ⟨by rfl, ?_⟩) (by assumption) ?_
          rotate_left
          focus (intro wS hSw; (try dsimp only at hSw); go_simp; (try with_reducible rfl))
          try simp only [Act.put, List.getElem_toArray, List.getElem_cons_zero, List.getElem_cons_succ, List.setIfInBounds_toArray, List.set_cons_zero, List.set_cons_succ]
          refine wpAnyH_done (by kernel_rfl) ?_ _
          try clear hHeld
          go_wp2_with fail
          go_roundw
          case rel => exact ⟨k + 1, by omega, by go_num, H38.out.pick [0, 1] rfl (by decide)⟩
          case measure => first | (simp [intOf]; omega) | (simp [intOf]; done)
        · skip
          have hk7' : ¬ ((k : Int) < 7) := by omega
          go_wp2_with fail
          go_roundw
          case rel => exact ⟨j + 1, by omega, by go_num, H32.out.pick [0, 1] rfl (by decide)⟩
          case measure => first | (simp [intOf]; omega) | (simp [intOf]; done)
    · skip
      have hj7' : ¬ ((j : Int) < 7) := by omega
      go_wp2_with fail
      refine (sane6 _ (HT.out.below (by first | exact H19.out.below' | exact H19.out.below) HB0.out)).mono ?_
      rintro e w41 ⟨rfl, hb⟩
      have H42 := hid (H19.out.call hb)
      clear hb
      go_wp2_with fail
      go_ret
      exact ⟨rfl, by first | exact H42.out.below | exact H42.out.below'⟩
end Go.Proofs.YtfmahdcnikeaiaaDoor
