/-
  The walk of IeeeQuantizes: quantized weights are those of the reference.
-/
import Derived.Test.YtfmahdcnikeaiaaDoorSane6
import Derived.Test.YtfmahdcnikeaiaaDoorKX
import Derived.Test.YtfmahdcnikeaiaaDoorKB
import Derived.Test.YtfmahdcnikeaiaaDoorArr2
namespace Go.Proofs.YtfmahdcnikeaiaaDoor
open Go.RowKit
attribute [local go_sem ↓] Go.wp_at_zero Go.wp_at_succ
set_option linter.unusedVariables false
set_option linter.unusedSimpArgs false

theorem slu_own {w : World} {B : Nat} {e : TypeId} {g : Nat} {us : List Int} (h : w.ownsRow B e 1 (.slice (some ⟨g, 0, none⟩) us.length us.length) us.length (us.map (Value.int .u64))) (hl : us.length ≤ 1000000) : Slu w (some ⟨g, 0, none⟩) us.length us.length us := by
  refine Slu.lit us (fun j hj => ?_) hl
  have := World.ownsRow.cells h (g := g) rfl j (.int .u64 (us.getD j 0)) (by rw [List.getElem?_map, List.getD_eq_getElem?_getD, List.getElem?_eq_getElem hj]; rfl)
  simp only [Addr.add] at this
  split at this
  · rename_i e0; subst e0; exact this
  · rw [Nat.zero_add] at this; exact this

set_option maxRecDepth 100000 in
set_option maxHeartbeats 12800000 in
theorem walk_IeeeQuantizes (a : Option Addr) (n c : Nat) (zs : List Int) (ua : Option Addr) (un uc : Nat) (us : List Int) (shift : Int) (W : World) (hr : RowIn .i64 W a n c zs) (hu : RowIn .u64 W ua un uc us) (_ : I64 shift) (hT : Tab W) :
    Calls Tryd.prog 4 #[.slice a n c, .slice ua un uc, .int .i64 shift] W fun e w' => e = .returned (.bool true) ∧ Below W.heap.size W w' := by
  obtain ⟨B, hB⟩ : ∃ B, W.heap.size = B := ⟨_, rfl⟩
  have HI0 := hid (St.init hB)
  have HT := hid hT
  have HB0 := hid (show 0 < B from by rw [← hB]; exact hT.pos)
  clear hT
  have HN := hid (nearRow hr hB)
  have HR := hid hr
  have HUS := hid (show Slu W ua un uc us from ⟨hu.row, hu.nc, hu.cap⟩)
  have HUU := hid (show U64s us from u64s_all (fun x hx => by have := u64_of_wf (hu.wf x hx); exact ⟨this.1, by have := this.2; omega⟩))
  clear hr hu
  go_enter Tryd.func4, Tryd.ntmps4
  go_wp2_with fail
  obtain ⟨K1, hK1⟩ : ∃ D, W.heap.size = D := ⟨_, rfl⟩
  refine (newB_any B _ _ _ _ _ HR.out.len (HI0.out.oldRow HR.out.row) HN.out HI0.out.size).mono ?_
  rintro e w2 ⟨rfl, ht, hb, hs⟩
  rw [hK1] at ht ⊢
  have H3 := hid (HI0.out.newTape ht hb hK1)
  clear ht hb hs hK1
  go_wp2_with fail
  go_loopw [8] (fun i wr => ∃ j : Nat, j ≤ 6 ∧ i = .int .i64 j ∧ St B W [.tape K1] [] wr) (fun i _ => 6 - (intOf i).toNat)
  case atStart => exact ⟨0, by omega, rfl, H3.out.pick [0] rfl (by decide)⟩
  case round =>
    obtain ⟨j, hj, rfl, hst⟩ := hrel
    obtain ⟨u4, rfl⟩ : ∃ u4 : World, u4 = wr := ⟨_, rfl⟩
    have H5 := hid hst
    clear hst
    by_cases hj8 : j < 6
    · skip
      have hj8' : (j : Int) < 6 := by omega
      go_wp2_with fail
      refine (third_any B K1 _ (H5.out.tapeAt 0 rfl)).mono ?_
      rintro e w6 ⟨tg8, tl9, rfl, hlen, hu6, ho, htn, hgn⟩
      have H7 := hid (St.addE2 H5.out (H5.out.next 0 rfl htn hgn) ho)
      have HTUtl9 := hid hu6
      have hltl9 : tl9.length ≤ 3 := by omega
      clear hlen hu6 ho htn hgn
      go_wp2_with fail
      refine (nextB_any B K1 _ _ (by omega) (H7.out.tapeAt 1 rfl)).mono ?_
      rintro e w11 ⟨x10, rfl, x10a, x10b, htn, hgn, hsn⟩
      have H12 := hid (H7.out.next 1 rfl htn hgn)
      clear htn hgn hsn
      by_cases hj5 : j = 5
      · skip
        have hj5' : ((j : Int) == 5) = true := by simp; omega
        go_wp2_with fail
        refine (quantize_any _ _ _ us shift _ (H12.out.oldU HUS.out) HUU.out (HT.out.below (by first | exact H12.out.below' | exact H12.out.below) HB0.out)).mono ?_
        rintro e w13 ⟨v15, rfl, ho, hb⟩
        obtain ⟨c16, hc16⟩ : ∃ xx', qCode (nats us) shift = xx' := ⟨_, rfl⟩
        rw [hc16]
        have HNc16 := hid hc16
        clear hc16
        obtain ⟨l17, hl17⟩ : ∃ xx', qList (nats us) shift = xx' := ⟨_, rfl⟩
        rw [hl17] at ho
        have HNl17 := hid hl17
        clear hl17
        have H14 := hid (H12.out.grow hb ho)
        obtain ⟨v15a, v15c, rfl, _⟩ := ho.slc
        clear ho hb
        go_wp2_with fail
        refine (rquantize_any _ _ _ us shift _ (H14.out.oldU HUS.out) HUU.out).mono ?_
        rintro e w18 ⟨v20, rfl, ho, hb⟩
        rw [HNc16.out]
        rw [HNl17.out] at ho
        have H19 := hid (H14.out.grow hb ho)
        obtain ⟨v20a, v20c, rfl, _⟩ := ho.slc
        clear ho hb
        go_wp2_with fail
        refine (qsame_any _ _ _ l17 _ _ _ l17 _ (H19.out.slc 1 rfl) (H19.out.slc 0 rfl)).mono ?_
        rintro e w21 ⟨rfl, m23, hdr⟩
        have H22 := hid (show St B W [.own (.slice v20a l17.length v20c) l17, .own (.slice v15a l17.length v15c) l17, .arr (23) 1 (.slice (some ⟨tg8, 0, none⟩) tl9.length tl9.length) (tl9.length) (tl9.map (Value.int .u64)), .tape K1] [] w21 from by rw [hdr]; exact H19.out.drewN m23)
        clear hdr
        rw [show lEq l17 l17 = true from by unfold lEq; simp]
        go_wp2_with fail
        go_roundw
        case rel => exact ⟨j + 1, by omega, by go_num, H22.out.pick [3] rfl (by decide)⟩
        case measure => first | (simp [intOf]; omega) | (simp [intOf]; done)
      · skip
        have hj5' : ((j : Int) == 5) = false := by simp; omega
        go_wp2_with fail
        refine (quantize_any _ _ _ tl9 (x10 - 1) _ (slu_own (H12.out.arrOf 0 rfl) (by omega)) HTUtl9.out (HT.out.below (by first | exact H12.out.below' | exact H12.out.below) HB0.out)).mono ?_
        rintro e w24 ⟨v26, rfl, ho, hb⟩
        obtain ⟨c27, hc27⟩ : ∃ xx', qCode (nats tl9) (x10 - 1) = xx' := ⟨_, rfl⟩
        rw [hc27]
        have HNc27 := hid hc27
        clear hc27
        obtain ⟨l28, hl28⟩ : ∃ xx', qList (nats tl9) (x10 - 1) = xx' := ⟨_, rfl⟩
        rw [hl28] at ho
        have HNl28 := hid hl28
        clear hl28
        have H25 := hid (H12.out.grow hb ho)
        obtain ⟨v26a, v26c, rfl, _⟩ := ho.slc
        clear ho hb
        go_wp2_with fail
        refine (rquantize_any _ _ _ tl9 (x10 - 1) _ (slu_own (H25.out.arrOf 1 rfl) (by omega)) HTUtl9.out).mono ?_
        rintro e w29 ⟨v31, rfl, ho, hb⟩
        rw [HNc27.out]
        rw [HNl28.out] at ho
        have H30 := hid (H25.out.grow hb ho)
        obtain ⟨v31a, v31c, rfl, _⟩ := ho.slc
        clear ho hb
        go_wp2_with fail
        refine (qsame_any _ _ _ l28 _ _ _ l28 _ (H30.out.slc 1 rfl) (H30.out.slc 0 rfl)).mono ?_
        rintro e w32 ⟨rfl, m34, hdr⟩
        have H33 := hid (show St B W [.own (.slice v31a l28.length v31c) l28, .own (.slice v26a l28.length v26c) l28, .arr (23) 1 (.slice (some ⟨tg8, 0, none⟩) tl9.length tl9.length) (tl9.length) (tl9.map (Value.int .u64)), .tape K1] [] w32 from by rw [hdr]; exact H30.out.drewN m34)
        clear hdr
        rw [show lEq l28 l28 = true from by unfold lEq; simp]
        go_wp2_with fail
        go_roundw
        case rel => exact ⟨j + 1, by omega, by go_num, H33.out.pick [3] rfl (by decide)⟩
        case measure => first | (simp [intOf]; omega) | (simp [intOf]; done)
    · skip
      have hj8' : ¬ ((j : Int) < 6) := by omega
      go_wp2_with fail
      refine (sane6 _ (HT.out.below (by first | exact H5.out.below' | exact H5.out.below) HB0.out)).mono ?_
      rintro e w35 ⟨rfl, hb⟩
      have H36 := hid (H5.out.call hb)
      clear hb
      go_wp2_with fail
      go_ret
      exact ⟨rfl, by first | exact H36.out.below | exact H36.out.below'⟩
end Go.Proofs.YtfmahdcnikeaiaaDoor
