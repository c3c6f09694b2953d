/-
  The walk of ResizeCrops: the tile of a rectangle is the crop of the tile of the whole result.
-/
import Derived.Test.YtaefdkinpaonkaaSane11
import Derived.Test.YtaefdkinpaonkaaRzOk
import Derived.Test.YtaefdkinpaonkaaTable
import Derived.Test.YtaefdkinpaonkaaTaps3
import Derived.Test.YtaefdkinpaonkaaEdgeOk
import Derived.Test.YtaefdkinpaonkaaKX
import Derived.Test.YtaefdkinpaonkaaKC
import Derived.Test.YtaefdkinpaonkaaKE
import Derived.Test.YtaefdkinpaonkaaCvLaw
namespace Go.Proofs.Ytaefdkinpaonkaa
open Go.RowKit
attribute [local go_sem ↓] Go.wp_at_zero Go.wp_at_succ
set_option linter.unusedVariables false
set_option linter.unusedSimpArgs false

set_option maxRecDepth 100000 in
set_option maxHeartbeats 12800000 in
theorem walk_ResizeCrops (a : Option Addr) (n c : Nat) (zs : List Int) (W : World) (hr : RowIn .i64 W a n c zs) :
  Calls Try.prog 5 #[.slice a n c] W fun e w' => e = .returned (.bool true) ∧ Below W.heap.size W w' := by
 obtain ⟨B, hB⟩ : ∃ B, W.heap.size = B := ⟨_, rfl⟩
 have HI0 := hid (St.init hB)
 have HN := hid (nearRow hr hB)
 have HR := hid hr
 clear hr
 go_enter Try.func5, Try.ntmps5
 go_wp2_with fail
 obtain ⟨K1, hK1⟩ : ∃ D, W.heap.size = D := ⟨_, rfl⟩
 refine (newB_any B _ _ _ _ _ HR.out.len (HI0.out.oldRow HR.out.row) HN.out HI0.out.size).mono ?_
 rintro e w2 ⟨rfl, ht, hb, hs⟩
 rw [hK1] at ht ⊢
 have H3 := hid (HI0.out.newTape ht hb hK1)
 clear ht hb hs hK1
 go_wp2_with fail
 refine (plane_any B K1 _ (H3.out.tapeAt 0 rfl)).mono ?_
 rintro e w5 ⟨pw4, ph4, pw41, pw42, ph41, ph42, pm4, pv4, ps4, rfl, hv, hm, ho, ht, hg⟩
 have H6 := hid (H3.out.add (H3.out.next 0 rfl ht hg) ho)
 have HVps4 := hid hv
 have HMps4 := hid hm
 obtain ⟨pv4a, pv4c, rfl, _⟩ := ho.slc
 clear hv hm ho ht hg
 obtain ⟨D7, hD7⟩ : ∃ D, w5.heap.size = D := ⟨_, rfl⟩
 go_upto_region 3 with fail
 have H8 := hid (show St B W [.cells D7 #[.int .i64 pw4, .int .i64 ph4, .int .i64 pm4, .slice pv4a ps4.length pv4c] 40, .own (.slice pv4a ps4.length pv4c) ps4, .tape K1] [] (w5.alloc (.cells #[.int .i64 pw4, .int .i64 ph4, .int .i64 pm4, .slice pv4a ps4.length pv4c] 40)) from (H6.out.alloc #[.int .i64 pw4, .int .i64 ph4, .int .i64 pm4, .slice pv4a ps4.length pv4c] 40 hD7))
 first | refine gen_code H8.out ?_ | refine gen_list H8.out ?_ | refine gen_calls H8.out ?_
 intro w9 hG
 clear H8
 have H8 := hid hG
 clear hG
 clear hD7
 have hmb := HMps4.out
 obtain ⟨_, _, _, _, _, hm1, _⟩ := pOk_iff.1 (pValid_iff.1 HVps4.out).1
 go_cut [5, 6, 7] (fun s s1 s2 wx => ∃ (RE : Nat) (xta : Option Addr) (xtc : Nat) (xTl : Tbl) (xtp : List (Int × Ro)) (yta : Option Addr) (ytc : Nat) (yTl : Tbl) (ytp : List (Int × Ro)) (ep ef : Int) (RS : List Ro), s = .slice xta xTl.length xtc ∧ s1 = .slice yta yTl.length ytc ∧ s2 = .pointer (some ⟨RE, 0, none⟩) ∧ TQ B RS xtp ∧ tapD xtp = xTl ∧ TQ B RS ytp ∧ tapD ytp = yTl ∧ TbOk xTl ∧ TbOk yTl ∧ bValid ep ef pm4 = true ∧ St B W [.arr (32) 2 (.slice xta xTl.length xtc) (xTl.length) (tapV xtp), .arr (32) 2 (.slice yta yTl.length ytc) (yTl.length) (tapV ytp), .cells RE #[.int .i64 ep, .int .i64 ef] 43, .cells D7 #[.int .i64 pw4, .int .i64 ph4, .int .i64 pm4, .slice pv4a ps4.length pv4c] 40, .own (.slice pv4a ps4.length pv4c) ps4, .tape K1] RS wx)
 case first =>
  go_upto_region 3 with fail
  have H10 := hid H8.out.drew
  refine wp_region_held_drew (S := (fun w' => w'.cell? ⟨D7, 0, none⟩ = some (.int .i64 pw4) ∧ w'.cell? ⟨D7, 1, none⟩ = some (.int .i64 ph4) ∧ w'.cell? ⟨D7, 2, none⟩ = some (.int .i64 pm4) ∧ w'.cell? ⟨D7, 3, none⟩ = some (.slice pv4a ps4.length pv4c))) (by kernel_rfl) ⟨H10.out.cell 0 rfl 0 rfl, H10.out.cell 0 rfl 1 rfl, H10.out.cell 0 rfl 2 rfl, H10.out.cell 0 rfl 3 rfl⟩ (fun hHeld => ?_)
  generalize w9.drew = k11 at *
  refine wpAnyH_take (i := 0) (oi := _) (v := ?_) rfl (by kernel_rfl) (by kernel_rfl) (by kernel_rfl) (fun _ _ _ h => h) (Or.inl ⟨by rfl, ?_⟩) (by assumption) ?_
  rotate_left
  focus (intro wS hSw; (try dsimp only at hSw); go_simp; (try with_reducible rfl))
  try simp only [Act.put, List.getElem_toArray, List.getElem_cons_zero, List.getElem_cons_succ, List.setIfInBounds_toArray, List.set_cons_zero, List.set_cons_succ]
  refine wpAnyH_take (i := 1) (oi := _) (v := ?_) rfl (by kernel_rfl) (by kernel_rfl) (by kernel_rfl) (fun _ _ _ h => h) (Or.inl ⟨by rfl, ?_⟩) (by assumption) ?_
  rotate_left
  focus (intro wS hSw; (try dsimp only at hSw); go_simp; (try with_reducible rfl))
  try simp only [Act.put, List.getElem_toArray, List.getElem_cons_zero, List.getElem_cons_succ, List.setIfInBounds_toArray, List.set_cons_zero, List.set_cons_succ]
  refine wpAnyH_take (i := 2) (oi := _) (v := ?_) rfl (by kernel_rfl) (by kernel_rfl) (by kernel_rfl) (fun _ _ _ h => h) (Or.inl ⟨by rfl, ?_⟩) (by assumption) ?_
  rotate_left
  focus (intro wS hSw; (try dsimp only at hSw); go_simp; (try with_reducible rfl))
  try simp only [Act.put, List.getElem_toArray, List.getElem_cons_zero, List.getElem_cons_succ, List.setIfInBounds_toArray, List.set_cons_zero, List.set_cons_succ]
  refine wpAnyH_take (i := 4) (oi := _) (v := ?_) rfl (by kernel_rfl) (by kernel_rfl) (by kernel_rfl) (fun _ _ _ h => h) (Or.inl ⟨by rfl, ?_⟩) (by assumption) ?_
  rotate_left
  focus (intro wS hSw; (try dsimp only at hSw); go_simp; (try with_reducible rfl))
  try simp only [Act.put, List.getElem_toArray, List.getElem_cons_zero, List.getElem_cons_succ, List.setIfInBounds_toArray, List.set_cons_zero, List.set_cons_succ]
  refine wpAnyH_take (i := 5) (oi := _) (v := ?_) rfl (by kernel_rfl) (by kernel_rfl) (by kernel_rfl) (fun _ _ _ h => h) (Or.inl ⟨by rfl, ?_⟩) (by assumption) ?_
  rotate_left
  focus (intro wS hSw; (try dsimp only at hSw); go_simp; (try with_reducible rfl))
  try simp only [Act.put, List.getElem_toArray, List.getElem_cons_zero, List.getElem_cons_succ, List.setIfInBounds_toArray, List.set_cons_zero, List.set_cons_succ]
  refine wpAnyH_take (i := 6) (oi := _) (v := ?_) rfl (by kernel_rfl) (by kernel_rfl) (by kernel_rfl) (fun _ _ _ h => h) (Or.inl ⟨by rfl, ?_⟩) (by assumption) ?_
  rotate_left
  focus (intro wS hSw; (try dsimp only at hSw); go_simp; (try with_reducible rfl))
  try simp only [Act.put, List.getElem_toArray, List.getElem_cons_zero, List.getElem_cons_succ, List.setIfInBounds_toArray, List.set_cons_zero, List.set_cons_succ]
  refine wpAnyH_take (i := 8) (oi := _) (v := ?_) rfl (by kernel_rfl) (by kernel_rfl) (by kernel_rfl) (fun _ _ _ h => h) (Or.inl ⟨by rfl, ?_⟩) (by assumption) ?_
  rotate_left
  focus (intro wS hSw; (try dsimp only at hSw); go_simp; (try with_reducible rfl))
  try simp only [Act.put, List.getElem_toArray, List.getElem_cons_zero, List.getElem_cons_succ, List.setIfInBounds_toArray, List.set_cons_zero, List.set_cons_succ]
  refine wpAnyH_take (i := 9) (oi := _) (v := ?_) rfl (by kernel_rfl) (by kernel_rfl) (by kernel_rfl) (fun _ _ _ h => h) (Or.inl ⟨by rfl, ?_⟩) (by assumption) ?_
  rotate_left
  focus (intro wS hSw; (try dsimp only at hSw); go_simp; (try with_reducible rfl))
  try simp only [Act.put, List.getElem_toArray, List.getElem_cons_zero, List.getElem_cons_succ, List.setIfInBounds_toArray, List.set_cons_zero, List.set_cons_succ]
  refine wpAnyH_take (i := 10) (oi := _) (v := ?_) rfl (by kernel_rfl) (by kernel_rfl) (by kernel_rfl) (fun _ _ _ h => h) (Or.inl ⟨by rfl, ?_⟩) (by assumption) ?_
  rotate_left
  focus (intro wS hSw; (try dsimp only at hSw); go_simp; (try with_reducible rfl))
  try simp only [Act.put, List.getElem_toArray, List.getElem_cons_zero, List.getElem_cons_succ, List.setIfInBounds_toArray, List.set_cons_zero, List.set_cons_succ]
  refine wpAnyH_ready (rs := [3, 12]) (by kernel_rfl) (by simp) (AllReadyH.cons (o := _) rfl (fun K hK => ?_) (AllReadyH.cons (o := _) rfl (fun K hK => ?_) AllReadyH.nil))
  ·go_simp
   go_at_call 10
   refine (table_any B K1 pw4 _ (by omega) (H10.out.tapeAt 2 rfl)).mono ?_
   rintro e w12 ⟨v14, T15, rfl, hok, ho, ht, hg⟩
   obtain ⟨tp16, R17, ta20, tc21, rfl, htd, htq, hmo, hst⟩ := St.addTT H10.out (H10.out.next 2 rfl ht hg) ho
   obtain ⟨T15l0, T15l1⟩ : 1 ≤ T15.length ∧ T15.length ≤ 6 := ⟨hok.l0, hok.l1⟩
   have HOKT15 := hid hok
   have HQ18 := hid htq
   have HD19 := hid htd
   have H13 := hid hst
   clear htd htq hmo hst ho ht hg hok
   refine hK.out _ _ ?_ (fun hHeld2 => ?_)
   focus ((try dsimp only); (exact ⟨H13.out.cell 1 rfl 0 rfl, H13.out.cell 1 rfl 1 rfl, H13.out.cell 1 rfl 2 rfl, H13.out.cell 1 rfl 3 rfl⟩))
   clear hK K
   try simp only [Act.put, List.getElem_toArray, List.getElem_cons_zero, List.getElem_cons_succ, List.setIfInBounds_toArray, List.set_cons_zero, List.set_cons_succ]
   clear hHeld
   have hHeld := hHeld2
   clear hHeld2
   refine wpAnyH_ready (rs := [7, 12]) (by kernel_rfl) (by simp) (AllReadyH.cons (o := _) rfl (fun K hK => ?_) (AllReadyH.cons (o := _) rfl (fun K hK => ?_) AllReadyH.nil))
   ·go_simp
    go_at_call 10
    refine (table_any B K1 ph4 _ (by omega) (H13.out.tapeAt 3 rfl)).mono ?_
    rintro e w22 ⟨v24, T25, rfl, hok, ho, ht, hg⟩
    obtain ⟨tp26, R27, ta30, tc31, rfl, htd, htq, hmo, hst⟩ := St.addTT H13.out (H13.out.next 3 rfl ht hg) ho
    obtain ⟨T25l0, T25l1⟩ : 1 ≤ T25.length ∧ T25.length ≤ 6 := ⟨hok.l0, hok.l1⟩
    have HOKT25 := hid hok
    have HQ28 := hid htq
    have HD29 := hid htd
    have H23 := hid hst
    have HQ32 := hid (hmo _ HQ18.out)
    clear htd htq hmo hst ho ht hg hok
    refine hK.out _ _ ?_ (fun hHeld2 => ?_)
    focus ((try dsimp only); (exact ⟨H23.out.cell 2 rfl 0 rfl, H23.out.cell 2 rfl 1 rfl, H23.out.cell 2 rfl 2 rfl, H23.out.cell 2 rfl 3 rfl⟩))
    clear hK K
    try simp only [Act.put, List.getElem_toArray, List.getElem_cons_zero, List.getElem_cons_succ, List.setIfInBounds_toArray, List.set_cons_zero, List.set_cons_succ]
    clear hHeld
    have hHeld := hHeld2
    clear hHeld2
    refine wpAnyH_ready (rs := [11, 12]) (by kernel_rfl) (by simp) (AllReadyH.cons (o := _) rfl (fun K hK => ?_) (AllReadyH.cons (o := _) rfl (fun K hK => ?_) AllReadyH.nil))
    ·go_simp
     go_at_call 15
     refine (edgeok_any B K1 _ _ (by omega) (H23.out.tapeAt 4 rfl)).mono ?_
     rintro e w34 ⟨e33_0, e33_1, rfl, hev, ht, hg⟩
     have H35 := hid (H23.out.next 4 rfl ht hg)
     have HEe33 := hid hev
     clear ht hg hev
     refine hK.out _ _ ?_ (fun hHeld2 => ?_)
     focus ((try dsimp only); (exact ⟨H35.out.cell 2 rfl 0 rfl, H35.out.cell 2 rfl 1 rfl, H35.out.cell 2 rfl 2 rfl, H35.out.cell 2 rfl 3 rfl⟩))
     clear hK K
     try simp only [Act.put, List.getElem_toArray, List.getElem_cons_zero, List.getElem_cons_succ, List.setIfInBounds_toArray, List.set_cons_zero, List.set_cons_succ]
     clear hHeld
     have hHeld := hHeld2
     clear hHeld2
     refine wpAnyH_ready (rs := [12]) (by kernel_rfl) (by simp) (AllReadyH.cons (o := _) rfl (fun K hK => ?_) AllReadyH.nil)
     obtain ⟨D36, hD36⟩ : ∃ D, w34.heap.size = D := ⟨_, rfl⟩
     have H37 := hid (H35.out.alloc #[.int .i64 0, .int .i64 0] 43 hD36)
     go_simp
     refine hK.out _ _ ?_ (fun hHeld2 => ?_)
     focus ((try dsimp only); (exact ⟨H37.out.cell 3 rfl 0 rfl, H37.out.cell 3 rfl 1 rfl, H37.out.cell 3 rfl 2 rfl, H37.out.cell 3 rfl 3 rfl⟩))
     clear hK K hHeld
     try simp only [Act.put, List.getElem_toArray, List.getElem_cons_zero, List.getElem_cons_succ, List.setIfInBounds_toArray, List.set_cons_zero, List.set_cons_succ]
     clear hD36
     generalize (w34.alloc (.cells #[.int .i64 0, .int .i64 0] 43)) = k38 at *
     have hHeld := hHeld2
     clear hHeld2
     refine wpAnyH_take (i := 13) (oi := _) (v := ?_) rfl (by kernel_rfl) (by kernel_rfl) (by kernel_rfl) (fun _ _ _ h => h) (Or.inl ⟨by rfl, ?_⟩) (by assumption) ?_
     rotate_left
     focus (intro wS hSw; (try dsimp only at hSw); go_simp; (try with_reducible rfl))
     try simp only [Act.put, List.getElem_toArray, List.getElem_cons_zero, List.getElem_cons_succ, List.setIfInBounds_toArray, List.set_cons_zero, List.set_cons_succ]
     refine wpAnyH_take (i := 14) (oi := _) (v := ?_) rfl (by kernel_rfl) (by kernel_rfl) (by kernel_rfl) (fun _ _ _ h => h) (Or.inl ⟨by rfl, ?_⟩) (by assumption) ?_
     rotate_left
     focus (intro wS hSw; (try dsimp only at hSw); go_simp; (try with_reducible rfl))
     try simp only [Act.put, List.getElem_toArray, List.getElem_cons_zero, List.getElem_cons_succ, List.setIfInBounds_toArray, List.set_cons_zero, List.set_cons_succ]
     refine wpAnyH_ready (rs := [15]) (by kernel_rfl) (by simp) (AllReadyH.cons (o := _) rfl (fun K hK => ?_) AllReadyH.nil)
     have z39 := H37.out.cell 0 rfl 0 rfl
     have z40 := H37.out.free 0 rfl 0
     have z41 := H37.out.cell 0 rfl 1 rfl
     have z42 := H37.out.free 0 rfl 1
     have H43 := hid (show St B W [.cells D36 #[.int .i64 e33_0, .int .i64 e33_1] 43, .arr (32) 2 (.slice ta30 T25.length tc31) (T25.length) (tapV tp26), .arr (32) 2 (.slice ta20 T15.length tc21) (T15.length) (tapV tp16), .cells D7 #[.int .i64 pw4, .int .i64 ph4, .int .i64 pm4, .slice pv4a ps4.length pv4c] 40, .own (.slice pv4a ps4.length pv4c) ps4, .tape K1] R27 ((k38.setCell ⟨D36, 0, none⟩ (.int .i64 e33_0)).setCell ⟨D36, 1, none⟩ (.int .i64 e33_1)) from ((H37.out.set 0 rfl 0 (.int .i64 e33_0)).set 0 rfl 1 (.int .i64 e33_1)))
     go_simp
     refine hK.out _ _ ?_ (fun hHeld2 => ?_)
     focus ((try dsimp only); (exact ⟨H43.out.cell 3 rfl 0 rfl, H43.out.cell 3 rfl 1 rfl, H43.out.cell 3 rfl 2 rfl, H43.out.cell 3 rfl 3 rfl⟩))
     clear hK K hHeld
     try simp only [Act.put, List.getElem_toArray, List.getElem_cons_zero, List.getElem_cons_succ, List.setIfInBounds_toArray, List.set_cons_zero, List.set_cons_succ]
     clear z39 z40 z41 z42
     generalize ((k38.setCell ⟨D36, 0, none⟩ (.int .i64 e33_0)).setCell ⟨D36, 1, none⟩ (.int .i64 e33_1)) = k44 at *
     have hHeld := hHeld2
     clear hHeld2
     refine wpAnyH_done (by kernel_rfl) ?_ _
     try clear hHeld
     go_wp2_with fail
     go_meet
     exact ⟨D36, _, _, _, _, _, _, _, _, _, _, _, rfl, rfl, rfl, HQ32.out, HD19.out, HQ28.out, HD29.out, HOKT15.out, HOKT25.out, HEe33.out, H43.out.pick [2, 1, 0, 3, 4, 5] rfl (by decide)⟩
    ·obtain ⟨D45, hD45⟩ : ∃ D, w22.heap.size = D := ⟨_, rfl⟩
     have H46 := hid (H23.out.alloc #[.int .i64 0, .int .i64 0] 43 hD45)
     go_simp
     refine hK.out _ _ ?_ (fun hHeld2 => ?_)
     focus ((try dsimp only); (exact ⟨H46.out.cell 3 rfl 0 rfl, H46.out.cell 3 rfl 1 rfl, H46.out.cell 3 rfl 2 rfl, H46.out.cell 3 rfl 3 rfl⟩))
     clear hK K hHeld
     try simp only [Act.put, List.getElem_toArray, List.getElem_cons_zero, List.getElem_cons_succ, List.setIfInBounds_toArray, List.set_cons_zero, List.set_cons_succ]
     clear hD45
     generalize (w22.alloc (.cells #[.int .i64 0, .int .i64 0] 43)) = k47 at *
     have hHeld := hHeld2
     clear hHeld2
     refine wpAnyH_ready (rs := [11]) (by kernel_rfl) (by simp) (AllReadyH.cons (o := _) rfl (fun K hK => ?_) AllReadyH.nil)
     go_simp
     go_at_call 15
     refine (edgeok_any B K1 _ _ (by omega) (H46.out.tapeAt 5 rfl)).mono ?_
     rintro e w49 ⟨e48_0, e48_1, rfl, hev, ht, hg⟩
     have H50 := hid (H46.out.next 5 rfl ht hg)
     have HEe48 := hid hev
     clear ht hg hev
     refine hK.out _ _ ?_ (fun hHeld2 => ?_)
     focus ((try dsimp only); (exact ⟨H50.out.cell 3 rfl 0 rfl, H50.out.cell 3 rfl 1 rfl, H50.out.cell 3 rfl 2 rfl, H50.out.cell 3 rfl 3 rfl⟩))
     clear hK K
     try simp only [Act.put, List.getElem_toArray, List.getElem_cons_zero, List.getElem_cons_succ, List.setIfInBounds_toArray, List.set_cons_zero, List.set_cons_succ]
     clear hHeld
     have hHeld := hHeld2
     clear hHeld2
     refine wpAnyH_take (i := 13) (oi := _) (v := ?_) rfl (by kernel_rfl) (by kernel_rfl) (by kernel_rfl) (fun _ _ _ h => h) (Or.inl ⟨by rfl, ?_⟩) (by assumption) ?_
     rotate_left
     focus (intro wS hSw; (try dsimp only at hSw); go_simp; (try with_reducible rfl))
     try simp only [Act.put, List.getElem_toArray, List.getElem_cons_zero, List.getElem_cons_succ, List.setIfInBounds_toArray, List.set_cons_zero, List.set_cons_succ]
     refine wpAnyH_take (i := 14) (oi := _) (v := ?_) rfl (by kernel_rfl) (by kernel_rfl) (by kernel_rfl) (fun _ _ _ h => h) (Or.inl ⟨by rfl, ?_⟩) (by assumption) ?_
     rotate_left
     focus (intro wS hSw; (try dsimp only at hSw); go_simp; (try with_reducible rfl))
     try simp only [Act.put, List.getElem_toArray, List.getElem_cons_zero, List.getElem_cons_succ, List.setIfInBounds_toArray, List.set_cons_zero, List.set_cons_succ]
     refine wpAnyH_ready (rs := [15]) (by kernel_rfl) (by simp) (AllReadyH.cons (o := _) rfl (fun K hK => ?_) AllReadyH.nil)
     have z51 := H50.out.cell 0 rfl 0 rfl
     have z52 := H50.out.free 0 rfl 0
     have z53 := H50.out.cell 0 rfl 1 rfl
     have z54 := H50.out.free 0 rfl 1
     have H55 := hid (show St B W [.cells D45 #[.int .i64 e48_0, .int .i64 e48_1] 43, .arr (32) 2 (.slice ta30 T25.length tc31) (T25.length) (tapV tp26), .arr (32) 2 (.slice ta20 T15.length tc21) (T15.length) (tapV tp16), .cells D7 #[.int .i64 pw4, .int .i64 ph4, .int .i64 pm4, .slice pv4a ps4.length pv4c] 40, .own (.slice pv4a ps4.length pv4c) ps4, .tape K1] R27 ((w49.setCell ⟨D45, 0, none⟩ (.int .i64 e48_0)).setCell ⟨D45, 1, none⟩ (.int .i64 e48_1)) from ((H50.out.set 0 rfl 0 (.int .i64 e48_0)).set 0 rfl 1 (.int .i64 e48_1)))
     go_simp
     refine hK.out _ _ ?_ (fun hHeld2 => ?_)
     focus ((try dsimp only); (exact ⟨H55.out.cell 3 rfl 0 rfl, H55.out.cell 3 rfl 1 rfl, H55.out.cell 3 rfl 2 rfl, H55.out.cell 3 rfl 3 rfl⟩))
     clear hK K hHeld
     try simp only [Act.put, List.getElem_toArray, List.getElem_cons_zero, List.getElem_cons_succ, List.setIfInBounds_toArray, List.set_cons_zero, List.set_cons_succ]
     clear z51 z52 z53 z54
     generalize ((w49.setCell ⟨D45, 0, none⟩ (.int .i64 e48_0)).setCell ⟨D45, 1, none⟩ (.int .i64 e48_1)) = k56 at *
     have hHeld := hHeld2
     clear hHeld2
     refine wpAnyH_done (by kernel_rfl) ?_ _
     try clear hHeld
     go_wp2_with fail
     go_meet
     exact ⟨D45, _, _, _, _, _, _, _, _, _, _, _, rfl, rfl, rfl, HQ32.out, HD19.out, HQ28.out, HD29.out, HOKT15.out, HOKT25.out, HEe48.out, H55.out.pick [2, 1, 0, 3, 4, 5] rfl (by decide)⟩
   ·obtain ⟨D57, hD57⟩ : ∃ D, w12.heap.size = D := ⟨_, rfl⟩
    have H58 := hid (H13.out.alloc #[.int .i64 0, .int .i64 0] 43 hD57)
    go_simp
    refine hK.out _ _ ?_ (fun hHeld2 => ?_)
    focus ((try dsimp only); (exact ⟨H58.out.cell 2 rfl 0 rfl, H58.out.cell 2 rfl 1 rfl, H58.out.cell 2 rfl 2 rfl, H58.out.cell 2 rfl 3 rfl⟩))
    clear hK K hHeld
    try simp only [Act.put, List.getElem_toArray, List.getElem_cons_zero, List.getElem_cons_succ, List.setIfInBounds_toArray, List.set_cons_zero, List.set_cons_succ]
    clear hD57
    generalize (w12.alloc (.cells #[.int .i64 0, .int .i64 0] 43)) = k59 at *
    have hHeld := hHeld2
    clear hHeld2
    refine wpAnyH_ready (rs := [7]) (by kernel_rfl) (by simp) (AllReadyH.cons (o := _) rfl (fun K hK => ?_) AllReadyH.nil)
    go_simp
    go_at_call 10
    refine (table_any B K1 ph4 _ (by omega) (H58.out.tapeAt 4 rfl)).mono ?_
    rintro e w60 ⟨v62, T63, rfl, hok, ho, ht, hg⟩
    obtain ⟨tp64, R65, ta68, tc69, rfl, htd, htq, hmo, hst⟩ := St.addTT H58.out (H58.out.next 4 rfl ht hg) ho
    obtain ⟨T63l0, T63l1⟩ : 1 ≤ T63.length ∧ T63.length ≤ 6 := ⟨hok.l0, hok.l1⟩
    have HOKT63 := hid hok
    have HQ66 := hid htq
    have HD67 := hid htd
    have H61 := hid hst
    have HQ70 := hid (hmo _ HQ18.out)
    clear htd htq hmo hst ho ht hg hok
    refine hK.out _ _ ?_ (fun hHeld2 => ?_)
    focus ((try dsimp only); (exact ⟨H61.out.cell 3 rfl 0 rfl, H61.out.cell 3 rfl 1 rfl, H61.out.cell 3 rfl 2 rfl, H61.out.cell 3 rfl 3 rfl⟩))
    clear hK K
    try simp only [Act.put, List.getElem_toArray, List.getElem_cons_zero, List.getElem_cons_succ, List.setIfInBounds_toArray, List.set_cons_zero, List.set_cons_succ]
    clear hHeld
    have hHeld := hHeld2
    clear hHeld2
    refine wpAnyH_ready (rs := [11]) (by kernel_rfl) (by simp) (AllReadyH.cons (o := _) rfl (fun K hK => ?_) AllReadyH.nil)
    go_simp
    go_at_call 15
    refine (edgeok_any B K1 _ _ (by omega) (H61.out.tapeAt 5 rfl)).mono ?_
    rintro e w72 ⟨e71_0, e71_1, rfl, hev, ht, hg⟩
    have H73 := hid (H61.out.next 5 rfl ht hg)
    have HEe71 := hid hev
    clear ht hg hev
    refine hK.out _ _ ?_ (fun hHeld2 => ?_)
    focus ((try dsimp only); (exact ⟨H73.out.cell 3 rfl 0 rfl, H73.out.cell 3 rfl 1 rfl, H73.out.cell 3 rfl 2 rfl, H73.out.cell 3 rfl 3 rfl⟩))
    clear hK K
    try simp only [Act.put, List.getElem_toArray, List.getElem_cons_zero, List.getElem_cons_succ, List.setIfInBounds_toArray, List.set_cons_zero, List.set_cons_succ]
    clear hHeld
    have hHeld := hHeld2
    clear hHeld2
    refine wpAnyH_take (i := 13) (oi := _) (v := ?_) rfl (by kernel_rfl) (by kernel_rfl) (by kernel_rfl) (fun _ _ _ h => h) (Or.inl ⟨by rfl, ?_⟩) (by assumption) ?_
    rotate_left
    focus (intro wS hSw; (try dsimp only at hSw); go_simp; (try with_reducible rfl))
    try simp only [Act.put, List.getElem_toArray, List.getElem_cons_zero, List.getElem_cons_succ, List.setIfInBounds_toArray, List.set_cons_zero, List.set_cons_succ]
    refine wpAnyH_take (i := 14) (oi := _) (v := ?_) rfl (by kernel_rfl) (by kernel_rfl) (by kernel_rfl) (fun _ _ _ h => h) (Or.inl ⟨by rfl, ?_⟩) (by assumption) ?_
    rotate_left
    focus (intro wS hSw; (try dsimp only at hSw); go_simp; (try with_reducible rfl))
    try simp only [Act.put, List.getElem_toArray, List.getElem_cons_zero, List.getElem_cons_succ, List.setIfInBounds_toArray, List.set_cons_zero, List.set_cons_succ]
    refine wpAnyH_ready (rs := [15]) (by kernel_rfl) (by simp) (AllReadyH.cons (o := _) rfl (fun K hK => ?_) AllReadyH.nil)
    have z74 := H73.out.cell 1 rfl 0 rfl
    have z75 := H73.out.free 1 rfl 0
    have z76 := H73.out.cell 1 rfl 1 rfl
    have z77 := H73.out.free 1 rfl 1
    have H78 := hid (show St B W [.arr (32) 2 (.slice ta68 T63.length tc69) (T63.length) (tapV tp64), .cells D57 #[.int .i64 e71_0, .int .i64 e71_1] 43, .arr (32) 2 (.slice ta20 T15.length tc21) (T15.length) (tapV tp16), .cells D7 #[.int .i64 pw4, .int .i64 ph4, .int .i64 pm4, .slice pv4a ps4.length pv4c] 40, .own (.slice pv4a ps4.length pv4c) ps4, .tape K1] R65 ((w72.setCell ⟨D57, 0, none⟩ (.int .i64 e71_0)).setCell ⟨D57, 1, none⟩ (.int .i64 e71_1)) from ((H73.out.set 1 rfl 0 (.int .i64 e71_0)).set 1 rfl 1 (.int .i64 e71_1)))
    go_simp
    refine hK.out _ _ ?_ (fun hHeld2 => ?_)
    focus ((try dsimp only); (exact ⟨H78.out.cell 3 rfl 0 rfl, H78.out.cell 3 rfl 1 rfl, H78.out.cell 3 rfl 2 rfl, H78.out.cell 3 rfl 3 rfl⟩))
    clear hK K hHeld
    try simp only [Act.put, List.getElem_toArray, List.getElem_cons_zero, List.getElem_cons_succ, List.setIfInBounds_toArray, List.set_cons_zero, List.set_cons_succ]
    clear z74 z75 z76 z77
    generalize ((w72.setCell ⟨D57, 0, none⟩ (.int .i64 e71_0)).setCell ⟨D57, 1, none⟩ (.int .i64 e71_1)) = k79 at *
    have hHeld := hHeld2
    clear hHeld2
    refine wpAnyH_done (by kernel_rfl) ?_ _
    try clear hHeld
    go_wp2_with fail
    go_meet
    exact ⟨D57, _, _, _, _, _, _, _, _, _, _, _, rfl, rfl, rfl, HQ70.out, HD19.out, HQ66.out, HD67.out, HOKT15.out, HOKT63.out, HEe71.out, H78.out.pick [2, 0, 1, 3, 4, 5] rfl (by decide)⟩
  ·obtain ⟨D80, hD80⟩ : ∃ D, k11.heap.size = D := ⟨_, rfl⟩
   have H81 := hid (H10.out.alloc #[.int .i64 0, .int .i64 0] 43 hD80)
   go_simp
   refine hK.out _ _ ?_ (fun hHeld2 => ?_)
   focus ((try dsimp only); (exact ⟨H81.out.cell 1 rfl 0 rfl, H81.out.cell 1 rfl 1 rfl, H81.out.cell 1 rfl 2 rfl, H81.out.cell 1 rfl 3 rfl⟩))
   clear hK K hHeld
   try simp only [Act.put, List.getElem_toArray, List.getElem_cons_zero, List.getElem_cons_succ, List.setIfInBounds_toArray, List.set_cons_zero, List.set_cons_succ]
   clear hD80
   generalize (k11.alloc (.cells #[.int .i64 0, .int .i64 0] 43)) = k82 at *
   have hHeld := hHeld2
   clear hHeld2
   refine wpAnyH_ready (rs := [3]) (by kernel_rfl) (by simp) (AllReadyH.cons (o := _) rfl (fun K hK => ?_) AllReadyH.nil)
   go_simp
   go_at_call 10
   refine (table_any B K1 pw4 _ (by omega) (H81.out.tapeAt 3 rfl)).mono ?_
   rintro e w83 ⟨v85, T86, rfl, hok, ho, ht, hg⟩
   obtain ⟨tp87, R88, ta91, tc92, rfl, htd, htq, hmo, hst⟩ := St.addTT H81.out (H81.out.next 3 rfl ht hg) ho
   obtain ⟨T86l0, T86l1⟩ : 1 ≤ T86.length ∧ T86.length ≤ 6 := ⟨hok.l0, hok.l1⟩
   have HOKT86 := hid hok
   have HQ89 := hid htq
   have HD90 := hid htd
   have H84 := hid hst
   clear htd htq hmo hst ho ht hg hok
   refine hK.out _ _ ?_ (fun hHeld2 => ?_)
   focus ((try dsimp only); (exact ⟨H84.out.cell 2 rfl 0 rfl, H84.out.cell 2 rfl 1 rfl, H84.out.cell 2 rfl 2 rfl, H84.out.cell 2 rfl 3 rfl⟩))
   clear hK K
   try simp only [Act.put, List.getElem_toArray, List.getElem_cons_zero, List.getElem_cons_succ, List.setIfInBounds_toArray, List.set_cons_zero, List.set_cons_succ]
   clear hHeld
   have hHeld := hHeld2
   clear hHeld2
   refine wpAnyH_ready (rs := [7]) (by kernel_rfl) (by simp) (AllReadyH.cons (o := _) rfl (fun K hK => ?_) AllReadyH.nil)
   go_simp
   go_at_call 10
   refine (table_any B K1 ph4 _ (by omega) (H84.out.tapeAt 4 rfl)).mono ?_
   rintro e w93 ⟨v95, T96, rfl, hok, ho, ht, hg⟩
   obtain ⟨tp97, R98, ta101, tc102, rfl, htd, htq, hmo, hst⟩ := St.addTT H84.out (H84.out.next 4 rfl ht hg) ho
   obtain ⟨T96l0, T96l1⟩ : 1 ≤ T96.length ∧ T96.length ≤ 6 := ⟨hok.l0, hok.l1⟩
   have HOKT96 := hid hok
   have HQ99 := hid htq
   have HD100 := hid htd
   have H94 := hid hst
   have HQ103 := hid (hmo _ HQ89.out)
   clear htd htq hmo hst ho ht hg hok
   refine hK.out _ _ ?_ (fun hHeld2 => ?_)
   focus ((try dsimp only); (exact ⟨H94.out.cell 3 rfl 0 rfl, H94.out.cell 3 rfl 1 rfl, H94.out.cell 3 rfl 2 rfl, H94.out.cell 3 rfl 3 rfl⟩))
   clear hK K
   try simp only [Act.put, List.getElem_toArray, List.getElem_cons_zero, List.getElem_cons_succ, List.setIfInBounds_toArray, List.set_cons_zero, List.set_cons_succ]
   clear hHeld
   have hHeld := hHeld2
   clear hHeld2
   refine wpAnyH_ready (rs := [11]) (by kernel_rfl) (by simp) (AllReadyH.cons (o := _) rfl (fun K hK => ?_) AllReadyH.nil)
   go_simp
   go_at_call 15
   refine (edgeok_any B K1 _ _ (by omega) (H94.out.tapeAt 5 rfl)).mono ?_
   rintro e w105 ⟨e104_0, e104_1, rfl, hev, ht, hg⟩
   have H106 := hid (H94.out.next 5 rfl ht hg)
   have HEe104 := hid hev
   clear ht hg hev
   refine hK.out _ _ ?_ (fun hHeld2 => ?_)
   focus ((try dsimp only); (exact ⟨H106.out.cell 3 rfl 0 rfl, H106.out.cell 3 rfl 1 rfl, H106.out.cell 3 rfl 2 rfl, H106.out.cell 3 rfl 3 rfl⟩))
   clear hK K
   try simp only [Act.put, List.getElem_toArray, List.getElem_cons_zero, List.getElem_cons_succ, List.setIfInBounds_toArray, List.set_cons_zero, List.set_cons_succ]
   clear hHeld
   have hHeld := hHeld2
   clear hHeld2
   refine wpAnyH_take (i := 13) (oi := _) (v := ?_) rfl (by kernel_rfl) (by kernel_rfl) (by kernel_rfl) (fun _ _ _ h => h) (Or.inl ⟨by rfl, ?_⟩) (by assumption) ?_
   rotate_left
   focus (intro wS hSw; (try dsimp only at hSw); go_simp; (try with_reducible rfl))
   try simp only [Act.put, List.getElem_toArray, List.getElem_cons_zero, List.getElem_cons_succ, List.setIfInBounds_toArray, List.set_cons_zero, List.set_cons_succ]
   refine wpAnyH_take (i := 14) (oi := _) (v := ?_) rfl (by kernel_rfl) (by kernel_rfl) (by kernel_rfl) (fun _ _ _ h => h) (Or.inl ⟨by rfl, ?_⟩) (by assumption) ?_
   rotate_left
   focus (intro wS hSw; (try dsimp only at hSw); go_simp; (try with_reducible rfl))
   try simp only [Act.put, List.getElem_toArray, List.getElem_cons_zero, List.getElem_cons_succ, List.setIfInBounds_toArray, List.set_cons_zero, List.set_cons_succ]
   refine wpAnyH_ready (rs := [15]) (by kernel_rfl) (by simp) (AllReadyH.cons (o := _) rfl (fun K hK => ?_) AllReadyH.nil)
   have z107 := H106.out.cell 2 rfl 0 rfl
   have z108 := H106.out.free 2 rfl 0
   have z109 := H106.out.cell 2 rfl 1 rfl
   have z110 := H106.out.free 2 rfl 1
   have H111 := hid (show St B W [.arr (32) 2 (.slice ta101 T96.length tc102) (T96.length) (tapV tp97), .arr (32) 2 (.slice ta91 T86.length tc92) (T86.length) (tapV tp87), .cells D80 #[.int .i64 e104_0, .int .i64 e104_1] 43, .cells D7 #[.int .i64 pw4, .int .i64 ph4, .int .i64 pm4, .slice pv4a ps4.length pv4c] 40, .own (.slice pv4a ps4.length pv4c) ps4, .tape K1] R98 ((w105.setCell ⟨D80, 0, none⟩ (.int .i64 e104_0)).setCell ⟨D80, 1, none⟩ (.int .i64 e104_1)) from ((H106.out.set 2 rfl 0 (.int .i64 e104_0)).set 2 rfl 1 (.int .i64 e104_1)))
   go_simp
   refine hK.out _ _ ?_ (fun hHeld2 => ?_)
   focus ((try dsimp only); (exact ⟨H111.out.cell 3 rfl 0 rfl, H111.out.cell 3 rfl 1 rfl, H111.out.cell 3 rfl 2 rfl, H111.out.cell 3 rfl 3 rfl⟩))
   clear hK K hHeld
   try simp only [Act.put, List.getElem_toArray, List.getElem_cons_zero, List.getElem_cons_succ, List.setIfInBounds_toArray, List.set_cons_zero, List.set_cons_succ]
   clear z107 z108 z109 z110
   generalize ((w105.setCell ⟨D80, 0, none⟩ (.int .i64 e104_0)).setCell ⟨D80, 1, none⟩ (.int .i64 e104_1)) = k112 at *
   have hHeld := hHeld2
   clear hHeld2
   refine wpAnyH_done (by kernel_rfl) ?_ _
   try clear hHeld
   go_wp2_with fail
   go_meet
   exact ⟨D80, _, _, _, _, _, _, _, _, _, _, _, rfl, rfl, rfl, HQ103.out, HD90.out, HQ99.out, HD100.out, HOKT86.out, HOKT96.out, HEe104.out, H111.out.pick [1, 0, 2, 3, 4, 5] rfl (by decide)⟩
 case rest =>
  obtain ⟨RE, xta, xtc, xTl, xtp, yta, ytc, yTl, ytp, ep, ef, RS, rfl, rfl, rfl, htqx, htdx, htqy, htdy, hokx, hoky, hev, hst⟩ := hcut
  obtain ⟨u113, rfl⟩ : ∃ u113 : World, u113 = wc := ⟨_, rfl⟩
  have H114 := hid hst
  clear hst
  have HQx := hid htqx
  have HDx := hid htdx
  have HQy := hid htqy
  have HDy := hid htdy
  obtain ⟨xTl0, xTl1⟩ : 1 ≤ xTl.length ∧ xTl.length ≤ 6 := ⟨hokx.l0, hokx.l1⟩
  obtain ⟨yTl0, yTl1⟩ : 1 ≤ yTl.length ∧ yTl.length ≤ 6 := ⟨hoky.l0, hoky.l1⟩
  have HOKx := hid hokx
  have HOKy := hid hoky
  have HEV := hid hev
  clear htqx htdx htqy htdy hokx hoky hev
  go_wp2_with fail
  refine (within_any B K1 _ _ _ (by omega) (by omega) (by omega) (by omega) (H114.out.tapeAt 5 rfl)).mono ?_
  rintro e w116 ⟨q115_0, q115_1, q115_2, q115_3, rfl, hq115, ht, hg⟩
  have H117 := hid (H114.out.next 5 rfl ht hg)
  have HWq115 := hid hq115
  clear hq115 ht hg
  obtain ⟨hq0, hq1, hq2, hq3, hq4, hq5⟩ := HWq115.out
  obtain ⟨D118, hD118⟩ : ∃ D, w116.heap.size = D := ⟨_, rfl⟩
  go_upto_region 5 with fail
  have H119 := hid (show St B W [.cells D118 #[.int .i64 q115_0, .int .i64 q115_1, .int .i64 q115_2, .int .i64 q115_3] 38, .arr (32) 2 (.slice xta xTl.length xtc) (xTl.length) (tapV xtp), .arr (32) 2 (.slice yta yTl.length ytc) (yTl.length) (tapV ytp), .cells RE #[.int .i64 ep, .int .i64 ef] 43, .cells D7 #[.int .i64 pw4, .int .i64 ph4, .int .i64 pm4, .slice pv4a ps4.length pv4c] 40, .own (.slice pv4a ps4.length pv4c) ps4, .tape K1] RS (w116.alloc (.cells #[.int .i64 q115_0, .int .i64 q115_1, .int .i64 q115_2, .int .i64 q115_3] 38)) from (H117.out.alloc #[.int .i64 q115_0, .int .i64 q115_1, .int .i64 q115_2, .int .i64 q115_3] 38 hD118))
  first | refine gen_code H119.out ?_ | refine gen_list H119.out ?_ | refine gen_calls H119.out ?_
  intro w120 hG
  clear H119
  have H119 := hid hG
  clear hG
  clear hD118
  have z121 := H119.out.cell 4 rfl 0 rfl
  have z122 := H119.out.cell 4 rfl 1 rfl
  have z123 := H119.out.cell 4 rfl 2 rfl
  have z124 := H119.out.cell 4 rfl 3 rfl
  have z125 := H119.out.cell 3 rfl 0 rfl
  have z126 := H119.out.cell 3 rfl 1 rfl
  go_wp2_with fail
  clear z121 z122 z123 z124 z125 z126
  have hp := pOk_iff.1 (pValid_iff.1 HVps4.out).1
  have hmx := HMps4.out
  have HCK130 := hid (show rzCode pw4 ph4 pm4 xTl yTl 8 8 65535 = 0 from rz_ok HOKx.out.one HOKy.out.one ⟨xTl0, xTl1⟩ ⟨yTl0, yTl1⟩ (by omega) (by omega) (by omega) (by omega) (by omega) (by omega))
  have hct := rzT_ok HVps4.out HEV.out HCK130.out (r0 := 0) (r1 := 0) (r2 := xTl.length) (r3 := yTl.length) (by omega)
  refine (rztile_any _ _ _ _ _ _ ps4 _ _ _ _ _ xTl _ _ _ yTl _ _ _ _ _ _ _ _ (H119.out.slc 5 rfl) ((by have ht := H119.out.taps 1 rfl HQx.out; rw [HDx.out] at ht; exact ht)) ((by have ht := H119.out.taps 2 rfl HQy.out; rw [HDy.out] at ht; exact ht))).mono ?_
  rintro e w127 ⟨v128, rfl, ho, hb⟩
  rw [hct] at ho ⊢
  simp only [tI, tL, if_pos] at ho ⊢
  clear hct hp hmx
  obtain ⟨l131, hl131⟩ : ∃ xx', rzL pw4 ph4 ps4 ep ef xTl yTl 8 8 65535 0 0 xTl.length yTl.length = xx' := ⟨_, rfl⟩
  rw [hl131] at ho
  have HNl131 := hid hl131
  clear hl131
  rw [Int.sub_zero, Int.sub_zero]
  have H129 := hid (H119.out.grow hb ho)
  obtain ⟨v128a, v128c, rfl, _⟩ := ho.slc
  clear ho hb
  have HVl131 := hid (show pValid (xTl.length : Int) (yTl.length : Int) 65535 l131 = true from by rw [← HNl131.out]; exact rG_valid2 (by omega) (fun x y => clV_bd (by omega)) (by omega) (by omega))
  obtain ⟨D132, hD132⟩ : ∃ D, w127.heap.size = D := ⟨_, rfl⟩
  go_upto_region 6 with fail
  have H133 := hid (show St B W [.cells D132 #[.int .i64 xTl.length, .int .i64 yTl.length, .int .i64 65535, .slice v128a l131.length v128c] 40, .own (.slice v128a l131.length v128c) l131, .cells D118 #[.int .i64 q115_0, .int .i64 q115_1, .int .i64 q115_2, .int .i64 q115_3] 38, .arr (32) 2 (.slice xta xTl.length xtc) (xTl.length) (tapV xtp), .arr (32) 2 (.slice yta yTl.length ytc) (yTl.length) (tapV ytp), .cells RE #[.int .i64 ep, .int .i64 ef] 43, .cells D7 #[.int .i64 pw4, .int .i64 ph4, .int .i64 pm4, .slice pv4a ps4.length pv4c] 40, .own (.slice pv4a ps4.length pv4c) ps4, .tape K1] RS (w127.alloc (.cells #[.int .i64 xTl.length, .int .i64 yTl.length, .int .i64 65535, .slice v128a l131.length v128c] 40)) from (H129.out.alloc #[.int .i64 xTl.length, .int .i64 yTl.length, .int .i64 65535, .slice v128a l131.length v128c] 40 hD132))
  first | refine gen_code H133.out ?_ | refine gen_list H133.out ?_ | refine gen_calls H133.out ?_
  intro w134 hG
  clear H133
  have H133 := hid hG
  clear hG
  clear hD132
  have z135 := H133.out.cell 6 rfl 0 rfl
  have z136 := H133.out.cell 6 rfl 1 rfl
  have z137 := H133.out.cell 6 rfl 2 rfl
  have z138 := H133.out.cell 6 rfl 3 rfl
  have z139 := H133.out.cell 5 rfl 0 rfl
  have z140 := H133.out.cell 5 rfl 1 rfl
  have z141 := H133.out.cell 2 rfl 0 rfl
  have z142 := H133.out.cell 2 rfl 1 rfl
  have z143 := H133.out.cell 2 rfl 2 rfl
  have z144 := H133.out.cell 2 rfl 3 rfl
  go_wp2_with fail
  clear z135 z136 z137 z138 z139 z140 z141 z142 z143 z144
  have hp := pOk_iff.1 (pValid_iff.1 HVps4.out).1
  have hmx := HMps4.out
  have HCK148 := hid (show rzCode pw4 ph4 pm4 xTl yTl 8 8 65535 = 0 from rz_ok HOKx.out.one HOKy.out.one ⟨xTl0, xTl1⟩ ⟨yTl0, yTl1⟩ (by omega) (by omega) (by omega) (by omega) (by omega) (by omega))
  have hct := rzT_ok HVps4.out HEV.out HCK148.out (r0 := q115_0) (r1 := q115_1) (r2 := q115_2) (r3 := q115_3) (by omega)
  refine (rztile_any _ _ _ _ _ _ ps4 _ _ _ _ _ xTl _ _ _ yTl _ _ _ _ _ _ _ _ (H133.out.slc 7 rfl) ((by have ht := H133.out.taps 3 rfl HQx.out; rw [HDx.out] at ht; exact ht)) ((by have ht := H133.out.taps 4 rfl HQy.out; rw [HDy.out] at ht; exact ht))).mono ?_
  rintro e w145 ⟨v146, rfl, ho, hb⟩
  rw [hct] at ho ⊢
  simp only [tI, tL, if_pos] at ho ⊢
  clear hct hp hmx
  obtain ⟨l149, hl149⟩ : ∃ xx', rzL pw4 ph4 ps4 ep ef xTl yTl 8 8 65535 q115_0 q115_1 q115_2 q115_3 = xx' := ⟨_, rfl⟩
  rw [hl149] at ho
  have HNl149 := hid hl149
  clear hl149
  obtain ⟨t150, ht150⟩ : ∃ xx', q115_2 - q115_0 = xx' := ⟨_, rfl⟩
  rw [ht150]
  have HNt150 := hid ht150
  clear ht150
  obtain ⟨t151, ht151⟩ : ∃ xx', q115_3 - q115_1 = xx' := ⟨_, rfl⟩
  rw [ht151]
  have HNt151 := hid ht151
  clear ht151
  have H147 := hid (H133.out.grow hb ho)
  obtain ⟨v146a, v146c, rfl, _⟩ := ho.slc
  clear ho hb
  obtain ⟨D152, hD152⟩ : ∃ D, w145.heap.size = D := ⟨_, rfl⟩
  go_upto_region 7 with fail
  have H153 := hid (show St B W [.cells D152 #[.int .i64 t150, .int .i64 t151, .int .i64 65535, .slice v146a l149.length v146c] 40, .own (.slice v146a l149.length v146c) l149, .cells D132 #[.int .i64 xTl.length, .int .i64 yTl.length, .int .i64 65535, .slice v128a l131.length v128c] 40, .own (.slice v128a l131.length v128c) l131, .cells D118 #[.int .i64 q115_0, .int .i64 q115_1, .int .i64 q115_2, .int .i64 q115_3] 38, .arr (32) 2 (.slice xta xTl.length xtc) (xTl.length) (tapV xtp), .arr (32) 2 (.slice yta yTl.length ytc) (yTl.length) (tapV ytp), .cells RE #[.int .i64 ep, .int .i64 ef] 43, .cells D7 #[.int .i64 pw4, .int .i64 ph4, .int .i64 pm4, .slice pv4a ps4.length pv4c] 40, .own (.slice pv4a ps4.length pv4c) ps4, .tape K1] RS (w145.alloc (.cells #[.int .i64 t150, .int .i64 t151, .int .i64 65535, .slice v146a l149.length v146c] 40)) from (H147.out.alloc #[.int .i64 t150, .int .i64 t151, .int .i64 65535, .slice v146a l149.length v146c] 40 hD152))
  first | refine gen_code H153.out ?_ | refine gen_list H153.out ?_ | refine gen_calls H153.out ?_
  intro w154 hG
  clear H153
  have H153 := hid hG
  clear hG
  clear hD152
  have z155 := H153.out.cell 2 rfl 0 rfl
  have z156 := H153.out.cell 2 rfl 1 rfl
  have z157 := H153.out.cell 2 rfl 2 rfl
  have z158 := H153.out.cell 2 rfl 3 rfl
  have z159 := H153.out.cell 4 rfl 0 rfl
  have z160 := H153.out.cell 4 rfl 1 rfl
  have z161 := H153.out.cell 4 rfl 2 rfl
  have z162 := H153.out.cell 4 rfl 3 rfl
  go_wp2_with fail
  clear z155 z156 z157 z158 z159 z160 z161 z162
  refine (qcrop_any _ _ _ _ _ _ l131 _ _ _ _ _ (H153.out.slc 3 rfl)).mono ?_
  rintro e w163 ⟨v164, rfl, ho, hb⟩
  have hcv := crop_ok HVl131.out HWq115.out
  have hci : ∀ z, cIf (xTl.length : Int) (yTl.length : Int) 65535 l131 q115_0 q115_1 q115_2 q115_3 z = z := fun z => by unfold cIf; rw [if_pos hcv]
  have hcl : cList (xTl.length : Int) (yTl.length : Int) 65535 l131 q115_0 q115_1 q115_2 q115_3 = l149 := by unfold cList; rw [if_pos hcv, ← HNl131.out, ← HNl149.out]; exact cAll_rG _ HWq115.out
  simp only [hci, hcv]
  rw [hcl] at ho
  clear hci hcl hcv
  rw [HNt150.out]
  rw [HNt151.out]
  have H165 := hid (H153.out.grow hb ho)
  obtain ⟨v164a, v164c, rfl, _⟩ := ho.slc
  clear ho hb
  obtain ⟨D166, hD166⟩ : ∃ D, w163.heap.size = D := ⟨_, rfl⟩
  go_upto_region 8 with fail
  have H167 := hid (show St B W [.cells D166 #[.int .i64 t150, .int .i64 t151, .int .i64 65535, .slice v164a l149.length v164c] 40, .own (.slice v164a l149.length v164c) l149, .cells D152 #[.int .i64 t150, .int .i64 t151, .int .i64 65535, .slice v146a l149.length v146c] 40, .own (.slice v146a l149.length v146c) l149, .cells D132 #[.int .i64 xTl.length, .int .i64 yTl.length, .int .i64 65535, .slice v128a l131.length v128c] 40, .own (.slice v128a l131.length v128c) l131, .cells D118 #[.int .i64 q115_0, .int .i64 q115_1, .int .i64 q115_2, .int .i64 q115_3] 38, .arr (32) 2 (.slice xta xTl.length xtc) (xTl.length) (tapV xtp), .arr (32) 2 (.slice yta yTl.length ytc) (yTl.length) (tapV ytp), .cells RE #[.int .i64 ep, .int .i64 ef] 43, .cells D7 #[.int .i64 pw4, .int .i64 ph4, .int .i64 pm4, .slice pv4a ps4.length pv4c] 40, .own (.slice pv4a ps4.length pv4c) ps4, .tape K1] RS (w163.alloc (.cells #[.int .i64 t150, .int .i64 t151, .int .i64 65535, .slice v164a l149.length v164c] 40)) from (H165.out.alloc #[.int .i64 t150, .int .i64 t151, .int .i64 65535, .slice v164a l149.length v164c] 40 hD166))
  first | refine gen_code H167.out ?_ | refine gen_list H167.out ?_ | refine gen_calls H167.out ?_
  intro w168 hG
  clear H167
  have H167 := hid hG
  clear hG
  clear hD166
  have z169 := H167.out.cell 2 rfl 0 rfl
  have z170 := H167.out.cell 2 rfl 1 rfl
  have z171 := H167.out.cell 2 rfl 2 rfl
  have z172 := H167.out.cell 2 rfl 3 rfl
  have z173 := H167.out.cell 0 rfl 0 rfl
  have z174 := H167.out.cell 0 rfl 1 rfl
  have z175 := H167.out.cell 0 rfl 2 rfl
  have z176 := H167.out.cell 0 rfl 3 rfl
  go_wp2_with fail
  clear z169 z170 z171 z172 z173 z174 z175 z176
  refine (qequal_any _ _ _ _ _ _ l149 _ _ _ _ _ _ l149 _ (H167.out.slc 3 rfl) (H167.out.slc 1 rfl)).mono ?_
  rintro e w177 ⟨rfl, hb⟩
  have H178 := hid (H167.out.call hb)
  clear hb
  rw [show pEq t150 t151 65535 l149 t150 t151 65535 l149 = true from by simp [pEq]]
  go_wp2_with fail
  refine (sane11 _).mono ?_
  rintro e w179 ⟨rfl, hb⟩
  have H180 := hid (H178.out.call hb)
  clear hb
  go_wp2_with fail
  go_ret
  exact ⟨rfl, by first | exact H180.out.below | exact H180.out.below'⟩
end Go.Proofs.Ytaefdkinpaonkaa
