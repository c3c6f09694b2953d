/-
  The walk of ResizeTiles: the tiles of resizes are those of the reference.
-/
import Derived.Test.YtaefdkinpaonkaaSane11
import Derived.Test.YtaefdkinpaonkaaRzQTile
import Derived.Test.YtaefdkinpaonkaaTable
import Derived.Test.YtaefdkinpaonkaaTaps3
import Derived.Test.YtaefdkinpaonkaaKG
import Derived.Test.YtaefdkinpaonkaaKD
import Derived.Test.YtaefdkinpaonkaaKX
import Derived.Test.YtaefdkinpaonkaaKC
namespace Go.Proofs.Ytaefdkinpaonkaa
open Go.RowKit
attribute [local go_sem ↓] Go.wp_at_zero Go.wp_at_succ
set_option linter.unusedVariables false
set_option linter.unusedSimpArgs false

set_option maxRecDepth 100000 in
set_option maxHeartbeats 12800000 in
theorem walk_ResizeTiles (a : Option Addr) (n c : Nat) (zs : List Int) (r0 r1 r2 r3 : Int) (W : World) (hr : RowIn .i64 W a n c zs) (_ : I64 r0) (_ : I64 r1) (_ : I64 r2) (_ : I64 r3) :
  Calls Try.prog 4 #[.slice a n c, .agg #[.int .i64 r0, .int .i64 r1, .int .i64 r2, .int .i64 r3]] W fun e w' => e = .returned (.bool true) ∧ Below W.heap.size W w' := by
 obtain ⟨B, hB⟩ : ∃ B, W.heap.size = B := ⟨_, rfl⟩
 have HI0 := hid (St.init hB)
 have HN := hid (nearRow hr hB)
 have HR := hid hr
 clear hr
 go_enter Try.func4, Try.ntmps4
 go_upto_region 1 with fail
 have H1 := hid (show St B W [.cells B #[.int .i64 r0, .int .i64 r1, .int .i64 r2, .int .i64 r3] 38] [] (W.alloc (.cells #[.int .i64 r0, .int .i64 r1, .int .i64 r2, .int .i64 r3] 38)) from (HI0.out.alloc #[.int .i64 r0, .int .i64 r1, .int .i64 r2, .int .i64 r3] 38 hB))
 first | refine gen_code H1.out ?_ | refine gen_list H1.out ?_ | refine gen_calls H1.out ?_
 intro w2 hG
 clear H1
 have H1 := hid hG
 clear hG
 go_wp2_with fail
 obtain ⟨K3, hK3⟩ : ∃ D, w2.heap.size = D := ⟨_, rfl⟩
 refine (newB_any B _ _ _ _ _ HR.out.len (H1.out.oldRow HR.out.row) HN.out H1.out.size).mono ?_
 rintro e w4 ⟨rfl, ht, hb, hs⟩
 rw [hK3] at ht ⊢
 have H5 := hid (H1.out.newTape ht hb hK3)
 clear ht hb hs hK3
 go_wp2_with fail
 go_loopw [6] (fun i wr => ∃ j : Nat, j ≤ 3 ∧ i = .int .i64 j ∧ St B W [.tape K3, .cells B #[.int .i64 r0, .int .i64 r1, .int .i64 r2, .int .i64 r3] 38] [] wr) (fun i _ => 3 - (intOf i).toNat)
 case atStart => exact ⟨0, by omega, rfl, H5.out.pick [0, 1] rfl (by decide)⟩
 case round =>
  obtain ⟨j, hj, rfl, hst⟩ := hrel
  obtain ⟨u6, rfl⟩ : ∃ u6 : World, u6 = wr := ⟨_, rfl⟩
  have H7 := hid hst
  clear hst
  by_cases c8 : (j : Int) < 3
  ·skip
   go_wp2_with fail
   refine (plane_any B K3 _ (H7.out.tapeAt 0 rfl)).mono ?_
   rintro e w10 ⟨pw9, ph9, pw91, pw92, ph91, ph92, pm9, pv9, ps9, rfl, hv, hm, ho, ht, hg⟩
   have H11 := hid (H7.out.add (H7.out.next 0 rfl ht hg) ho)
   have HVps9 := hid hv
   have HMps9 := hid hm
   obtain ⟨pv9a, pv9c, rfl, _⟩ := ho.slc
   clear hv hm ho ht hg
   obtain ⟨D12, hD12⟩ : ∃ D, w10.heap.size = D := ⟨_, rfl⟩
   go_upto_region 6 with fail
   have H13 := hid (show St B W [.cells D12 #[.int .i64 pw9, .int .i64 ph9, .int .i64 pm9, .slice pv9a ps9.length pv9c] 40, .own (.slice pv9a ps9.length pv9c) ps9, .tape K3, .cells B #[.int .i64 r0, .int .i64 r1, .int .i64 r2, .int .i64 r3] 38] [] (w10.alloc (.cells #[.int .i64 pw9, .int .i64 ph9, .int .i64 pm9, .slice pv9a ps9.length pv9c] 40)) from (H11.out.alloc #[.int .i64 pw9, .int .i64 ph9, .int .i64 pm9, .slice pv9a ps9.length pv9c] 40 hD12))
   first | refine gen_code H13.out ?_ | refine gen_list H13.out ?_ | refine gen_calls H13.out ?_
   intro w14 hG
   clear H13
   have H13 := hid hG
   clear hG
   clear hD12
   go_cut [8, 9, 10] (fun s s1 s2 wx => ∃ (RE : Nat) (xta : Option Addr) (xtc : Nat) (xTl : Tbl) (xtp : List (Int × Ro)) (yta : Option Addr) (ytc : Nat) (yTl : Tbl) (ytp : List (Int × Ro)) (ep ef : Int) (RS : List Ro), s = .slice xta xTl.length xtc ∧ s1 = .slice yta yTl.length ytc ∧ s2 = .pointer (some ⟨RE, 0, none⟩) ∧ TQ B RS xtp ∧ tapD xtp = xTl ∧ TQ B RS ytp ∧ tapD ytp = yTl ∧ TbOk xTl ∧ TbOk yTl ∧ St B W [.arr (32) 2 (.slice xta xTl.length xtc) (xTl.length) (tapV xtp), .arr (32) 2 (.slice yta yTl.length ytc) (yTl.length) (tapV ytp), .cells RE #[.int .i64 ep, .int .i64 ef] 43, .cells D12 #[.int .i64 pw9, .int .i64 ph9, .int .i64 pm9, .slice pv9a ps9.length pv9c] 40, .own (.slice pv9a ps9.length pv9c) ps9, .tape K3, .cells B #[.int .i64 r0, .int .i64 r1, .int .i64 r2, .int .i64 r3] 38] RS wx)
   case first =>
    go_upto_region 6 with fail
    have H15 := hid H13.out.drew
    refine wp_region_held_drew (S := (fun w' => w'.cell? ⟨D12, 0, none⟩ = some (.int .i64 pw9) ∧ w'.cell? ⟨D12, 1, none⟩ = some (.int .i64 ph9) ∧ w'.cell? ⟨D12, 2, none⟩ = some (.int .i64 pm9) ∧ w'.cell? ⟨D12, 3, none⟩ = some (.slice pv9a ps9.length pv9c))) (by kernel_rfl) ⟨H15.out.cell 0 rfl 0 rfl, H15.out.cell 0 rfl 1 rfl, H15.out.cell 0 rfl 2 rfl, H15.out.cell 0 rfl 3 rfl⟩ (fun hHeld => ?_)
    generalize w14.drew = k16 at *
    refine wpAnyH_take (i := 0) (oi := _) (v := ?_) rfl (by kernel_rfl) (by kernel_rfl) (by kernel_rfl) (fun _ _ _ h => h) (Or.inl ⟨by rfl, ?_⟩) (by assumption) ?_
    rotate_left
    focus (intro wS hSw; (try dsimp only at hSw); go_simp; (try with_reducible rfl))
    try simp only [Act.put, List.getElem_toArray, List.getElem_cons_zero, List.getElem_cons_succ, List.setIfInBounds_toArray, List.set_cons_zero, List.set_cons_succ]
    refine wpAnyH_take (i := 1) (oi := _) (v := ?_) rfl (by kernel_rfl) (by kernel_rfl) (by kernel_rfl) (fun _ _ _ h => h) (Or.inl ⟨by rfl, ?_⟩) (by assumption) ?_
    rotate_left
    focus (intro wS hSw; (try dsimp only at hSw); go_simp; (try with_reducible rfl))
    try simp only [Act.put, List.getElem_toArray, List.getElem_cons_zero, List.getElem_cons_succ, List.setIfInBounds_toArray, List.set_cons_zero, List.set_cons_succ]
    refine wpAnyH_take (i := 2) (oi := _) (v := ?_) rfl (by kernel_rfl) (by kernel_rfl) (by kernel_rfl) (fun _ _ _ h => h) (Or.inl ⟨by rfl, ?_⟩) (by assumption) ?_
    rotate_left
    focus (intro wS hSw; (try dsimp only at hSw); go_simp; (try with_reducible rfl))
    try simp only [Act.put, List.getElem_toArray, List.getElem_cons_zero, List.getElem_cons_succ, List.setIfInBounds_toArray, List.set_cons_zero, List.set_cons_succ]
    refine wpAnyH_take (i := 4) (oi := _) (v := ?_) rfl (by kernel_rfl) (by kernel_rfl) (by kernel_rfl) (fun _ _ _ h => h) (Or.inl ⟨by rfl, ?_⟩) (by assumption) ?_
    rotate_left
    focus (intro wS hSw; (try dsimp only at hSw); go_simp; (try with_reducible rfl))
    try simp only [Act.put, List.getElem_toArray, List.getElem_cons_zero, List.getElem_cons_succ, List.setIfInBounds_toArray, List.set_cons_zero, List.set_cons_succ]
    refine wpAnyH_take (i := 5) (oi := _) (v := ?_) rfl (by kernel_rfl) (by kernel_rfl) (by kernel_rfl) (fun _ _ _ h => h) (Or.inl ⟨by rfl, ?_⟩) (by assumption) ?_
    rotate_left
    focus (intro wS hSw; (try dsimp only at hSw); go_simp; (try with_reducible rfl))
    try simp only [Act.put, List.getElem_toArray, List.getElem_cons_zero, List.getElem_cons_succ, List.setIfInBounds_toArray, List.set_cons_zero, List.set_cons_succ]
    refine wpAnyH_take (i := 6) (oi := _) (v := ?_) rfl (by kernel_rfl) (by kernel_rfl) (by kernel_rfl) (fun _ _ _ h => h) (Or.inl ⟨by rfl, ?_⟩) (by assumption) ?_
    rotate_left
    focus (intro wS hSw; (try dsimp only at hSw); go_simp; (try with_reducible rfl))
    try simp only [Act.put, List.getElem_toArray, List.getElem_cons_zero, List.getElem_cons_succ, List.setIfInBounds_toArray, List.set_cons_zero, List.set_cons_succ]
    refine wpAnyH_take (i := 8) (oi := _) (v := ?_) rfl (by kernel_rfl) (by kernel_rfl) (by kernel_rfl) (fun _ _ _ h => h) (Or.inl ⟨by rfl, ?_⟩) (by assumption) ?_
    rotate_left
    focus (intro wS hSw; (try dsimp only at hSw); go_simp; (try with_reducible rfl))
    try simp only [Act.put, List.getElem_toArray, List.getElem_cons_zero, List.getElem_cons_succ, List.setIfInBounds_toArray, List.set_cons_zero, List.set_cons_succ]
    refine wpAnyH_take (i := 9) (oi := _) (v := ?_) rfl (by kernel_rfl) (by kernel_rfl) (by kernel_rfl) (fun _ _ _ h => h) (Or.inl ⟨by rfl, ?_⟩) (by assumption) ?_
    rotate_left
    focus (intro wS hSw; (try dsimp only at hSw); go_simp; (try with_reducible rfl))
    try simp only [Act.put, List.getElem_toArray, List.getElem_cons_zero, List.getElem_cons_succ, List.setIfInBounds_toArray, List.set_cons_zero, List.set_cons_succ]
    refine wpAnyH_take (i := 10) (oi := _) (v := ?_) rfl (by kernel_rfl) (by kernel_rfl) (by kernel_rfl) (fun _ _ _ h => h) (Or.inl ⟨by rfl, ?_⟩) (by assumption) ?_
    rotate_left
    focus (intro wS hSw; (try dsimp only at hSw); go_simp; (try with_reducible rfl))
    try simp only [Act.put, List.getElem_toArray, List.getElem_cons_zero, List.getElem_cons_succ, List.setIfInBounds_toArray, List.set_cons_zero, List.set_cons_succ]
    refine wpAnyH_ready (rs := [3, 12]) (by kernel_rfl) (by simp) (AllReadyH.cons (o := _) rfl (fun K hK => ?_) (AllReadyH.cons (o := _) rfl (fun K hK => ?_) AllReadyH.nil))
    ·go_simp
     go_at_call 10
     refine (table_any B K3 pw9 _ (by omega) (H15.out.tapeAt 2 rfl)).mono ?_
     rintro e w17 ⟨v19, T20, rfl, hok, ho, ht, hg⟩
     obtain ⟨tp21, R22, ta25, tc26, rfl, htd, htq, hmo, hst⟩ := St.addTT H15.out (H15.out.next 2 rfl ht hg) ho
     obtain ⟨T20l0, T20l1⟩ : 1 ≤ T20.length ∧ T20.length ≤ 6 := ⟨hok.l0, hok.l1⟩
     have HOKT20 := hid hok
     have HQ23 := hid htq
     have HD24 := hid htd
     have H18 := hid hst
     clear htd htq hmo hst ho ht hg hok
     refine hK.out _ _ ?_ (fun hHeld2 => ?_)
     focus ((try dsimp only); (exact ⟨H18.out.cell 1 rfl 0 rfl, H18.out.cell 1 rfl 1 rfl, H18.out.cell 1 rfl 2 rfl, H18.out.cell 1 rfl 3 rfl⟩))
     clear hK K
     try simp only [Act.put, List.getElem_toArray, List.getElem_cons_zero, List.getElem_cons_succ, List.setIfInBounds_toArray, List.set_cons_zero, List.set_cons_succ]
     clear hHeld
     have hHeld := hHeld2
     clear hHeld2
     refine wpAnyH_ready (rs := [7, 12]) (by kernel_rfl) (by simp) (AllReadyH.cons (o := _) rfl (fun K hK => ?_) (AllReadyH.cons (o := _) rfl (fun K hK => ?_) AllReadyH.nil))
     ·go_simp
      go_at_call 10
      refine (table_any B K3 ph9 _ (by omega) (H18.out.tapeAt 3 rfl)).mono ?_
      rintro e w27 ⟨v29, T30, rfl, hok, ho, ht, hg⟩
      obtain ⟨tp31, R32, ta35, tc36, rfl, htd, htq, hmo, hst⟩ := St.addTT H18.out (H18.out.next 3 rfl ht hg) ho
      obtain ⟨T30l0, T30l1⟩ : 1 ≤ T30.length ∧ T30.length ≤ 6 := ⟨hok.l0, hok.l1⟩
      have HOKT30 := hid hok
      have HQ33 := hid htq
      have HD34 := hid htd
      have H28 := hid hst
      have HQ37 := hid (hmo _ HQ23.out)
      clear htd htq hmo hst ho ht hg hok
      refine hK.out _ _ ?_ (fun hHeld2 => ?_)
      focus ((try dsimp only); (exact ⟨H28.out.cell 2 rfl 0 rfl, H28.out.cell 2 rfl 1 rfl, H28.out.cell 2 rfl 2 rfl, H28.out.cell 2 rfl 3 rfl⟩))
      clear hK K
      try simp only [Act.put, List.getElem_toArray, List.getElem_cons_zero, List.getElem_cons_succ, List.setIfInBounds_toArray, List.set_cons_zero, List.set_cons_succ]
      clear hHeld
      have hHeld := hHeld2
      clear hHeld2
      refine wpAnyH_ready (rs := [11, 12]) (by kernel_rfl) (by simp) (AllReadyH.cons (o := _) rfl (fun K hK => ?_) (AllReadyH.cons (o := _) rfl (fun K hK => ?_) AllReadyH.nil))
      ·go_simp
       go_at_call 15
       refine (edge_any B K3 _ _ (H28.out.tapeAt 4 rfl)).mono ?_
       rintro e w39 ⟨e38_0, e38_1, rfl, ht, hg⟩
       have H40 := hid (H28.out.next 4 rfl ht hg)
       clear ht hg
       refine hK.out _ _ ?_ (fun hHeld2 => ?_)
       focus ((try dsimp only); (exact ⟨H40.out.cell 2 rfl 0 rfl, H40.out.cell 2 rfl 1 rfl, H40.out.cell 2 rfl 2 rfl, H40.out.cell 2 rfl 3 rfl⟩))
       clear hK K
       try simp only [Act.put, List.getElem_toArray, List.getElem_cons_zero, List.getElem_cons_succ, List.setIfInBounds_toArray, List.set_cons_zero, List.set_cons_succ]
       clear hHeld
       have hHeld := hHeld2
       clear hHeld2
       refine wpAnyH_ready (rs := [12]) (by kernel_rfl) (by simp) (AllReadyH.cons (o := _) rfl (fun K hK => ?_) AllReadyH.nil)
       obtain ⟨D41, hD41⟩ : ∃ D, w39.heap.size = D := ⟨_, rfl⟩
       have H42 := hid (H40.out.alloc #[.int .i64 0, .int .i64 0] 43 hD41)
       go_simp
       refine hK.out _ _ ?_ (fun hHeld2 => ?_)
       focus ((try dsimp only); (exact ⟨H42.out.cell 3 rfl 0 rfl, H42.out.cell 3 rfl 1 rfl, H42.out.cell 3 rfl 2 rfl, H42.out.cell 3 rfl 3 rfl⟩))
       clear hK K hHeld
       try simp only [Act.put, List.getElem_toArray, List.getElem_cons_zero, List.getElem_cons_succ, List.setIfInBounds_toArray, List.set_cons_zero, List.set_cons_succ]
       clear hD41
       generalize (w39.alloc (.cells #[.int .i64 0, .int .i64 0] 43)) = k43 at *
       have hHeld := hHeld2
       clear hHeld2
       refine wpAnyH_take (i := 13) (oi := _) (v := ?_) rfl (by kernel_rfl) (by kernel_rfl) (by kernel_rfl) (fun _ _ _ h => h) (Or.inl ⟨by rfl, ?_⟩) (by assumption) ?_
       rotate_left
       focus (intro wS hSw; (try dsimp only at hSw); go_simp; (try with_reducible rfl))
       try simp only [Act.put, List.getElem_toArray, List.getElem_cons_zero, List.getElem_cons_succ, List.setIfInBounds_toArray, List.set_cons_zero, List.set_cons_succ]
       refine wpAnyH_take (i := 14) (oi := _) (v := ?_) rfl (by kernel_rfl) (by kernel_rfl) (by kernel_rfl) (fun _ _ _ h => h) (Or.inl ⟨by rfl, ?_⟩) (by assumption) ?_
       rotate_left
       focus (intro wS hSw; (try dsimp only at hSw); go_simp; (try with_reducible rfl))
       try simp only [Act.put, List.getElem_toArray, List.getElem_cons_zero, List.getElem_cons_succ, List.setIfInBounds_toArray, List.set_cons_zero, List.set_cons_succ]
       refine wpAnyH_ready (rs := [15]) (by kernel_rfl) (by simp) (AllReadyH.cons (o := _) rfl (fun K hK => ?_) AllReadyH.nil)
       have z44 := H42.out.cell 0 rfl 0 rfl
       have z45 := H42.out.free 0 rfl 0
       have z46 := H42.out.cell 0 rfl 1 rfl
       have z47 := H42.out.free 0 rfl 1
       have H48 := hid (show St B W [.cells D41 #[.int .i64 e38_0, .int .i64 e38_1] 43, .arr (32) 2 (.slice ta35 T30.length tc36) (T30.length) (tapV tp31), .arr (32) 2 (.slice ta25 T20.length tc26) (T20.length) (tapV tp21), .cells D12 #[.int .i64 pw9, .int .i64 ph9, .int .i64 pm9, .slice pv9a ps9.length pv9c] 40, .own (.slice pv9a ps9.length pv9c) ps9, .tape K3, .cells B #[.int .i64 r0, .int .i64 r1, .int .i64 r2, .int .i64 r3] 38] R32 ((k43.setCell ⟨D41, 0, none⟩ (.int .i64 e38_0)).setCell ⟨D41, 1, none⟩ (.int .i64 e38_1)) from ((H42.out.set 0 rfl 0 (.int .i64 e38_0)).set 0 rfl 1 (.int .i64 e38_1)))
       go_simp
       refine hK.out _ _ ?_ (fun hHeld2 => ?_)
       focus ((try dsimp only); (exact ⟨H48.out.cell 3 rfl 0 rfl, H48.out.cell 3 rfl 1 rfl, H48.out.cell 3 rfl 2 rfl, H48.out.cell 3 rfl 3 rfl⟩))
       clear hK K hHeld
       try simp only [Act.put, List.getElem_toArray, List.getElem_cons_zero, List.getElem_cons_succ, List.setIfInBounds_toArray, List.set_cons_zero, List.set_cons_succ]
       clear z44 z45 z46 z47
       generalize ((k43.setCell ⟨D41, 0, none⟩ (.int .i64 e38_0)).setCell ⟨D41, 1, none⟩ (.int .i64 e38_1)) = k49 at *
       have hHeld := hHeld2
       clear hHeld2
       refine wpAnyH_done (by kernel_rfl) ?_ _
       try clear hHeld
       go_wp2_with fail
       go_meet
       exact ⟨D41, _, _, _, _, _, _, _, _, _, _, _, rfl, rfl, rfl, HQ37.out, HD24.out, HQ33.out, HD34.out, HOKT20.out, HOKT30.out, H48.out.pick [2, 1, 0, 3, 4, 5, 6] rfl (by decide)⟩
      ·obtain ⟨D50, hD50⟩ : ∃ D, w27.heap.size = D := ⟨_, rfl⟩
       have H51 := hid (H28.out.alloc #[.int .i64 0, .int .i64 0] 43 hD50)
       go_simp
       refine hK.out _ _ ?_ (fun hHeld2 => ?_)
       focus ((try dsimp only); (exact ⟨H51.out.cell 3 rfl 0 rfl, H51.out.cell 3 rfl 1 rfl, H51.out.cell 3 rfl 2 rfl, H51.out.cell 3 rfl 3 rfl⟩))
       clear hK K hHeld
       try simp only [Act.put, List.getElem_toArray, List.getElem_cons_zero, List.getElem_cons_succ, List.setIfInBounds_toArray, List.set_cons_zero, List.set_cons_succ]
       clear hD50
       generalize (w27.alloc (.cells #[.int .i64 0, .int .i64 0] 43)) = k52 at *
       have hHeld := hHeld2
       clear hHeld2
       refine wpAnyH_ready (rs := [11]) (by kernel_rfl) (by simp) (AllReadyH.cons (o := _) rfl (fun K hK => ?_) AllReadyH.nil)
       go_simp
       go_at_call 15
       refine (edge_any B K3 _ _ (H51.out.tapeAt 5 rfl)).mono ?_
       rintro e w54 ⟨e53_0, e53_1, rfl, ht, hg⟩
       have H55 := hid (H51.out.next 5 rfl ht hg)
       clear ht hg
       refine hK.out _ _ ?_ (fun hHeld2 => ?_)
       focus ((try dsimp only); (exact ⟨H55.out.cell 3 rfl 0 rfl, H55.out.cell 3 rfl 1 rfl, H55.out.cell 3 rfl 2 rfl, H55.out.cell 3 rfl 3 rfl⟩))
       clear hK K
       try simp only [Act.put, List.getElem_toArray, List.getElem_cons_zero, List.getElem_cons_succ, List.setIfInBounds_toArray, List.set_cons_zero, List.set_cons_succ]
       clear hHeld
       have hHeld := hHeld2
       clear hHeld2
       refine wpAnyH_take (i := 13) (oi := _) (v := ?_) rfl (by kernel_rfl) (by kernel_rfl) (by kernel_rfl) (fun _ _ _ h => h) (Or.inl ⟨by rfl, ?_⟩) (by assumption) ?_
       rotate_left
       focus (intro wS hSw; (try dsimp only at hSw); go_simp; (try with_reducible rfl))
       try simp only [Act.put, List.getElem_toArray, List.getElem_cons_zero, List.getElem_cons_succ, List.setIfInBounds_toArray, List.set_cons_zero, List.set_cons_succ]
       refine wpAnyH_take (i := 14) (oi := _) (v := ?_) rfl (by kernel_rfl) (by kernel_rfl) (by kernel_rfl) (fun _ _ _ h => h) (Or.inl ⟨by rfl, ?_⟩) (by assumption) ?_
       rotate_left
       focus (intro wS hSw; (try dsimp only at hSw); go_simp; (try with_reducible rfl))
       try simp only [Act.put, List.getElem_toArray, List.getElem_cons_zero, List.getElem_cons_succ, List.setIfInBounds_toArray, List.set_cons_zero, List.set_cons_succ]
       refine wpAnyH_ready (rs := [15]) (by kernel_rfl) (by simp) (AllReadyH.cons (o := _) rfl (fun K hK => ?_) AllReadyH.nil)
       have z56 := H55.out.cell 0 rfl 0 rfl
       have z57 := H55.out.free 0 rfl 0
       have z58 := H55.out.cell 0 rfl 1 rfl
       have z59 := H55.out.free 0 rfl 1
       have H60 := hid (show St B W [.cells D50 #[.int .i64 e53_0, .int .i64 e53_1] 43, .arr (32) 2 (.slice ta35 T30.length tc36) (T30.length) (tapV tp31), .arr (32) 2 (.slice ta25 T20.length tc26) (T20.length) (tapV tp21), .cells D12 #[.int .i64 pw9, .int .i64 ph9, .int .i64 pm9, .slice pv9a ps9.length pv9c] 40, .own (.slice pv9a ps9.length pv9c) ps9, .tape K3, .cells B #[.int .i64 r0, .int .i64 r1, .int .i64 r2, .int .i64 r3] 38] R32 ((w54.setCell ⟨D50, 0, none⟩ (.int .i64 e53_0)).setCell ⟨D50, 1, none⟩ (.int .i64 e53_1)) from ((H55.out.set 0 rfl 0 (.int .i64 e53_0)).set 0 rfl 1 (.int .i64 e53_1)))
       go_simp
       refine hK.out _ _ ?_ (fun hHeld2 => ?_)
       focus ((try dsimp only); (exact ⟨H60.out.cell 3 rfl 0 rfl, H60.out.cell 3 rfl 1 rfl, H60.out.cell 3 rfl 2 rfl, H60.out.cell 3 rfl 3 rfl⟩))
       clear hK K hHeld
       try simp only [Act.put, List.getElem_toArray, List.getElem_cons_zero, List.getElem_cons_succ, List.setIfInBounds_toArray, List.set_cons_zero, List.set_cons_succ]
       clear z56 z57 z58 z59
       generalize ((w54.setCell ⟨D50, 0, none⟩ (.int .i64 e53_0)).setCell ⟨D50, 1, none⟩ (.int .i64 e53_1)) = k61 at *
       have hHeld := hHeld2
       clear hHeld2
       refine wpAnyH_done (by kernel_rfl) ?_ _
       try clear hHeld
       go_wp2_with fail
       go_meet
       exact ⟨D50, _, _, _, _, _, _, _, _, _, _, _, rfl, rfl, rfl, HQ37.out, HD24.out, HQ33.out, HD34.out, HOKT20.out, HOKT30.out, H60.out.pick [2, 1, 0, 3, 4, 5, 6] rfl (by decide)⟩
     ·obtain ⟨D62, hD62⟩ : ∃ D, w17.heap.size = D := ⟨_, rfl⟩
      have H63 := hid (H18.out.alloc #[.int .i64 0, .int .i64 0] 43 hD62)
      go_simp
      refine hK.out _ _ ?_ (fun hHeld2 => ?_)
      focus ((try dsimp only); (exact ⟨H63.out.cell 2 rfl 0 rfl, H63.out.cell 2 rfl 1 rfl, H63.out.cell 2 rfl 2 rfl, H63.out.cell 2 rfl 3 rfl⟩))
      clear hK K hHeld
      try simp only [Act.put, List.getElem_toArray, List.getElem_cons_zero, List.getElem_cons_succ, List.setIfInBounds_toArray, List.set_cons_zero, List.set_cons_succ]
      clear hD62
      generalize (w17.alloc (.cells #[.int .i64 0, .int .i64 0] 43)) = k64 at *
      have hHeld := hHeld2
      clear hHeld2
      refine wpAnyH_ready (rs := [7]) (by kernel_rfl) (by simp) (AllReadyH.cons (o := _) rfl (fun K hK => ?_) AllReadyH.nil)
      go_simp
      go_at_call 10
      refine (table_any B K3 ph9 _ (by omega) (H63.out.tapeAt 4 rfl)).mono ?_
      rintro e w65 ⟨v67, T68, rfl, hok, ho, ht, hg⟩
      obtain ⟨tp69, R70, ta73, tc74, rfl, htd, htq, hmo, hst⟩ := St.addTT H63.out (H63.out.next 4 rfl ht hg) ho
      obtain ⟨T68l0, T68l1⟩ : 1 ≤ T68.length ∧ T68.length ≤ 6 := ⟨hok.l0, hok.l1⟩
      have HOKT68 := hid hok
      have HQ71 := hid htq
      have HD72 := hid htd
      have H66 := hid hst
      have HQ75 := hid (hmo _ HQ23.out)
      clear htd htq hmo hst ho ht hg hok
      refine hK.out _ _ ?_ (fun hHeld2 => ?_)
      focus ((try dsimp only); (exact ⟨H66.out.cell 3 rfl 0 rfl, H66.out.cell 3 rfl 1 rfl, H66.out.cell 3 rfl 2 rfl, H66.out.cell 3 rfl 3 rfl⟩))
      clear hK K
      try simp only [Act.put, List.getElem_toArray, List.getElem_cons_zero, List.getElem_cons_succ, List.setIfInBounds_toArray, List.set_cons_zero, List.set_cons_succ]
      clear hHeld
      have hHeld := hHeld2
      clear hHeld2
      refine wpAnyH_ready (rs := [11]) (by kernel_rfl) (by simp) (AllReadyH.cons (o := _) rfl (fun K hK => ?_) AllReadyH.nil)
      go_simp
      go_at_call 15
      refine (edge_any B K3 _ _ (H66.out.tapeAt 5 rfl)).mono ?_
      rintro e w77 ⟨e76_0, e76_1, rfl, ht, hg⟩
      have H78 := hid (H66.out.next 5 rfl ht hg)
      clear ht hg
      refine hK.out _ _ ?_ (fun hHeld2 => ?_)
      focus ((try dsimp only); (exact ⟨H78.out.cell 3 rfl 0 rfl, H78.out.cell 3 rfl 1 rfl, H78.out.cell 3 rfl 2 rfl, H78.out.cell 3 rfl 3 rfl⟩))
      clear hK K
      try simp only [Act.put, List.getElem_toArray, List.getElem_cons_zero, List.getElem_cons_succ, List.setIfInBounds_toArray, List.set_cons_zero, List.set_cons_succ]
      clear hHeld
      have hHeld := hHeld2
      clear hHeld2
      refine wpAnyH_take (i := 13) (oi := _) (v := ?_) rfl (by kernel_rfl) (by kernel_rfl) (by kernel_rfl) (fun _ _ _ h => h) (Or.inl ⟨by rfl, ?_⟩) (by assumption) ?_
      rotate_left
      focus (intro wS hSw; (try dsimp only at hSw); go_simp; (try with_reducible rfl))
      try simp only [Act.put, List.getElem_toArray, List.getElem_cons_zero, List.getElem_cons_succ, List.setIfInBounds_toArray, List.set_cons_zero, List.set_cons_succ]
      refine wpAnyH_take (i := 14) (oi := _) (v := ?_) rfl (by kernel_rfl) (by kernel_rfl) (by kernel_rfl) (fun _ _ _ h => h) (Or.inl ⟨by rfl, ?_⟩) (by assumption) ?_
      rotate_left
      focus (intro wS hSw; (try dsimp only at hSw); go_simp; (try with_reducible rfl))
      try simp only [Act.put, List.getElem_toArray, List.getElem_cons_zero, List.getElem_cons_succ, List.setIfInBounds_toArray, List.set_cons_zero, List.set_cons_succ]
      refine wpAnyH_ready (rs := [15]) (by kernel_rfl) (by simp) (AllReadyH.cons (o := _) rfl (fun K hK => ?_) AllReadyH.nil)
      have z79 := H78.out.cell 1 rfl 0 rfl
      have z80 := H78.out.free 1 rfl 0
      have z81 := H78.out.cell 1 rfl 1 rfl
      have z82 := H78.out.free 1 rfl 1
      have H83 := hid (show St B W [.arr (32) 2 (.slice ta73 T68.length tc74) (T68.length) (tapV tp69), .cells D62 #[.int .i64 e76_0, .int .i64 e76_1] 43, .arr (32) 2 (.slice ta25 T20.length tc26) (T20.length) (tapV tp21), .cells D12 #[.int .i64 pw9, .int .i64 ph9, .int .i64 pm9, .slice pv9a ps9.length pv9c] 40, .own (.slice pv9a ps9.length pv9c) ps9, .tape K3, .cells B #[.int .i64 r0, .int .i64 r1, .int .i64 r2, .int .i64 r3] 38] R70 ((w77.setCell ⟨D62, 0, none⟩ (.int .i64 e76_0)).setCell ⟨D62, 1, none⟩ (.int .i64 e76_1)) from ((H78.out.set 1 rfl 0 (.int .i64 e76_0)).set 1 rfl 1 (.int .i64 e76_1)))
      go_simp
      refine hK.out _ _ ?_ (fun hHeld2 => ?_)
      focus ((try dsimp only); (exact ⟨H83.out.cell 3 rfl 0 rfl, H83.out.cell 3 rfl 1 rfl, H83.out.cell 3 rfl 2 rfl, H83.out.cell 3 rfl 3 rfl⟩))
      clear hK K hHeld
      try simp only [Act.put, List.getElem_toArray, List.getElem_cons_zero, List.getElem_cons_succ, List.setIfInBounds_toArray, List.set_cons_zero, List.set_cons_succ]
      clear z79 z80 z81 z82
      generalize ((w77.setCell ⟨D62, 0, none⟩ (.int .i64 e76_0)).setCell ⟨D62, 1, none⟩ (.int .i64 e76_1)) = k84 at *
      have hHeld := hHeld2
      clear hHeld2
      refine wpAnyH_done (by kernel_rfl) ?_ _
      try clear hHeld
      go_wp2_with fail
      go_meet
      exact ⟨D62, _, _, _, _, _, _, _, _, _, _, _, rfl, rfl, rfl, HQ75.out, HD24.out, HQ71.out, HD72.out, HOKT20.out, HOKT68.out, H83.out.pick [2, 0, 1, 3, 4, 5, 6] rfl (by decide)⟩
    ·obtain ⟨D85, hD85⟩ : ∃ D, k16.heap.size = D := ⟨_, rfl⟩
     have H86 := hid (H15.out.alloc #[.int .i64 0, .int .i64 0] 43 hD85)
     go_simp
     refine hK.out _ _ ?_ (fun hHeld2 => ?_)
     focus ((try dsimp only); (exact ⟨H86.out.cell 1 rfl 0 rfl, H86.out.cell 1 rfl 1 rfl, H86.out.cell 1 rfl 2 rfl, H86.out.cell 1 rfl 3 rfl⟩))
     clear hK K hHeld
     try simp only [Act.put, List.getElem_toArray, List.getElem_cons_zero, List.getElem_cons_succ, List.setIfInBounds_toArray, List.set_cons_zero, List.set_cons_succ]
     clear hD85
     generalize (k16.alloc (.cells #[.int .i64 0, .int .i64 0] 43)) = k87 at *
     have hHeld := hHeld2
     clear hHeld2
     refine wpAnyH_ready (rs := [3]) (by kernel_rfl) (by simp) (AllReadyH.cons (o := _) rfl (fun K hK => ?_) AllReadyH.nil)
     go_simp
     go_at_call 10
     refine (table_any B K3 pw9 _ (by omega) (H86.out.tapeAt 3 rfl)).mono ?_
     rintro e w88 ⟨v90, T91, rfl, hok, ho, ht, hg⟩
     obtain ⟨tp92, R93, ta96, tc97, rfl, htd, htq, hmo, hst⟩ := St.addTT H86.out (H86.out.next 3 rfl ht hg) ho
     obtain ⟨T91l0, T91l1⟩ : 1 ≤ T91.length ∧ T91.length ≤ 6 := ⟨hok.l0, hok.l1⟩
     have HOKT91 := hid hok
     have HQ94 := hid htq
     have HD95 := hid htd
     have H89 := hid hst
     clear htd htq hmo hst ho ht hg hok
     refine hK.out _ _ ?_ (fun hHeld2 => ?_)
     focus ((try dsimp only); (exact ⟨H89.out.cell 2 rfl 0 rfl, H89.out.cell 2 rfl 1 rfl, H89.out.cell 2 rfl 2 rfl, H89.out.cell 2 rfl 3 rfl⟩))
     clear hK K
     try simp only [Act.put, List.getElem_toArray, List.getElem_cons_zero, List.getElem_cons_succ, List.setIfInBounds_toArray, List.set_cons_zero, List.set_cons_succ]
     clear hHeld
     have hHeld := hHeld2
     clear hHeld2
     refine wpAnyH_ready (rs := [7]) (by kernel_rfl) (by simp) (AllReadyH.cons (o := _) rfl (fun K hK => ?_) AllReadyH.nil)
     go_simp
     go_at_call 10
     refine (table_any B K3 ph9 _ (by omega) (H89.out.tapeAt 4 rfl)).mono ?_
     rintro e w98 ⟨v100, T101, rfl, hok, ho, ht, hg⟩
     obtain ⟨tp102, R103, ta106, tc107, rfl, htd, htq, hmo, hst⟩ := St.addTT H89.out (H89.out.next 4 rfl ht hg) ho
     obtain ⟨T101l0, T101l1⟩ : 1 ≤ T101.length ∧ T101.length ≤ 6 := ⟨hok.l0, hok.l1⟩
     have HOKT101 := hid hok
     have HQ104 := hid htq
     have HD105 := hid htd
     have H99 := hid hst
     have HQ108 := hid (hmo _ HQ94.out)
     clear htd htq hmo hst ho ht hg hok
     refine hK.out _ _ ?_ (fun hHeld2 => ?_)
     focus ((try dsimp only); (exact ⟨H99.out.cell 3 rfl 0 rfl, H99.out.cell 3 rfl 1 rfl, H99.out.cell 3 rfl 2 rfl, H99.out.cell 3 rfl 3 rfl⟩))
     clear hK K
     try simp only [Act.put, List.getElem_toArray, List.getElem_cons_zero, List.getElem_cons_succ, List.setIfInBounds_toArray, List.set_cons_zero, List.set_cons_succ]
     clear hHeld
     have hHeld := hHeld2
     clear hHeld2
     refine wpAnyH_ready (rs := [11]) (by kernel_rfl) (by simp) (AllReadyH.cons (o := _) rfl (fun K hK => ?_) AllReadyH.nil)
     go_simp
     go_at_call 15
     refine (edge_any B K3 _ _ (H99.out.tapeAt 5 rfl)).mono ?_
     rintro e w110 ⟨e109_0, e109_1, rfl, ht, hg⟩
     have H111 := hid (H99.out.next 5 rfl ht hg)
     clear ht hg
     refine hK.out _ _ ?_ (fun hHeld2 => ?_)
     focus ((try dsimp only); (exact ⟨H111.out.cell 3 rfl 0 rfl, H111.out.cell 3 rfl 1 rfl, H111.out.cell 3 rfl 2 rfl, H111.out.cell 3 rfl 3 rfl⟩))
     clear hK K
     try simp only [Act.put, List.getElem_toArray, List.getElem_cons_zero, List.getElem_cons_succ, List.setIfInBounds_toArray, List.set_cons_zero, List.set_cons_succ]
     clear hHeld
     have hHeld := hHeld2
     clear hHeld2
     refine wpAnyH_take (i := 13) (oi := _) (v := ?_) rfl (by kernel_rfl) (by kernel_rfl) (by kernel_rfl) (fun _ _ _ h => h) (Or.inl ⟨by rfl, ?_⟩) (by assumption) ?_
     rotate_left
     focus (intro wS hSw; (try dsimp only at hSw); go_simp; (try with_reducible rfl))
     try simp only [Act.put, List.getElem_toArray, List.getElem_cons_zero, List.getElem_cons_succ, List.setIfInBounds_toArray, List.set_cons_zero, List.set_cons_succ]
     refine wpAnyH_take (i := 14) (oi := _) (v := ?_) rfl (by kernel_rfl) (by kernel_rfl) (by kernel_rfl) (fun _ _ _ h => h) (Or.inl ⟨by rfl, ?_⟩) (by assumption) ?_
     rotate_left
     focus (intro wS hSw; (try dsimp only at hSw); go_simp; (try with_reducible rfl))
     try simp only [Act.put, List.getElem_toArray, List.getElem_cons_zero, List.getElem_cons_succ, List.setIfInBounds_toArray, List.set_cons_zero, List.set_cons_succ]
     refine wpAnyH_ready (rs := [15]) (by kernel_rfl) (by simp) (AllReadyH.cons (o := _) rfl (fun K hK => ?_) AllReadyH.nil)
     have z112 := H111.out.cell 2 rfl 0 rfl
     have z113 := H111.out.free 2 rfl 0
     have z114 := H111.out.cell 2 rfl 1 rfl
     have z115 := H111.out.free 2 rfl 1
     have H116 := hid (show St B W [.arr (32) 2 (.slice ta106 T101.length tc107) (T101.length) (tapV tp102), .arr (32) 2 (.slice ta96 T91.length tc97) (T91.length) (tapV tp92), .cells D85 #[.int .i64 e109_0, .int .i64 e109_1] 43, .cells D12 #[.int .i64 pw9, .int .i64 ph9, .int .i64 pm9, .slice pv9a ps9.length pv9c] 40, .own (.slice pv9a ps9.length pv9c) ps9, .tape K3, .cells B #[.int .i64 r0, .int .i64 r1, .int .i64 r2, .int .i64 r3] 38] R103 ((w110.setCell ⟨D85, 0, none⟩ (.int .i64 e109_0)).setCell ⟨D85, 1, none⟩ (.int .i64 e109_1)) from ((H111.out.set 2 rfl 0 (.int .i64 e109_0)).set 2 rfl 1 (.int .i64 e109_1)))
     go_simp
     refine hK.out _ _ ?_ (fun hHeld2 => ?_)
     focus ((try dsimp only); (exact ⟨H116.out.cell 3 rfl 0 rfl, H116.out.cell 3 rfl 1 rfl, H116.out.cell 3 rfl 2 rfl, H116.out.cell 3 rfl 3 rfl⟩))
     clear hK K hHeld
     try simp only [Act.put, List.getElem_toArray, List.getElem_cons_zero, List.getElem_cons_succ, List.setIfInBounds_toArray, List.set_cons_zero, List.set_cons_succ]
     clear z112 z113 z114 z115
     generalize ((w110.setCell ⟨D85, 0, none⟩ (.int .i64 e109_0)).setCell ⟨D85, 1, none⟩ (.int .i64 e109_1)) = k117 at *
     have hHeld := hHeld2
     clear hHeld2
     refine wpAnyH_done (by kernel_rfl) ?_ _
     try clear hHeld
     go_wp2_with fail
     go_meet
     exact ⟨D85, _, _, _, _, _, _, _, _, _, _, _, rfl, rfl, rfl, HQ108.out, HD95.out, HQ104.out, HD105.out, HOKT91.out, HOKT101.out, H116.out.pick [1, 0, 2, 3, 4, 5, 6] rfl (by decide)⟩
   case rest =>
    obtain ⟨RE, xta, xtc, xTl, xtp, yta, ytc, yTl, ytp, ep, ef, RS, rfl, rfl, rfl, htqx, htdx, htqy, htdy, hokx, hoky, hst⟩ := hcut
    obtain ⟨u118, rfl⟩ : ∃ u118 : World, u118 = wc := ⟨_, rfl⟩
    have H119 := hid hst
    clear hst
    have HQx := hid htqx
    have HDx := hid htdx
    have HQy := hid htqy
    have HDy := hid htdy
    obtain ⟨xTl0, xTl1⟩ : 1 ≤ xTl.length ∧ xTl.length ≤ 6 := ⟨hokx.l0, hokx.l1⟩
    obtain ⟨yTl0, yTl1⟩ : 1 ≤ yTl.length ∧ yTl.length ≤ 6 := ⟨hoky.l0, hoky.l1⟩
    have HOKx := hid hokx
    have HOKy := hid hoky
    clear htqx htdx htqy htdy hokx hoky
    go_wp2_with fail
    refine (within_any B K3 _ _ _ (by omega) (by omega) (by omega) (by omega) (H119.out.tapeAt 5 rfl)).mono ?_
    rintro e w121 ⟨q120_0, q120_1, q120_2, q120_3, rfl, hq120, ht, hg⟩
    have H122 := hid (H119.out.next 5 rfl ht hg)
    have HWq120 := hid hq120
    clear hq120 ht hg
    obtain ⟨D123, hD123⟩ : ∃ D, w121.heap.size = D := ⟨_, rfl⟩
    go_upto_region 8 with fail
    have H124 := hid (show St B W [.cells D123 #[.int .i64 q120_0, .int .i64 q120_1, .int .i64 q120_2, .int .i64 q120_3] 38, .arr (32) 2 (.slice xta xTl.length xtc) (xTl.length) (tapV xtp), .arr (32) 2 (.slice yta yTl.length ytc) (yTl.length) (tapV ytp), .cells RE #[.int .i64 ep, .int .i64 ef] 43, .cells D12 #[.int .i64 pw9, .int .i64 ph9, .int .i64 pm9, .slice pv9a ps9.length pv9c] 40, .own (.slice pv9a ps9.length pv9c) ps9, .tape K3, .cells B #[.int .i64 r0, .int .i64 r1, .int .i64 r2, .int .i64 r3] 38] RS (w121.alloc (.cells #[.int .i64 q120_0, .int .i64 q120_1, .int .i64 q120_2, .int .i64 q120_3] 38)) from (H122.out.alloc #[.int .i64 q120_0, .int .i64 q120_1, .int .i64 q120_2, .int .i64 q120_3] 38 hD123))
    first | refine gen_code H124.out ?_ | refine gen_list H124.out ?_ | refine gen_calls H124.out ?_
    intro w125 hG
    clear H124
    have H124 := hid hG
    clear hG
    clear hD123
    go_upto_if 43 with fail
    go_cut [] (fun wx => ∃ (y0 y1 y2 y3 : Int), St B W [.cells D123 #[.int .i64 y0, .int .i64 y1, .int .i64 y2, .int .i64 y3] 38, .arr (32) 2 (.slice xta xTl.length xtc) (xTl.length) (tapV xtp), .arr (32) 2 (.slice yta yTl.length ytc) (yTl.length) (tapV ytp), .cells RE #[.int .i64 ep, .int .i64 ef] 43, .cells D12 #[.int .i64 pw9, .int .i64 ph9, .int .i64 pm9, .slice pv9a ps9.length pv9c] 40, .own (.slice pv9a ps9.length pv9c) ps9, .tape K3, .cells B #[.int .i64 r0, .int .i64 r1, .int .i64 r2, .int .i64 r3] 38] RS wx)
    case first =>
     by_cases hN : j = 2
     ·skip
      subst hN
      go_upto_region 9 with fail
      have H126 := hid H124.out.drew
      refine wp_region_held_drew (S := (fun w' => w'.cell? ⟨B, 0, none⟩ = some (.int .i64 r0) ∧ w'.cell? ⟨B, 1, none⟩ = some (.int .i64 r1) ∧ w'.cell? ⟨B, 2, none⟩ = some (.int .i64 r2) ∧ w'.cell? ⟨B, 3, none⟩ = some (.int .i64 r3))) (by kernel_rfl) ⟨H126.out.cell 7 rfl 0 rfl, H126.out.cell 7 rfl 1 rfl, H126.out.cell 7 rfl 2 rfl, H126.out.cell 7 rfl 3 rfl⟩ (fun hHeld => ?_)
      generalize w125.drew = k127 at *
      refine wpAnyH_take (i := 0) (oi := _) (v := ?_) rfl (by kernel_rfl) (by kernel_rfl) (by kernel_rfl) (fun _ _ _ h => h) (Or.inl ⟨by rfl, ?_⟩) (by assumption) ?_
      rotate_left
      focus (intro wS hSw; (try dsimp only at hSw); go_simp; (try with_reducible rfl))
      try simp only [Act.put, List.getElem_toArray, List.getElem_cons_zero, List.getElem_cons_succ, List.setIfInBounds_toArray, List.set_cons_zero, List.set_cons_succ]
      refine wpAnyH_take (i := 1) (oi := _) (v := ?_) rfl (by kernel_rfl) (by kernel_rfl) (by kernel_rfl) (fun _ _ _ h => h) (Or.inl ⟨by rfl, ?_⟩) (by assumption) ?_
      rotate_left
      focus (intro wS hSw; (try dsimp only at hSw); go_simp; (try with_reducible rfl))
      try simp only [Act.put, List.getElem_toArray, List.getElem_cons_zero, List.getElem_cons_succ, List.setIfInBounds_toArray, List.set_cons_zero, List.set_cons_succ]
      refine wpAnyH_take (i := 4) (oi := _) (v := ?_) rfl (by kernel_rfl) (by kernel_rfl) (by kernel_rfl) (fun _ _ _ h => h) (Or.inl ⟨by rfl, ?_⟩) (by assumption) ?_
      rotate_left
      focus (intro wS hSw; (try dsimp only at hSw); go_simp; (try with_reducible rfl))
      try simp only [Act.put, List.getElem_toArray, List.getElem_cons_zero, List.getElem_cons_succ, List.setIfInBounds_toArray, List.set_cons_zero, List.set_cons_succ]
      refine wpAnyH_ready (rs := [2]) (by kernel_rfl) (by simp) (AllReadyH.cons (o := _) rfl (fun K hK => ?_) AllReadyH.nil)
      go_simp
      go_at_call 17
      refine (rectB_any B K3 _ (H126.out.tapeAt 6 rfl)).mono ?_
      rintro e w129 ⟨r128_0, r128_1, r128_2, r128_3, rfl, ht, hg⟩
      have H130 := hid (H126.out.next 6 rfl ht hg)
      clear ht hg
      refine hK.out _ _ ?_ (fun hHeld2 => ?_)
      focus ((try dsimp only); (exact ⟨H130.out.cell 7 rfl 0 rfl, H130.out.cell 7 rfl 1 rfl, H130.out.cell 7 rfl 2 rfl, H130.out.cell 7 rfl 3 rfl⟩))
      clear hK K
      try simp only [Act.put, List.getElem_toArray, List.getElem_cons_zero, List.getElem_cons_succ, List.setIfInBounds_toArray, List.set_cons_zero, List.set_cons_succ]
      clear hHeld
      have hHeld := hHeld2
      clear hHeld2
      refine wpAnyH_ready (rs := [3, 5]) (by kernel_rfl) (by simp) (AllReadyH.cons (o := _) rfl (fun K hK => ?_) (AllReadyH.cons (o := _) rfl (fun K hK => ?_) AllReadyH.nil))
      ·obtain ⟨D131, hD131⟩ : ∃ D, w129.heap.size = D := ⟨_, rfl⟩
       have H132 := hid (H130.out.alloc #[.int .i64 r0, .int .i64 r1, .int .i64 r2, .int .i64 r3, .int .i64 r128_0, .int .i64 r128_1, .int .i64 r128_2, .int .i64 r128_3] 38 hD131)
       go_simp
       refine hK.out _ _ ?_ (fun hHeld2 => ?_)
       focus ((try dsimp only); (exact ⟨H132.out.cell 8 rfl 0 rfl, H132.out.cell 8 rfl 1 rfl, H132.out.cell 8 rfl 2 rfl, H132.out.cell 8 rfl 3 rfl⟩))
       clear hK K hHeld
       try simp only [Act.put, List.getElem_toArray, List.getElem_cons_zero, List.getElem_cons_succ, List.setIfInBounds_toArray, List.set_cons_zero, List.set_cons_succ]
       clear hD131
       generalize (w129.alloc (.cells #[.int .i64 r0, .int .i64 r1, .int .i64 r2, .int .i64 r3, .int .i64 r128_0, .int .i64 r128_1, .int .i64 r128_2, .int .i64 r128_3] 38)) = k133 at *
       have hHeld := hHeld2
       clear hHeld2
       refine wpAnyH_ready (rs := [5]) (by kernel_rfl) (by simp) (AllReadyH.cons (o := _) rfl (fun K hK => ?_) AllReadyH.nil)
       go_simp
       go_at_call 8
       refine (nextB_any B K3 _ _ (by omega) (H132.out.tapeAt 7 rfl)).mono ?_
       rintro e w135 ⟨x134, rfl, x134a, x134b, htn, hgn, hsn⟩
       have H136 := hid (H132.out.next 7 rfl htn hgn)
       clear htn hgn hsn
       refine hK.out _ _ ?_ (fun hHeld2 => ?_)
       focus ((try dsimp only); (exact ⟨H136.out.cell 8 rfl 0 rfl, H136.out.cell 8 rfl 1 rfl, H136.out.cell 8 rfl 2 rfl, H136.out.cell 8 rfl 3 rfl⟩))
       clear hK K
       try simp only [Act.put, List.getElem_toArray, List.getElem_cons_zero, List.getElem_cons_succ, List.setIfInBounds_toArray, List.set_cons_zero, List.set_cons_succ]
       clear hHeld
       have hHeld := hHeld2
       clear hHeld2
       rcases (show x134 = 0 ∨ x134 = 1 by omega) with hx0 | hx0
       ·skip
        subst hx0
        refine wpAnyH_take (i := 6) (oi := _) (v := ?_) rfl (by kernel_rfl) (by kernel_rfl) (by kernel_rfl) (fun _ _ _ h => h) (Or.inl ⟨by rfl, ?_⟩) (by assumption) ?_
        rotate_left
        focus (intro wS hSw; (try dsimp only at hSw); go_simp; (try with_reducible rfl))
        try simp only [Act.put, List.getElem_toArray, List.getElem_cons_zero, List.getElem_cons_succ, List.setIfInBounds_toArray, List.set_cons_zero, List.set_cons_succ]
        refine wpAnyH_ready (rs := [7]) (by kernel_rfl) (by simp) (AllReadyH.cons (o := _) rfl (fun K hK => ?_) AllReadyH.nil)
        have g137 := H136.out.cell 0 rfl 0 rfl
        have g138 := H136.out.cell 0 rfl 1 rfl
        have g139 := H136.out.cell 0 rfl 2 rfl
        have g140 := H136.out.cell 0 rfl 3 rfl
        go_simp
        refine hK.out _ _ ?_ (fun hHeld2 => ?_)
        focus ((try dsimp only); (try exact hHeld))
        clear hK K
        try simp only [Act.put, List.getElem_toArray, List.getElem_cons_zero, List.getElem_cons_succ, List.setIfInBounds_toArray, List.set_cons_zero, List.set_cons_succ]
        clear hHeld2 g137 g138 g139 g140
        refine wpAnyH_ready (rs := [8]) (by kernel_rfl) (by simp) (AllReadyH.cons (o := _) rfl (fun K hK => ?_) AllReadyH.nil)
        have z141 := H136.out.cell 1 rfl 0 rfl
        have z142 := H136.out.free 1 rfl 0
        have z143 := H136.out.cell 1 rfl 1 rfl
        have z144 := H136.out.free 1 rfl 1
        have z145 := H136.out.cell 1 rfl 2 rfl
        have z146 := H136.out.free 1 rfl 2
        have z147 := H136.out.cell 1 rfl 3 rfl
        have z148 := H136.out.free 1 rfl 3
        have H149 := hid (show St B W [.cells D131 #[.int .i64 r0, .int .i64 r1, .int .i64 r2, .int .i64 r3, .int .i64 r128_0, .int .i64 r128_1, .int .i64 r128_2, .int .i64 r128_3] 38, .cells D123 #[.int .i64 r0, .int .i64 r1, .int .i64 r2, .int .i64 r3] 38, .arr (32) 2 (.slice xta xTl.length xtc) (xTl.length) (tapV xtp), .arr (32) 2 (.slice yta yTl.length ytc) (yTl.length) (tapV ytp), .cells RE #[.int .i64 ep, .int .i64 ef] 43, .cells D12 #[.int .i64 pw9, .int .i64 ph9, .int .i64 pm9, .slice pv9a ps9.length pv9c] 40, .own (.slice pv9a ps9.length pv9c) ps9, .tape K3, .cells B #[.int .i64 r0, .int .i64 r1, .int .i64 r2, .int .i64 r3] 38] RS ((((w135.setCell ⟨D123, 0, none⟩ (.int .i64 r0)).setCell ⟨D123, 1, none⟩ (.int .i64 r1)).setCell ⟨D123, 2, none⟩ (.int .i64 r2)).setCell ⟨D123, 3, none⟩ (.int .i64 r3)) from (H136.out.set4 1 rfl (.int .i64 r0) (.int .i64 r1) (.int .i64 r2) (.int .i64 r3)))
        go_simp
        refine hK.out _ _ ?_ (fun hHeld2 => ?_)
        focus ((try dsimp only); (exact ⟨H149.out.cell 8 rfl 0 rfl, H149.out.cell 8 rfl 1 rfl, H149.out.cell 8 rfl 2 rfl, H149.out.cell 8 rfl 3 rfl⟩))
        clear hK K hHeld
        try simp only [Act.put, List.getElem_toArray, List.getElem_cons_zero, List.getElem_cons_succ, List.setIfInBounds_toArray, List.set_cons_zero, List.set_cons_succ]
        clear z141 z142 z143 z144 z145 z146 z147 z148
        generalize ((((w135.setCell ⟨D123, 0, none⟩ (.int .i64 r0)).setCell ⟨D123, 1, none⟩ (.int .i64 r1)).setCell ⟨D123, 2, none⟩ (.int .i64 r2)).setCell ⟨D123, 3, none⟩ (.int .i64 r3)) = k150 at *
        have hHeld := hHeld2
        clear hHeld2
        refine wpAnyH_done (by kernel_rfl) ?_ _
        try clear hHeld
        go_wp2_with fail
        go_meet
        exact ⟨_, _, _, _, H149.out.pick [1, 2, 3, 4, 5, 6, 7, 8] rfl (by decide)⟩
       ·skip
        subst hx0
        refine wpAnyH_take (i := 6) (oi := _) (v := ?_) rfl (by kernel_rfl) (by kernel_rfl) (by kernel_rfl) (fun _ _ _ h => h) (Or.inl ⟨by rfl, ?_⟩) (by assumption) ?_
        rotate_left
        focus (intro wS hSw; (try dsimp only at hSw); go_simp; (try with_reducible rfl))
        try simp only [Act.put, List.getElem_toArray, List.getElem_cons_zero, List.getElem_cons_succ, List.setIfInBounds_toArray, List.set_cons_zero, List.set_cons_succ]
        refine wpAnyH_ready (rs := [7]) (by kernel_rfl) (by simp) (AllReadyH.cons (o := _) rfl (fun K hK => ?_) AllReadyH.nil)
        have g151 := H136.out.cell 0 rfl 4 rfl
        have g152 := H136.out.cell 0 rfl 5 rfl
        have g153 := H136.out.cell 0 rfl 6 rfl
        have g154 := H136.out.cell 0 rfl 7 rfl
        go_simp
        refine hK.out _ _ ?_ (fun hHeld2 => ?_)
        focus ((try dsimp only); (try exact hHeld))
        clear hK K
        try simp only [Act.put, List.getElem_toArray, List.getElem_cons_zero, List.getElem_cons_succ, List.setIfInBounds_toArray, List.set_cons_zero, List.set_cons_succ]
        clear hHeld2 g151 g152 g153 g154
        refine wpAnyH_ready (rs := [8]) (by kernel_rfl) (by simp) (AllReadyH.cons (o := _) rfl (fun K hK => ?_) AllReadyH.nil)
        have z155 := H136.out.cell 1 rfl 0 rfl
        have z156 := H136.out.free 1 rfl 0
        have z157 := H136.out.cell 1 rfl 1 rfl
        have z158 := H136.out.free 1 rfl 1
        have z159 := H136.out.cell 1 rfl 2 rfl
        have z160 := H136.out.free 1 rfl 2
        have z161 := H136.out.cell 1 rfl 3 rfl
        have z162 := H136.out.free 1 rfl 3
        have H163 := hid (show St B W [.cells D131 #[.int .i64 r0, .int .i64 r1, .int .i64 r2, .int .i64 r3, .int .i64 r128_0, .int .i64 r128_1, .int .i64 r128_2, .int .i64 r128_3] 38, .cells D123 #[.int .i64 r128_0, .int .i64 r128_1, .int .i64 r128_2, .int .i64 r128_3] 38, .arr (32) 2 (.slice xta xTl.length xtc) (xTl.length) (tapV xtp), .arr (32) 2 (.slice yta yTl.length ytc) (yTl.length) (tapV ytp), .cells RE #[.int .i64 ep, .int .i64 ef] 43, .cells D12 #[.int .i64 pw9, .int .i64 ph9, .int .i64 pm9, .slice pv9a ps9.length pv9c] 40, .own (.slice pv9a ps9.length pv9c) ps9, .tape K3, .cells B #[.int .i64 r0, .int .i64 r1, .int .i64 r2, .int .i64 r3] 38] RS ((((w135.setCell ⟨D123, 0, none⟩ (.int .i64 r128_0)).setCell ⟨D123, 1, none⟩ (.int .i64 r128_1)).setCell ⟨D123, 2, none⟩ (.int .i64 r128_2)).setCell ⟨D123, 3, none⟩ (.int .i64 r128_3)) from (H136.out.set4 1 rfl (.int .i64 r128_0) (.int .i64 r128_1) (.int .i64 r128_2) (.int .i64 r128_3)))
        go_simp
        refine hK.out _ _ ?_ (fun hHeld2 => ?_)
        focus ((try dsimp only); (exact ⟨H163.out.cell 8 rfl 0 rfl, H163.out.cell 8 rfl 1 rfl, H163.out.cell 8 rfl 2 rfl, H163.out.cell 8 rfl 3 rfl⟩))
        clear hK K hHeld
        try simp only [Act.put, List.getElem_toArray, List.getElem_cons_zero, List.getElem_cons_succ, List.setIfInBounds_toArray, List.set_cons_zero, List.set_cons_succ]
        clear z155 z156 z157 z158 z159 z160 z161 z162
        generalize ((((w135.setCell ⟨D123, 0, none⟩ (.int .i64 r128_0)).setCell ⟨D123, 1, none⟩ (.int .i64 r128_1)).setCell ⟨D123, 2, none⟩ (.int .i64 r128_2)).setCell ⟨D123, 3, none⟩ (.int .i64 r128_3)) = k164 at *
        have hHeld := hHeld2
        clear hHeld2
        refine wpAnyH_done (by kernel_rfl) ?_ _
        try clear hHeld
        go_wp2_with fail
        go_meet
        exact ⟨_, _, _, _, H163.out.pick [1, 2, 3, 4, 5, 6, 7, 8] rfl (by decide)⟩
      ·go_simp
       go_at_call 8
       refine (nextB_any B K3 _ _ (by omega) (H130.out.tapeAt 6 rfl)).mono ?_
       rintro e w166 ⟨x165, rfl, x165a, x165b, htn, hgn, hsn⟩
       have H167 := hid (H130.out.next 6 rfl htn hgn)
       clear htn hgn hsn
       refine hK.out _ _ ?_ (fun hHeld2 => ?_)
       focus ((try dsimp only); (exact ⟨H167.out.cell 7 rfl 0 rfl, H167.out.cell 7 rfl 1 rfl, H167.out.cell 7 rfl 2 rfl, H167.out.cell 7 rfl 3 rfl⟩))
       clear hK K
       try simp only [Act.put, List.getElem_toArray, List.getElem_cons_zero, List.getElem_cons_succ, List.setIfInBounds_toArray, List.set_cons_zero, List.set_cons_succ]
       clear hHeld
       have hHeld := hHeld2
       clear hHeld2
       rcases (show x165 = 0 ∨ x165 = 1 by omega) with hx0 | hx0
       ·skip
        subst hx0
        refine wpAnyH_ready (rs := [3]) (by kernel_rfl) (by simp) (AllReadyH.cons (o := _) rfl (fun K hK => ?_) AllReadyH.nil)
        obtain ⟨D168, hD168⟩ : ∃ D, w166.heap.size = D := ⟨_, rfl⟩
        have H169 := hid (H167.out.alloc #[.int .i64 r0, .int .i64 r1, .int .i64 r2, .int .i64 r3, .int .i64 r128_0, .int .i64 r128_1, .int .i64 r128_2, .int .i64 r128_3] 38 hD168)
        go_simp
        refine hK.out _ _ ?_ (fun hHeld2 => ?_)
        focus ((try dsimp only); (exact ⟨H169.out.cell 8 rfl 0 rfl, H169.out.cell 8 rfl 1 rfl, H169.out.cell 8 rfl 2 rfl, H169.out.cell 8 rfl 3 rfl⟩))
        clear hK K hHeld
        try simp only [Act.put, List.getElem_toArray, List.getElem_cons_zero, List.getElem_cons_succ, List.setIfInBounds_toArray, List.set_cons_zero, List.set_cons_succ]
        clear hD168
        generalize (w166.alloc (.cells #[.int .i64 r0, .int .i64 r1, .int .i64 r2, .int .i64 r3, .int .i64 r128_0, .int .i64 r128_1, .int .i64 r128_2, .int .i64 r128_3] 38)) = k170 at *
        have hHeld := hHeld2
        clear hHeld2
        refine wpAnyH_take (i := 6) (oi := _) (v := ?_) rfl (by kernel_rfl) (by kernel_rfl) (by kernel_rfl) (fun _ _ _ h => h) (Or.inl ⟨by rfl, ?_⟩) (by assumption) ?_
        rotate_left
        focus (intro wS hSw; (try dsimp only at hSw); go_simp; (try with_reducible rfl))
        try simp only [Act.put, List.getElem_toArray, List.getElem_cons_zero, List.getElem_cons_succ, List.setIfInBounds_toArray, List.set_cons_zero, List.set_cons_succ]
        refine wpAnyH_ready (rs := [7]) (by kernel_rfl) (by simp) (AllReadyH.cons (o := _) rfl (fun K hK => ?_) AllReadyH.nil)
        have g171 := H169.out.cell 0 rfl 0 rfl
        have g172 := H169.out.cell 0 rfl 1 rfl
        have g173 := H169.out.cell 0 rfl 2 rfl
        have g174 := H169.out.cell 0 rfl 3 rfl
        go_simp
        refine hK.out _ _ ?_ (fun hHeld2 => ?_)
        focus ((try dsimp only); (try exact hHeld))
        clear hK K
        try simp only [Act.put, List.getElem_toArray, List.getElem_cons_zero, List.getElem_cons_succ, List.setIfInBounds_toArray, List.set_cons_zero, List.set_cons_succ]
        clear hHeld2 g171 g172 g173 g174
        refine wpAnyH_ready (rs := [8]) (by kernel_rfl) (by simp) (AllReadyH.cons (o := _) rfl (fun K hK => ?_) AllReadyH.nil)
        have z175 := H169.out.cell 1 rfl 0 rfl
        have z176 := H169.out.free 1 rfl 0
        have z177 := H169.out.cell 1 rfl 1 rfl
        have z178 := H169.out.free 1 rfl 1
        have z179 := H169.out.cell 1 rfl 2 rfl
        have z180 := H169.out.free 1 rfl 2
        have z181 := H169.out.cell 1 rfl 3 rfl
        have z182 := H169.out.free 1 rfl 3
        have H183 := hid (show St B W [.cells D168 #[.int .i64 r0, .int .i64 r1, .int .i64 r2, .int .i64 r3, .int .i64 r128_0, .int .i64 r128_1, .int .i64 r128_2, .int .i64 r128_3] 38, .cells D123 #[.int .i64 r0, .int .i64 r1, .int .i64 r2, .int .i64 r3] 38, .arr (32) 2 (.slice xta xTl.length xtc) (xTl.length) (tapV xtp), .arr (32) 2 (.slice yta yTl.length ytc) (yTl.length) (tapV ytp), .cells RE #[.int .i64 ep, .int .i64 ef] 43, .cells D12 #[.int .i64 pw9, .int .i64 ph9, .int .i64 pm9, .slice pv9a ps9.length pv9c] 40, .own (.slice pv9a ps9.length pv9c) ps9, .tape K3, .cells B #[.int .i64 r0, .int .i64 r1, .int .i64 r2, .int .i64 r3] 38] RS ((((k170.setCell ⟨D123, 0, none⟩ (.int .i64 r0)).setCell ⟨D123, 1, none⟩ (.int .i64 r1)).setCell ⟨D123, 2, none⟩ (.int .i64 r2)).setCell ⟨D123, 3, none⟩ (.int .i64 r3)) from (H169.out.set4 1 rfl (.int .i64 r0) (.int .i64 r1) (.int .i64 r2) (.int .i64 r3)))
        go_simp
        refine hK.out _ _ ?_ (fun hHeld2 => ?_)
        focus ((try dsimp only); (exact ⟨H183.out.cell 8 rfl 0 rfl, H183.out.cell 8 rfl 1 rfl, H183.out.cell 8 rfl 2 rfl, H183.out.cell 8 rfl 3 rfl⟩))
        clear hK K hHeld
        try simp only [Act.put, List.getElem_toArray, List.getElem_cons_zero, List.getElem_cons_succ, List.setIfInBounds_toArray, List.set_cons_zero, List.set_cons_succ]
        clear z175 z176 z177 z178 z179 z180 z181 z182
        generalize ((((k170.setCell ⟨D123, 0, none⟩ (.int .i64 r0)).setCell ⟨D123, 1, none⟩ (.int .i64 r1)).setCell ⟨D123, 2, none⟩ (.int .i64 r2)).setCell ⟨D123, 3, none⟩ (.int .i64 r3)) = k184 at *
        have hHeld := hHeld2
        clear hHeld2
        refine wpAnyH_done (by kernel_rfl) ?_ _
        try clear hHeld
        go_wp2_with fail
        go_meet
        exact ⟨_, _, _, _, H183.out.pick [1, 2, 3, 4, 5, 6, 7, 8] rfl (by decide)⟩
       ·skip
        subst hx0
        refine wpAnyH_ready (rs := [3]) (by kernel_rfl) (by simp) (AllReadyH.cons (o := _) rfl (fun K hK => ?_) AllReadyH.nil)
        obtain ⟨D185, hD185⟩ : ∃ D, w166.heap.size = D := ⟨_, rfl⟩
        have H186 := hid (H167.out.alloc #[.int .i64 r0, .int .i64 r1, .int .i64 r2, .int .i64 r3, .int .i64 r128_0, .int .i64 r128_1, .int .i64 r128_2, .int .i64 r128_3] 38 hD185)
        go_simp
        refine hK.out _ _ ?_ (fun hHeld2 => ?_)
        focus ((try dsimp only); (exact ⟨H186.out.cell 8 rfl 0 rfl, H186.out.cell 8 rfl 1 rfl, H186.out.cell 8 rfl 2 rfl, H186.out.cell 8 rfl 3 rfl⟩))
        clear hK K hHeld
        try simp only [Act.put, List.getElem_toArray, List.getElem_cons_zero, List.getElem_cons_succ, List.setIfInBounds_toArray, List.set_cons_zero, List.set_cons_succ]
        clear hD185
        generalize (w166.alloc (.cells #[.int .i64 r0, .int .i64 r1, .int .i64 r2, .int .i64 r3, .int .i64 r128_0, .int .i64 r128_1, .int .i64 r128_2, .int .i64 r128_3] 38)) = k187 at *
        have hHeld := hHeld2
        clear hHeld2
        refine wpAnyH_take (i := 6) (oi := _) (v := ?_) rfl (by kernel_rfl) (by kernel_rfl) (by kernel_rfl) (fun _ _ _ h => h) (Or.inl ⟨by rfl, ?_⟩) (by assumption) ?_
        rotate_left
        focus (intro wS hSw; (try dsimp only at hSw); go_simp; (try with_reducible rfl))
        try simp only [Act.put, List.getElem_toArray, List.getElem_cons_zero, List.getElem_cons_succ, List.setIfInBounds_toArray, List.set_cons_zero, List.set_cons_succ]
        refine wpAnyH_ready (rs := [7]) (by kernel_rfl) (by simp) (AllReadyH.cons (o := _) rfl (fun K hK => ?_) AllReadyH.nil)
        have g188 := H186.out.cell 0 rfl 4 rfl
        have g189 := H186.out.cell 0 rfl 5 rfl
        have g190 := H186.out.cell 0 rfl 6 rfl
        have g191 := H186.out.cell 0 rfl 7 rfl
        go_simp
        refine hK.out _ _ ?_ (fun hHeld2 => ?_)
        focus ((try dsimp only); (try exact hHeld))
        clear hK K
        try simp only [Act.put, List.getElem_toArray, List.getElem_cons_zero, List.getElem_cons_succ, List.setIfInBounds_toArray, List.set_cons_zero, List.set_cons_succ]
        clear hHeld2 g188 g189 g190 g191
        refine wpAnyH_ready (rs := [8]) (by kernel_rfl) (by simp) (AllReadyH.cons (o := _) rfl (fun K hK => ?_) AllReadyH.nil)
        have z192 := H186.out.cell 1 rfl 0 rfl
        have z193 := H186.out.free 1 rfl 0
        have z194 := H186.out.cell 1 rfl 1 rfl
        have z195 := H186.out.free 1 rfl 1
        have z196 := H186.out.cell 1 rfl 2 rfl
        have z197 := H186.out.free 1 rfl 2
        have z198 := H186.out.cell 1 rfl 3 rfl
        have z199 := H186.out.free 1 rfl 3
        have H200 := hid (show St B W [.cells D185 #[.int .i64 r0, .int .i64 r1, .int .i64 r2, .int .i64 r3, .int .i64 r128_0, .int .i64 r128_1, .int .i64 r128_2, .int .i64 r128_3] 38, .cells D123 #[.int .i64 r128_0, .int .i64 r128_1, .int .i64 r128_2, .int .i64 r128_3] 38, .arr (32) 2 (.slice xta xTl.length xtc) (xTl.length) (tapV xtp), .arr (32) 2 (.slice yta yTl.length ytc) (yTl.length) (tapV ytp), .cells RE #[.int .i64 ep, .int .i64 ef] 43, .cells D12 #[.int .i64 pw9, .int .i64 ph9, .int .i64 pm9, .slice pv9a ps9.length pv9c] 40, .own (.slice pv9a ps9.length pv9c) ps9, .tape K3, .cells B #[.int .i64 r0, .int .i64 r1, .int .i64 r2, .int .i64 r3] 38] RS ((((k187.setCell ⟨D123, 0, none⟩ (.int .i64 r128_0)).setCell ⟨D123, 1, none⟩ (.int .i64 r128_1)).setCell ⟨D123, 2, none⟩ (.int .i64 r128_2)).setCell ⟨D123, 3, none⟩ (.int .i64 r128_3)) from (H186.out.set4 1 rfl (.int .i64 r128_0) (.int .i64 r128_1) (.int .i64 r128_2) (.int .i64 r128_3)))
        go_simp
        refine hK.out _ _ ?_ (fun hHeld2 => ?_)
        focus ((try dsimp only); (exact ⟨H200.out.cell 8 rfl 0 rfl, H200.out.cell 8 rfl 1 rfl, H200.out.cell 8 rfl 2 rfl, H200.out.cell 8 rfl 3 rfl⟩))
        clear hK K hHeld
        try simp only [Act.put, List.getElem_toArray, List.getElem_cons_zero, List.getElem_cons_succ, List.setIfInBounds_toArray, List.set_cons_zero, List.set_cons_succ]
        clear z192 z193 z194 z195 z196 z197 z198 z199
        generalize ((((k187.setCell ⟨D123, 0, none⟩ (.int .i64 r128_0)).setCell ⟨D123, 1, none⟩ (.int .i64 r128_1)).setCell ⟨D123, 2, none⟩ (.int .i64 r128_2)).setCell ⟨D123, 3, none⟩ (.int .i64 r128_3)) = k201 at *
        have hHeld := hHeld2
        clear hHeld2
        refine wpAnyH_done (by kernel_rfl) ?_ _
        try clear hHeld
        go_wp2_with fail
        go_meet
        exact ⟨_, _, _, _, H200.out.pick [1, 2, 3, 4, 5, 6, 7, 8] rfl (by decide)⟩
     ·skip
      have hN2 : ((j : Int) == 2) = false := by simp; omega
      clear hN
      go_wp2_with fail
      go_meet
      exact ⟨_, _, _, _, H124.out.pick [0, 1, 2, 3, 4, 5, 6, 7] rfl (by decide)⟩
    case rest =>
     obtain ⟨y0, y1, y2, y3, hst⟩ := hcut
     obtain ⟨u202, rfl⟩ : ∃ u202 : World, u202 = wc := ⟨_, rfl⟩
     have H203 := hid hst
     clear hst
     go_wp2_with fail
     refine (nextB_any B K3 _ _ (by omega) (H203.out.tapeAt 6 rfl)).mono ?_
     rintro e w205 ⟨x204, rfl, x204a, x204b, htn, hgn, hsn⟩
     have H206 := hid (H203.out.next 6 rfl htn hgn)
     clear htn hgn hsn
     go_upto_if 54 with fail
     go_cut [] (fun wx => ∃ (xw xh xm : Int) (xa : Option Addr) (xc : Nat) (xl : List Int), St B W [.cells D12 #[.int .i64 xw, .int .i64 xh, .int .i64 xm, .slice xa xl.length xc] 40, .own (.slice xa xl.length xc) xl, .cells D123 #[.int .i64 y0, .int .i64 y1, .int .i64 y2, .int .i64 y3] 38, .arr (32) 2 (.slice xta xTl.length xtc) (xTl.length) (tapV xtp), .arr (32) 2 (.slice yta yTl.length ytc) (yTl.length) (tapV ytp), .cells RE #[.int .i64 ep, .int .i64 ef] 43, .tape K3, .cells B #[.int .i64 r0, .int .i64 r1, .int .i64 r2, .int .i64 r3] 38] RS wx)
     case first =>
      by_cases c207 : (x204 : Int) = 9
      ·obtain ⟨c207c, c207d⟩ : (x204 : Int) ≤ 9 ∧ (9 : Int) ≤ x204 := by omega
       have c207a : ((x204 : Int) == (9)) = true := by simpa using c207
       have c207b : ((x204 : Int) != (9)) = false := by simpa using c207
       have c207h := hid c207
       clear c207
       have z208 := H206.out.cell 4 rfl 0 rfl
       have z209 := H206.out.cell 4 rfl 1 rfl
       have z210 := H206.out.cell 4 rfl 2 rfl
       have z211 := H206.out.cell 4 rfl 3 rfl
       go_wp2_with fail
       clear z208 z209 z210 z211
       refine (spoil_any B K3 _ _ _ _ _ _ _ _ (H206.out.slc 5 rfl) (H206.out.farSlc 5 6 rfl rfl (by decide) rfl) HVps9.out (H206.out.tapeAt 6 rfl)).mono ?_
       rintro e w213 ⟨pw212, ph212, pm212, pv212, ps212, rfl, ho, ht, hg⟩
       have H214 := hid (H206.out.add (H206.out.next 6 rfl ht hg) ho)
       obtain ⟨pv212a, pv212c, rfl, _⟩ := ho.slc
       clear ho ht hg
       have z215 := H214.out.cell 5 rfl 0 rfl
       have z216 := H214.out.free 5 rfl 0
       have z217 := H214.out.cell 5 rfl 1 rfl
       have z218 := H214.out.free 5 rfl 1
       have z219 := H214.out.cell 5 rfl 2 rfl
       have z220 := H214.out.free 5 rfl 2
       have z221 := H214.out.cell 5 rfl 3 rfl
       have z222 := H214.out.free 5 rfl 3
       go_wp2_with fail
       clear z215 z216 z217 z218 z219 z220 z221 z222
       have H223 := hid (show St B W [.own (.slice pv212a ps212.length pv212c) ps212, .cells D123 #[.int .i64 y0, .int .i64 y1, .int .i64 y2, .int .i64 y3] 38, .arr (32) 2 (.slice xta xTl.length xtc) (xTl.length) (tapV xtp), .arr (32) 2 (.slice yta yTl.length ytc) (yTl.length) (tapV ytp), .cells RE #[.int .i64 ep, .int .i64 ef] 43, .cells D12 #[.int .i64 pw212, .int .i64 ph212, .int .i64 pm212, .slice pv212a ps212.length pv212c] 40, .own (.slice pv9a ps9.length pv9c) ps9, .tape K3, .cells B #[.int .i64 r0, .int .i64 r1, .int .i64 r2, .int .i64 r3] 38] RS ((((w213.setCell ⟨D12, 0, none⟩ (.int .i64 pw212)).setCell ⟨D12, 1, none⟩ (.int .i64 ph212)).setCell ⟨D12, 2, none⟩ (.int .i64 pm212)).setCell ⟨D12, 3, none⟩ (.slice pv212a ps212.length pv212c)) from (H214.out.set4 5 rfl (.int .i64 pw212) (.int .i64 ph212) (.int .i64 pm212) (.slice pv212a ps212.length pv212c)))
       go_meet
       exact ⟨_, _, _, _, _, _, H223.out.pick [5, 0, 1, 2, 3, 4, 7, 8] rfl (by decide)⟩
      ·have c207a : ((x204 : Int) == (9)) = false := by simpa using c207
       have c207b : ((x204 : Int) != (9)) = true := by simpa using c207
       have c207h := hid c207
       clear c207
       go_wp2_with fail
       go_meet
       exact ⟨_, _, _, _, _, _, H206.out.pick [4, 5, 0, 1, 2, 3, 6, 7] rfl (by decide)⟩
     case rest =>
      obtain ⟨xw, xh, xm, xa, xc, xl, hst⟩ := hcut
      obtain ⟨u224, rfl⟩ : ∃ u224 : World, u224 = wc := ⟨_, rfl⟩
      have H225 := hid hst
      clear hst
      have z226 := H225.out.cell 0 rfl 0 rfl
      have z227 := H225.out.cell 0 rfl 1 rfl
      have z228 := H225.out.cell 0 rfl 2 rfl
      have z229 := H225.out.cell 0 rfl 3 rfl
      have z230 := H225.out.cell 5 rfl 0 rfl
      have z231 := H225.out.cell 5 rfl 1 rfl
      have z232 := H225.out.cell 2 rfl 0 rfl
      have z233 := H225.out.cell 2 rfl 1 rfl
      have z234 := H225.out.cell 2 rfl 2 rfl
      have z235 := H225.out.cell 2 rfl 3 rfl
      go_wp2_with fail
      clear z226 z227 z228 z229 z230 z231 z232 z233 z234 z235
      refine (rztile_any _ _ _ _ _ _ xl _ _ _ _ _ xTl _ _ _ yTl _ _ _ _ _ _ _ _ (H225.out.slc 1 rfl) ((by have ht := H225.out.taps 3 rfl HQx.out; rw [HDx.out] at ht; exact ht)) ((by have ht := H225.out.taps 4 rfl HQy.out; rw [HDy.out] at ht; exact ht))).mono ?_
      rintro e w236 ⟨v237, rfl, ho, hb⟩
      obtain ⟨c239, hc239⟩ : ∃ xx', rzTC xw xh xm xl ep ef xTl yTl 8 8 65535 y0 y1 y2 y3 = xx' := ⟨_, rfl⟩
      rw [hc239] at ho ⊢
      have HNc239 := hid hc239
      clear hc239
      obtain ⟨l240, hl240⟩ : ∃ xx', rzL xw xh xl ep ef xTl yTl 8 8 65535 y0 y1 y2 y3 = xx' := ⟨_, rfl⟩
      rw [hl240] at ho
      have HNl240 := hid hl240
      clear hl240
      obtain ⟨l241, hl241⟩ : ∃ xx', tL c239 l240 = xx' := ⟨_, rfl⟩
      rw [hl241] at ho
      have HNl241 := hid hl241
      clear hl241
      obtain ⟨t242, ht242⟩ : ∃ xx', tI c239 (y2 - y0) = xx' := ⟨_, rfl⟩
      rw [ht242]
      have HNt242 := hid ht242
      clear ht242
      obtain ⟨t243, ht243⟩ : ∃ xx', tI c239 (y3 - y1) = xx' := ⟨_, rfl⟩
      rw [ht243]
      have HNt243 := hid ht243
      clear ht243
      obtain ⟨t244, ht244⟩ : ∃ xx', tI c239 65535 = xx' := ⟨_, rfl⟩
      rw [ht244]
      have HNt244 := hid ht244
      clear ht244
      have H238 := hid (H225.out.grow hb ho)
      obtain ⟨v237a, v237c, rfl, _⟩ := ho.slc
      clear ho hb
      obtain ⟨D245, hD245⟩ : ∃ D, w236.heap.size = D := ⟨_, rfl⟩
      go_upto_region 13 with fail
      have H246 := hid (show St B W [.cells D245 #[.int .i64 t242, .int .i64 t243, .int .i64 t244, .slice v237a l241.length v237c] 40, .own (.slice v237a l241.length v237c) l241, .cells D12 #[.int .i64 xw, .int .i64 xh, .int .i64 xm, .slice xa xl.length xc] 40, .own (.slice xa xl.length xc) xl, .cells D123 #[.int .i64 y0, .int .i64 y1, .int .i64 y2, .int .i64 y3] 38, .arr (32) 2 (.slice xta xTl.length xtc) (xTl.length) (tapV xtp), .arr (32) 2 (.slice yta yTl.length ytc) (yTl.length) (tapV ytp), .cells RE #[.int .i64 ep, .int .i64 ef] 43, .tape K3, .cells B #[.int .i64 r0, .int .i64 r1, .int .i64 r2, .int .i64 r3] 38] RS (w236.alloc (.cells #[.int .i64 t242, .int .i64 t243, .int .i64 t244, .slice v237a l241.length v237c] 40)) from (H238.out.alloc #[.int .i64 t242, .int .i64 t243, .int .i64 t244, .slice v237a l241.length v237c] 40 hD245))
      first | refine gen_code H246.out ?_ | refine gen_list H246.out ?_ | refine gen_calls H246.out ?_
      intro w247 hG
      clear H246
      have H246 := hid hG
      clear hG
      clear hD245
      have z248 := H246.out.cell 2 rfl 0 rfl
      have z249 := H246.out.cell 2 rfl 1 rfl
      have z250 := H246.out.cell 2 rfl 2 rfl
      have z251 := H246.out.cell 2 rfl 3 rfl
      have z252 := H246.out.cell 7 rfl 0 rfl
      have z253 := H246.out.cell 7 rfl 1 rfl
      have z254 := H246.out.cell 4 rfl 0 rfl
      have z255 := H246.out.cell 4 rfl 1 rfl
      have z256 := H246.out.cell 4 rfl 2 rfl
      have z257 := H246.out.cell 4 rfl 3 rfl
      go_wp2_with fail
      clear z248 z249 z250 z251 z252 z253 z254 z255 z256 z257
      refine (rrztile_any _ _ _ _ _ _ xl _ _ _ _ _ xTl _ _ _ yTl _ _ _ _ _ _ _ _ (H246.out.slc 3 rfl) ((by have ht := H246.out.taps 5 rfl HQx.out; rw [HDx.out] at ht; exact ht)) ((by have ht := H246.out.taps 6 rfl HQy.out; rw [HDy.out] at ht; exact ht))).mono ?_
      rintro e w258 ⟨v259, rfl, ho, hb⟩
      rw [HNc239.out] at ho ⊢
      rw [HNl240.out] at ho
      rw [HNl241.out] at ho
      rw [HNt242.out]
      rw [HNt243.out]
      rw [HNt244.out]
      have H260 := hid (H246.out.grow hb ho)
      obtain ⟨v259a, v259c, rfl, _⟩ := ho.slc
      clear ho hb
      obtain ⟨D261, hD261⟩ : ∃ D, w258.heap.size = D := ⟨_, rfl⟩
      go_upto_region 14 with fail
      have H262 := hid (show St B W [.cells D261 #[.int .i64 t242, .int .i64 t243, .int .i64 t244, .slice v259a l241.length v259c] 40, .own (.slice v259a l241.length v259c) l241, .cells D245 #[.int .i64 t242, .int .i64 t243, .int .i64 t244, .slice v237a l241.length v237c] 40, .own (.slice v237a l241.length v237c) l241, .cells D12 #[.int .i64 xw, .int .i64 xh, .int .i64 xm, .slice xa xl.length xc] 40, .own (.slice xa xl.length xc) xl, .cells D123 #[.int .i64 y0, .int .i64 y1, .int .i64 y2, .int .i64 y3] 38, .arr (32) 2 (.slice xta xTl.length xtc) (xTl.length) (tapV xtp), .arr (32) 2 (.slice yta yTl.length ytc) (yTl.length) (tapV ytp), .cells RE #[.int .i64 ep, .int .i64 ef] 43, .tape K3, .cells B #[.int .i64 r0, .int .i64 r1, .int .i64 r2, .int .i64 r3] 38] RS (w258.alloc (.cells #[.int .i64 t242, .int .i64 t243, .int .i64 t244, .slice v259a l241.length v259c] 40)) from (H260.out.alloc #[.int .i64 t242, .int .i64 t243, .int .i64 t244, .slice v259a l241.length v259c] 40 hD261))
      first | refine gen_code H262.out ?_ | refine gen_list H262.out ?_ | refine gen_calls H262.out ?_
      intro w263 hG
      clear H262
      have H262 := hid hG
      clear hG
      clear hD261
      have z264 := H262.out.cell 2 rfl 0 rfl
      have z265 := H262.out.cell 2 rfl 1 rfl
      have z266 := H262.out.cell 2 rfl 2 rfl
      have z267 := H262.out.cell 2 rfl 3 rfl
      have z268 := H262.out.cell 0 rfl 0 rfl
      have z269 := H262.out.cell 0 rfl 1 rfl
      have z270 := H262.out.cell 0 rfl 2 rfl
      have z271 := H262.out.cell 0 rfl 3 rfl
      go_wp2_with fail
      clear z264 z265 z266 z267 z268 z269 z270 z271
      refine (qequal_any _ _ _ _ _ _ l241 _ _ _ _ _ _ l241 _ (H262.out.slc 3 rfl) (H262.out.slc 1 rfl)).mono ?_
      rintro e w272 ⟨rfl, hb⟩
      have H273 := hid (H262.out.call hb)
      clear hb
      rw [show pEq t242 t243 t244 l241 t242 t243 t244 l241 = true from by simp [pEq]]
      go_wp2_with fail
      go_roundw
      case rel => exact ⟨j + 1, by omega, by go_num, (H273.out.pick [10, 11] rfl (by decide)).noRo⟩
      case measure => first | (simp [intOf]; omega) | (simp [intOf]; done)
  ·skip
   go_wp2_with fail
   refine (sane11 _).mono ?_
   rintro e w274 ⟨rfl, hb⟩
   have H275 := hid (H7.out.call hb)
   clear hb
   go_wp2_with fail
   go_ret
   exact ⟨rfl, by first | exact H275.out.below | exact H275.out.below'⟩
end Go.Proofs.Ytaefdkinpaonkaa
