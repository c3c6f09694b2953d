/-
  The walk of SeparableTiles: the tiles of separable filters are those of the reference.
-/
import Derived.Test.YtfdkgjphnlijiaaSane10
import Derived.Test.YtfdkgjphnlijiaaSpQTile
import Derived.Test.YtfdkgjphnlijiaaWeights
import Derived.Test.YtfdkgjphnlijiaaKG
import Derived.Test.YtfdkgjphnlijiaaKD
import Derived.Test.YtfdkgjphnlijiaaKX
import Derived.Test.YtfdkgjphnlijiaaTake
namespace Go.Proofs.Ytfdkgjphnlijiaa
open Go.RowKit
attribute [local go_sem ↓] Go.wp_at_zero Go.wp_at_succ
set_option linter.unusedVariables false
set_option linter.unusedSimpArgs false

set_option maxRecDepth 100000 in
set_option maxHeartbeats 12800000 in
theorem walk_SeparableTiles (a : Option Addr) (n c : Nat) (zs : List Int) (r0 r1 r2 r3 : Int) (W : World) (hr : RowIn .i64 W a n c zs) (_ : I64 r0) (_ : I64 r1) (_ : I64 r2) (_ : I64 r3) :
  Calls Try.prog 4 #[.slice a n c, .agg #[.int .i64 r0, .int .i64 r1, .int .i64 r2, .int .i64 r3]] W fun e w' => e = .returned (.bool true) ∧ Below W.heap.size W w' := by
 obtain ⟨B, hB⟩ : ∃ B, W.heap.size = B := ⟨_, rfl⟩
 have HI0 := hid (St.init hB)
 have HN := hid (nearRow hr hB)
 have HR := hid hr
 clear hr
 go_enter Try.func4, Try.ntmps4
 go_upto_region 1 with fail
 have H1 := hid (show St B W [.cells B #[.int .i64 r0, .int .i64 r1, .int .i64 r2, .int .i64 r3] 33] [] (W.alloc (.cells #[.int .i64 r0, .int .i64 r1, .int .i64 r2, .int .i64 r3] 33)) from (HI0.out.alloc #[.int .i64 r0, .int .i64 r1, .int .i64 r2, .int .i64 r3] 33 hB))
 first | refine gen_code H1.out ?_ | refine gen_list H1.out ?_ | refine gen_calls H1.out ?_
 intro w2 hG
 clear H1
 have H1 := hid hG
 clear hG
 go_wp2_with fail
 obtain ⟨K3, hK3⟩ : ∃ D, w2.heap.size = D := ⟨_, rfl⟩
 refine (newB_any B _ _ _ _ _ HR.out.len (H1.out.oldRow HR.out.row) HN.out H1.out.size).mono ?_
 rintro e w4 ⟨rfl, ht, hb, hs⟩
 rw [hK3] at ht ⊢
 have H5 := hid (H1.out.newTape ht hb hK3)
 clear ht hb hs hK3
 go_wp2_with fail
 go_loopw [6] (fun i wr => ∃ j : Nat, j ≤ 3 ∧ i = .int .i64 j ∧ St B W [.tape K3, .cells B #[.int .i64 r0, .int .i64 r1, .int .i64 r2, .int .i64 r3] 33] [] wr) (fun i _ => 3 - (intOf i).toNat)
 case atStart => exact ⟨0, by omega, rfl, H5.out.pick [0, 1] rfl (by decide)⟩
 case round =>
  obtain ⟨j, hj, rfl, hst⟩ := hrel
  obtain ⟨u6, rfl⟩ : ∃ u6 : World, u6 = wr := ⟨_, rfl⟩
  have H7 := hid hst
  clear hst
  by_cases c8 : (j : Int) < 3
  ·skip
   go_wp2_with fail
   refine (plane_any B K3 _ (H7.out.tapeAt 0 rfl)).mono ?_
   rintro e w10 ⟨pw9, ph9, pw91, pw92, ph91, ph92, pm9, pv9, ps9, rfl, hv, hm, ho, ht, hg⟩
   have H11 := hid (H7.out.add (H7.out.next 0 rfl ht hg) ho)
   have HVps9 := hid hv
   have HMps9 := hid hm
   obtain ⟨pv9a, pv9c, rfl, _⟩ := ho.slc
   clear hv hm ho ht hg
   obtain ⟨D12, hD12⟩ : ∃ D, w10.heap.size = D := ⟨_, rfl⟩
   go_upto_region 6 with fail
   have H13 := hid (show St B W [.cells D12 #[.int .i64 pw9, .int .i64 ph9, .int .i64 pm9, .slice pv9a ps9.length pv9c] 35, .own (.slice pv9a ps9.length pv9c) ps9, .tape K3, .cells B #[.int .i64 r0, .int .i64 r1, .int .i64 r2, .int .i64 r3] 33] [] (w10.alloc (.cells #[.int .i64 pw9, .int .i64 ph9, .int .i64 pm9, .slice pv9a ps9.length pv9c] 35)) from (H11.out.alloc #[.int .i64 pw9, .int .i64 ph9, .int .i64 pm9, .slice pv9a ps9.length pv9c] 35 hD12))
   first | refine gen_code H13.out ?_ | refine gen_list H13.out ?_ | refine gen_calls H13.out ?_
   intro w14 hG
   clear H13
   have H13 := hid hG
   clear hG
   clear hD12
   go_cut [8, 9, 10, 11, 12, 13] (fun s s1 s2 s3 s4 s5 wx => ∃ (RE RQ : Nat) (wla : Option Addr) (wlc : Nat) (wls : List Int) (vla : Option Addr) (vlc : Nat) (vls : List Int) (ep ef sh sv q0 q1 q2 q3 : Int), s = .slice wla wls.length wlc ∧ s1 = .slice vla vls.length vlc ∧ s2 = .pointer (some ⟨RE, 0, none⟩) ∧ s3 = .int .i64 sh ∧ s4 = .int .i64 sv ∧ s5 = .pointer (some ⟨RQ, 0, none⟩) ∧ St B W [.own (.slice wla wls.length wlc) wls, .own (.slice vla vls.length vlc) vls, .cells RE #[.int .i64 ep, .int .i64 ef] 38, .cells RQ #[.int .i64 q0, .int .i64 q1, .int .i64 q2, .int .i64 q3] 33, .cells D12 #[.int .i64 pw9, .int .i64 ph9, .int .i64 pm9, .slice pv9a ps9.length pv9c] 35, .own (.slice pv9a ps9.length pv9c) ps9, .tape K3, .cells B #[.int .i64 r0, .int .i64 r1, .int .i64 r2, .int .i64 r3] 33] [] wx)
   case first =>
    go_upto_region 6 with fail
    have H15 := hid H13.out.drew
    refine wp_region_held_drew (S := (fun w' => w'.cell? ⟨D12, 0, none⟩ = some (.int .i64 pw9) ∧ w'.cell? ⟨D12, 1, none⟩ = some (.int .i64 ph9) ∧ w'.cell? ⟨D12, 2, none⟩ = some (.int .i64 pm9) ∧ w'.cell? ⟨D12, 3, none⟩ = some (.slice pv9a ps9.length pv9c))) (by kernel_rfl) ⟨H15.out.cell 0 rfl 0 rfl, H15.out.cell 0 rfl 1 rfl, H15.out.cell 0 rfl 2 rfl, H15.out.cell 0 rfl 3 rfl⟩ (fun hHeld => ?_)
    generalize w14.drew = k16 at *
    obtain ⟨WC, hWC⟩ : ∃ x, x = k16 := ⟨_, rfl⟩
    subst hWC
    have HC2 := hid (show St B W [.cells B #[.int .i64 r0, .int .i64 r1, .int .i64 r2, .int .i64 r3] 33, .cells D12 #[.int .i64 pw9, .int .i64 ph9, .int .i64 pm9, .slice pv9a ps9.length pv9c] 35, .own (.slice pv9a ps9.length pv9c) ps9, .tape K3] [] WC from H15.out.pick [3, 0, 1, 2] rfl (by decide))
    clear H15
    have HC := HC2
    clear HC2
    refine tkA 0 ?_
    try simp only [Act.put, p1, p2, p3, p4, p5, p6]
    refine tkA 1 ?_
    try simp only [Act.put, p1, p2, p3, p4, p5, p6]
    refine tkA 5 ?_
    try simp only [Act.put, p1, p2, p3, p4, p5, p6]
    refine tkA 6 ?_
    try simp only [Act.put, p1, p2, p3, p4, p5, p6]
    refine tkA 10 ?_
    try simp only [Act.put, p1, p2, p3, p4, p5, p6]
    refine tkA 11 ?_
    try simp only [Act.put, p1, p2, p3, p4, p5, p6]
    refine tkA 12 ?_
    try simp only [Act.put, p1, p2, p3, p4, p5, p6]
    refine tkA 14 ?_
    try simp only [Act.put, p1, p2, p3, p4, p5, p6]
    refine tkA 16 ?_
    try simp only [Act.put, p1, p2, p3, p4, p5, p6]
    refine tkA 18 ?_
    try simp only [Act.put, p1, p2, p3, p4, p5, p6]
    refine tkA 19 ?_
    try simp only [Act.put, p1, p2, p3, p4, p5, p6]
    refine tkA 20 ?_
    try simp only [Act.put, p1, p2, p3, p4, p5, p6]
    refine tkA 21 ?_
    try simp only [Act.put, p1, p2, p3, p4, p5, p6]
    refine tkA 22 ?_
    try simp only [Act.put, p1, p2, p3, p4, p5, p6]
    all_goals
     first
     |skip
      refine wpAnyH_ready (rs := [2, 24, 25]) (by kernel_rfl) (by simp) (AllReadyH.cons (o := _) rfl (fun K hK => ?_) (AllReadyH.cons (o := _) rfl (fun K hK => ?_) (AllReadyH.cons (o := _) rfl (fun K hK => ?_) AllReadyH.nil)))
      focus
       go_simp
       go_at_call 10
       refine (nextB_any B K3 _ _ (by omega) (HC.out.tapeAt 3 rfl)).mono ?_
       rintro e w3001 ⟨x3000, rfl, x3000a, x3000b, htn, hgn, hsn⟩
       have H3002 := hid (HC.out.next 3 rfl htn hgn)
       clear htn hgn hsn
       have wnx3000 : IntKind.i64.wrap (1 + x3000) = 1 + x3000 := IntWalk.i64_in _ (by omega)
       refine hK.out _ _ ?_ (fun hHeld2 => ?_)
       focus ((try dsimp only); (exact ⟨H3002.out.cell 1 rfl 0 rfl, H3002.out.cell 1 rfl 1 rfl, H3002.out.cell 1 rfl 2 rfl, H3002.out.cell 1 rfl 3 rfl⟩))
       clear hK K
       try simp only [Act.put, p1, p2, p3, p4, p5, p6]
       clear hHeld
       have hHeld := hHeld2
       clear hHeld2
       have mk2 := hid True.intro
       refine tkA 3 ?_
       try simp only [Act.put, p1, p2, p3, p4, p5, p6]
       obtain ⟨WC, hWC⟩ : ∃ x, x = w3001 := ⟨_, rfl⟩
       subst hWC
       have HC2 := hid (show St B W [.cells B #[.int .i64 r0, .int .i64 r1, .int .i64 r2, .int .i64 r3] 33, .cells D12 #[.int .i64 pw9, .int .i64 ph9, .int .i64 pm9, .slice pv9a ps9.length pv9c] 35, .own (.slice pv9a ps9.length pv9c) ps9, .tape K3] [] WC from H3002.out)
       clear H3002
       have HC := HC2
       clear HC2
      rotate_left
      focus
       obtain ⟨D25000, hD25000⟩ : ∃ D, WC.heap.size = D := ⟨_, rfl⟩
       have H25001 := hid (HC.out.alloc #[.int .i64 0, .int .i64 0] 38 hD25000)
       go_simp
       refine hK.out _ _ ?_ (fun hHeld2 => ?_)
       focus ((try dsimp only); (exact ⟨H25001.out.cell 2 rfl 0 rfl, H25001.out.cell 2 rfl 1 rfl, H25001.out.cell 2 rfl 2 rfl, H25001.out.cell 2 rfl 3 rfl⟩))
       clear hK K hHeld
       try simp only [Act.put, p1, p2, p3, p4, p5, p6]
       clear hD25000
       generalize (WC.alloc (.cells #[.int .i64 0, .int .i64 0] 38)) = k25002 at *
       have hHeld := hHeld2
       clear hHeld2
       have mk24 := hid True.intro
       obtain ⟨WC, hWC⟩ : ∃ x, x = k25002 := ⟨_, rfl⟩
       subst hWC
       have HC2 := hid (show St B W [.cells B #[.int .i64 r0, .int .i64 r1, .int .i64 r2, .int .i64 r3] 33, .cells D12 #[.int .i64 pw9, .int .i64 ph9, .int .i64 pm9, .slice pv9a ps9.length pv9c] 35, .cells D25000 #[.int .i64 0, .int .i64 0] 38, .own (.slice pv9a ps9.length pv9c) ps9, .tape K3] [] WC from H25001.out.pick [1, 2, 0, 3, 4] rfl (by decide))
       clear H25001
       have HC := HC2
       clear HC2
      rotate_left
      focus
       obtain ⟨D26000, hD26000⟩ : ∃ D, WC.heap.size = D := ⟨_, rfl⟩
       have H26001 := hid (HC.out.alloc #[.int .i64 0, .int .i64 0, .int .i64 0, .int .i64 0] 33 hD26000)
       go_simp
       refine hK.out _ _ ?_ (fun hHeld2 => ?_)
       focus ((try dsimp only); (exact ⟨H26001.out.cell 2 rfl 0 rfl, H26001.out.cell 2 rfl 1 rfl, H26001.out.cell 2 rfl 2 rfl, H26001.out.cell 2 rfl 3 rfl⟩))
       clear hK K hHeld
       try simp only [Act.put, p1, p2, p3, p4, p5, p6]
       clear hD26000
       generalize (WC.alloc (.cells #[.int .i64 0, .int .i64 0, .int .i64 0, .int .i64 0] 33)) = k26002 at *
       have hHeld := hHeld2
       clear hHeld2
       have mk25 := hid True.intro
       obtain ⟨WC, hWC⟩ : ∃ x, x = k26002 := ⟨_, rfl⟩
       subst hWC
       have HC2 := hid (show St B W [.cells B #[.int .i64 r0, .int .i64 r1, .int .i64 r2, .int .i64 r3] 33, .cells D12 #[.int .i64 pw9, .int .i64 ph9, .int .i64 pm9, .slice pv9a ps9.length pv9c] 35, .cells D26000 #[.int .i64 0, .int .i64 0, .int .i64 0, .int .i64 0] 33, .own (.slice pv9a ps9.length pv9c) ps9, .tape K3] [] WC from H26001.out.pick [1, 2, 0, 3, 4] rfl (by decide))
       clear H26001
       have HC := HC2
       clear HC2
      rotate_left
    all_goals
     first
     |skip
      have hmk := mk2
      fail_if_success (have hmk := mk24)
      fail_if_success (have hmk := mk25)
      refine wpAnyH_ready (rs := [4, 24, 25]) (by kernel_rfl) (by simp) (AllReadyH.cons (o := _) rfl (fun K hK => ?_) (AllReadyH.cons (o := _) rfl (fun K hK => ?_) (AllReadyH.cons (o := _) rfl (fun K hK => ?_) AllReadyH.nil)))
      focus
       go_simp
       go_at_call 9
       refine (weights_any B K3 _ _ (by omega) (HC.out.tapeAt 3 rfl)).mono ?_
       rintro e w5000 ⟨wv5001, wl5002, rfl, hlen, hin, ho, ht, hg⟩
       have H5003 := hid (HC.out.add (HC.out.next 3 rfl ht hg) ho)
       have HWLwl5002 := hid hlen
       have HWBwl5002 := hid hin
       obtain ⟨wv5001a, wv5001c, rfl, -⟩ := ho.slc
       clear hlen hin ho ht hg
       refine hK.out _ _ ?_ (fun hHeld2 => ?_)
       focus ((try dsimp only); (exact ⟨H5003.out.cell 2 rfl 0 rfl, H5003.out.cell 2 rfl 1 rfl, H5003.out.cell 2 rfl 2 rfl, H5003.out.cell 2 rfl 3 rfl⟩))
       clear hK K
       try simp only [Act.put, p1, p2, p3, p4, p5, p6]
       clear hHeld
       have hHeld := hHeld2
       clear hHeld2
       have mk4 := hid True.intro
       obtain ⟨WC, hWC⟩ : ∃ x, x = w5000 := ⟨_, rfl⟩
       subst hWC
       have HC2 := hid (show St B W [.cells B #[.int .i64 r0, .int .i64 r1, .int .i64 r2, .int .i64 r3] 33, .cells D12 #[.int .i64 pw9, .int .i64 ph9, .int .i64 pm9, .slice pv9a ps9.length pv9c] 35, .own (.slice pv9a ps9.length pv9c) ps9, .own (.slice wv5001a wl5002.length wv5001c) wl5002, .tape K3] [] WC from H5003.out.pick [1, 2, 3, 0, 4] rfl (by decide))
       clear H5003
       have HC := HC2
       clear HC2
      rotate_left
      focus
       obtain ⟨D25000, hD25000⟩ : ∃ D, WC.heap.size = D := ⟨_, rfl⟩
       have H25001 := hid (HC.out.alloc #[.int .i64 0, .int .i64 0] 38 hD25000)
       go_simp
       refine hK.out _ _ ?_ (fun hHeld2 => ?_)
       focus ((try dsimp only); (exact ⟨H25001.out.cell 2 rfl 0 rfl, H25001.out.cell 2 rfl 1 rfl, H25001.out.cell 2 rfl 2 rfl, H25001.out.cell 2 rfl 3 rfl⟩))
       clear hK K hHeld
       try simp only [Act.put, p1, p2, p3, p4, p5, p6]
       clear hD25000
       generalize (WC.alloc (.cells #[.int .i64 0, .int .i64 0] 38)) = k25002 at *
       have hHeld := hHeld2
       clear hHeld2
       have mk24 := hid True.intro
       obtain ⟨WC, hWC⟩ : ∃ x, x = k25002 := ⟨_, rfl⟩
       subst hWC
       have HC2 := hid (show St B W [.cells B #[.int .i64 r0, .int .i64 r1, .int .i64 r2, .int .i64 r3] 33, .cells D12 #[.int .i64 pw9, .int .i64 ph9, .int .i64 pm9, .slice pv9a ps9.length pv9c] 35, .cells D25000 #[.int .i64 0, .int .i64 0] 38, .own (.slice pv9a ps9.length pv9c) ps9, .tape K3] [] WC from H25001.out.pick [1, 2, 0, 3, 4] rfl (by decide))
       clear H25001
       have HC := HC2
       clear HC2
      rotate_left
      focus
       obtain ⟨D26000, hD26000⟩ : ∃ D, WC.heap.size = D := ⟨_, rfl⟩
       have H26001 := hid (HC.out.alloc #[.int .i64 0, .int .i64 0, .int .i64 0, .int .i64 0] 33 hD26000)
       go_simp
       refine hK.out _ _ ?_ (fun hHeld2 => ?_)
       focus ((try dsimp only); (exact ⟨H26001.out.cell 2 rfl 0 rfl, H26001.out.cell 2 rfl 1 rfl, H26001.out.cell 2 rfl 2 rfl, H26001.out.cell 2 rfl 3 rfl⟩))
       clear hK K hHeld
       try simp only [Act.put, p1, p2, p3, p4, p5, p6]
       clear hD26000
       generalize (WC.alloc (.cells #[.int .i64 0, .int .i64 0, .int .i64 0, .int .i64 0] 33)) = k26002 at *
       have hHeld := hHeld2
       clear hHeld2
       have mk25 := hid True.intro
       obtain ⟨WC, hWC⟩ : ∃ x, x = k26002 := ⟨_, rfl⟩
       subst hWC
       have HC2 := hid (show St B W [.cells B #[.int .i64 r0, .int .i64 r1, .int .i64 r2, .int .i64 r3] 33, .cells D12 #[.int .i64 pw9, .int .i64 ph9, .int .i64 pm9, .slice pv9a ps9.length pv9c] 35, .cells D26000 #[.int .i64 0, .int .i64 0, .int .i64 0, .int .i64 0] 33, .own (.slice pv9a ps9.length pv9c) ps9, .tape K3] [] WC from H26001.out.pick [1, 2, 0, 3, 4] rfl (by decide))
       clear H26001
       have HC := HC2
       clear HC2
      rotate_left
     |skip
      have hmk := mk24
      fail_if_success (have hmk := mk2)
      fail_if_success (have hmk := mk25)
      refine wpAnyH_ready (rs := [2, 25]) (by kernel_rfl) (by simp) (AllReadyH.cons (o := _) rfl (fun K hK => ?_) (AllReadyH.cons (o := _) rfl (fun K hK => ?_) AllReadyH.nil))
      focus
       go_simp
       go_at_call 10
       refine (nextB_any B K3 _ _ (by omega) (HC.out.tapeAt 4 rfl)).mono ?_
       rintro e w3001 ⟨x3000, rfl, x3000a, x3000b, htn, hgn, hsn⟩
       have H3002 := hid (HC.out.next 4 rfl htn hgn)
       clear htn hgn hsn
       have wnx3000 : IntKind.i64.wrap (1 + x3000) = 1 + x3000 := IntWalk.i64_in _ (by omega)
       refine hK.out _ _ ?_ (fun hHeld2 => ?_)
       focus ((try dsimp only); (exact ⟨H3002.out.cell 1 rfl 0 rfl, H3002.out.cell 1 rfl 1 rfl, H3002.out.cell 1 rfl 2 rfl, H3002.out.cell 1 rfl 3 rfl⟩))
       clear hK K
       try simp only [Act.put, p1, p2, p3, p4, p5, p6]
       clear hHeld
       have hHeld := hHeld2
       clear hHeld2
       have mk2 := hid True.intro
       refine tkA 3 ?_
       try simp only [Act.put, p1, p2, p3, p4, p5, p6]
       obtain ⟨WC, hWC⟩ : ∃ x, x = w3001 := ⟨_, rfl⟩
       subst hWC
       have HC2 := hid (show St B W [.cells B #[.int .i64 r0, .int .i64 r1, .int .i64 r2, .int .i64 r3] 33, .cells D12 #[.int .i64 pw9, .int .i64 ph9, .int .i64 pm9, .slice pv9a ps9.length pv9c] 35, .cells D25000 #[.int .i64 0, .int .i64 0] 38, .own (.slice pv9a ps9.length pv9c) ps9, .tape K3] [] WC from H3002.out)
       clear H3002
       have HC := HC2
       clear HC2
      rotate_left
      focus
       obtain ⟨D26000, hD26000⟩ : ∃ D, WC.heap.size = D := ⟨_, rfl⟩
       have H26001 := hid (HC.out.alloc #[.int .i64 0, .int .i64 0, .int .i64 0, .int .i64 0] 33 hD26000)
       go_simp
       refine hK.out _ _ ?_ (fun hHeld2 => ?_)
       focus ((try dsimp only); (exact ⟨H26001.out.cell 2 rfl 0 rfl, H26001.out.cell 2 rfl 1 rfl, H26001.out.cell 2 rfl 2 rfl, H26001.out.cell 2 rfl 3 rfl⟩))
       clear hK K hHeld
       try simp only [Act.put, p1, p2, p3, p4, p5, p6]
       clear hD26000
       generalize (WC.alloc (.cells #[.int .i64 0, .int .i64 0, .int .i64 0, .int .i64 0] 33)) = k26002 at *
       have hHeld := hHeld2
       clear hHeld2
       have mk25 := hid True.intro
       obtain ⟨WC, hWC⟩ : ∃ x, x = k26002 := ⟨_, rfl⟩
       subst hWC
       have HC2 := hid (show St B W [.cells B #[.int .i64 r0, .int .i64 r1, .int .i64 r2, .int .i64 r3] 33, .cells D12 #[.int .i64 pw9, .int .i64 ph9, .int .i64 pm9, .slice pv9a ps9.length pv9c] 35, .cells D25000 #[.int .i64 0, .int .i64 0] 38, .cells D26000 #[.int .i64 0, .int .i64 0, .int .i64 0, .int .i64 0] 33, .own (.slice pv9a ps9.length pv9c) ps9, .tape K3] [] WC from H26001.out.pick [1, 2, 3, 0, 4, 5] rfl (by decide))
       clear H26001
       have HC := HC2
       clear HC2
      rotate_left
     |skip
      have hmk := mk25
      fail_if_success (have hmk := mk2)
      fail_if_success (have hmk := mk24)
      refine wpAnyH_ready (rs := [2, 24]) (by kernel_rfl) (by simp) (AllReadyH.cons (o := _) rfl (fun K hK => ?_) (AllReadyH.cons (o := _) rfl (fun K hK => ?_) AllReadyH.nil))
      focus
       go_simp
       go_at_call 10
       refine (nextB_any B K3 _ _ (by omega) (HC.out.tapeAt 4 rfl)).mono ?_
       rintro e w3001 ⟨x3000, rfl, x3000a, x3000b, htn, hgn, hsn⟩
       have H3002 := hid (HC.out.next 4 rfl htn hgn)
       clear htn hgn hsn
       have wnx3000 : IntKind.i64.wrap (1 + x3000) = 1 + x3000 := IntWalk.i64_in _ (by omega)
       refine hK.out _ _ ?_ (fun hHeld2 => ?_)
       focus ((try dsimp only); (exact ⟨H3002.out.cell 1 rfl 0 rfl, H3002.out.cell 1 rfl 1 rfl, H3002.out.cell 1 rfl 2 rfl, H3002.out.cell 1 rfl 3 rfl⟩))
       clear hK K
       try simp only [Act.put, p1, p2, p3, p4, p5, p6]
       clear hHeld
       have hHeld := hHeld2
       clear hHeld2
       have mk2 := hid True.intro
       refine tkA 3 ?_
       try simp only [Act.put, p1, p2, p3, p4, p5, p6]
       obtain ⟨WC, hWC⟩ : ∃ x, x = w3001 := ⟨_, rfl⟩
       subst hWC
       have HC2 := hid (show St B W [.cells B #[.int .i64 r0, .int .i64 r1, .int .i64 r2, .int .i64 r3] 33, .cells D12 #[.int .i64 pw9, .int .i64 ph9, .int .i64 pm9, .slice pv9a ps9.length pv9c] 35, .cells D26000 #[.int .i64 0, .int .i64 0, .int .i64 0, .int .i64 0] 33, .own (.slice pv9a ps9.length pv9c) ps9, .tape K3] [] WC from H3002.out)
       clear H3002
       have HC := HC2
       clear HC2
      rotate_left
      focus
       obtain ⟨D25000, hD25000⟩ : ∃ D, WC.heap.size = D := ⟨_, rfl⟩
       have H25001 := hid (HC.out.alloc #[.int .i64 0, .int .i64 0] 38 hD25000)
       go_simp
       refine hK.out _ _ ?_ (fun hHeld2 => ?_)
       focus ((try dsimp only); (exact ⟨H25001.out.cell 2 rfl 0 rfl, H25001.out.cell 2 rfl 1 rfl, H25001.out.cell 2 rfl 2 rfl, H25001.out.cell 2 rfl 3 rfl⟩))
       clear hK K hHeld
       try simp only [Act.put, p1, p2, p3, p4, p5, p6]
       clear hD25000
       generalize (WC.alloc (.cells #[.int .i64 0, .int .i64 0] 38)) = k25002 at *
       have hHeld := hHeld2
       clear hHeld2
       have mk24 := hid True.intro
       obtain ⟨WC, hWC⟩ : ∃ x, x = k25002 := ⟨_, rfl⟩
       subst hWC
       have HC2 := hid (show St B W [.cells B #[.int .i64 r0, .int .i64 r1, .int .i64 r2, .int .i64 r3] 33, .cells D12 #[.int .i64 pw9, .int .i64 ph9, .int .i64 pm9, .slice pv9a ps9.length pv9c] 35, .cells D25000 #[.int .i64 0, .int .i64 0] 38, .cells D26000 #[.int .i64 0, .int .i64 0, .int .i64 0, .int .i64 0] 33, .own (.slice pv9a ps9.length pv9c) ps9, .tape K3] [] WC from H25001.out.pick [1, 2, 0, 3, 4, 5] rfl (by decide))
       clear H25001
       have HC := HC2
       clear HC2
      rotate_left
    all_goals
     as_aux_lemma =>
      all_goals
       first
       |skip
        have hmk := mk2
        have hmk := mk4
        fail_if_success (have hmk := mk24)
        fail_if_success (have hmk := mk25)
        refine wpAnyH_ready (rs := [7, 24, 25]) (by kernel_rfl) (by simp) (AllReadyH.cons (o := _) rfl (fun K hK => ?_) (AllReadyH.cons (o := _) rfl (fun K hK => ?_) (AllReadyH.cons (o := _) rfl (fun K hK => ?_) AllReadyH.nil)))
        focus
         go_simp
         go_at_call 10
         refine (nextB_any B K3 _ _ (by omega) (HC.out.tapeAt 4 rfl)).mono ?_
         rintro e w8001 ⟨x8000, rfl, x8000a, x8000b, htn, hgn, hsn⟩
         have H8002 := hid (HC.out.next 4 rfl htn hgn)
         clear htn hgn hsn
         have wnx8000 : IntKind.i64.wrap (1 + x8000) = 1 + x8000 := IntWalk.i64_in _ (by omega)
         refine hK.out _ _ ?_ (fun hHeld2 => ?_)
         focus ((try dsimp only); (exact ⟨H8002.out.cell 1 rfl 0 rfl, H8002.out.cell 1 rfl 1 rfl, H8002.out.cell 1 rfl 2 rfl, H8002.out.cell 1 rfl 3 rfl⟩))
         clear hK K
         try simp only [Act.put, p1, p2, p3, p4, p5, p6]
         clear hHeld
         have hHeld := hHeld2
         clear hHeld2
         have mk7 := hid True.intro
         refine tkA 8 ?_
         try simp only [Act.put, p1, p2, p3, p4, p5, p6]
         obtain ⟨WC, hWC⟩ : ∃ x, x = w8001 := ⟨_, rfl⟩
         subst hWC
         have HC2 := hid (show St B W [.cells B #[.int .i64 r0, .int .i64 r1, .int .i64 r2, .int .i64 r3] 33, .cells D12 #[.int .i64 pw9, .int .i64 ph9, .int .i64 pm9, .slice pv9a ps9.length pv9c] 35, .own (.slice pv9a ps9.length pv9c) ps9, .own (.slice wv5001a wl5002.length wv5001c) wl5002, .tape K3] [] WC from H8002.out)
         clear H8002
         have HC := HC2
         clear HC2
        rotate_left
        focus
         obtain ⟨D25000, hD25000⟩ : ∃ D, WC.heap.size = D := ⟨_, rfl⟩
         have H25001 := hid (HC.out.alloc #[.int .i64 0, .int .i64 0] 38 hD25000)
         go_simp
         refine hK.out _ _ ?_ (fun hHeld2 => ?_)
         focus ((try dsimp only); (exact ⟨H25001.out.cell 2 rfl 0 rfl, H25001.out.cell 2 rfl 1 rfl, H25001.out.cell 2 rfl 2 rfl, H25001.out.cell 2 rfl 3 rfl⟩))
         clear hK K hHeld
         try simp only [Act.put, p1, p2, p3, p4, p5, p6]
         clear hD25000
         generalize (WC.alloc (.cells #[.int .i64 0, .int .i64 0] 38)) = k25002 at *
         have hHeld := hHeld2
         clear hHeld2
         have mk24 := hid True.intro
         obtain ⟨WC, hWC⟩ : ∃ x, x = k25002 := ⟨_, rfl⟩
         subst hWC
         have HC2 := hid (show St B W [.cells B #[.int .i64 r0, .int .i64 r1, .int .i64 r2, .int .i64 r3] 33, .cells D12 #[.int .i64 pw9, .int .i64 ph9, .int .i64 pm9, .slice pv9a ps9.length pv9c] 35, .cells D25000 #[.int .i64 0, .int .i64 0] 38, .own (.slice pv9a ps9.length pv9c) ps9, .own (.slice wv5001a wl5002.length wv5001c) wl5002, .tape K3] [] WC from H25001.out.pick [1, 2, 0, 3, 4, 5] rfl (by decide))
         clear H25001
         have HC := HC2
         clear HC2
        rotate_left
        focus
         obtain ⟨D26000, hD26000⟩ : ∃ D, WC.heap.size = D := ⟨_, rfl⟩
         have H26001 := hid (HC.out.alloc #[.int .i64 0, .int .i64 0, .int .i64 0, .int .i64 0] 33 hD26000)
         go_simp
         refine hK.out _ _ ?_ (fun hHeld2 => ?_)
         focus ((try dsimp only); (exact ⟨H26001.out.cell 2 rfl 0 rfl, H26001.out.cell 2 rfl 1 rfl, H26001.out.cell 2 rfl 2 rfl, H26001.out.cell 2 rfl 3 rfl⟩))
         clear hK K hHeld
         try simp only [Act.put, p1, p2, p3, p4, p5, p6]
         clear hD26000
         generalize (WC.alloc (.cells #[.int .i64 0, .int .i64 0, .int .i64 0, .int .i64 0] 33)) = k26002 at *
         have hHeld := hHeld2
         clear hHeld2
         have mk25 := hid True.intro
         obtain ⟨WC, hWC⟩ : ∃ x, x = k26002 := ⟨_, rfl⟩
         subst hWC
         have HC2 := hid (show St B W [.cells B #[.int .i64 r0, .int .i64 r1, .int .i64 r2, .int .i64 r3] 33, .cells D12 #[.int .i64 pw9, .int .i64 ph9, .int .i64 pm9, .slice pv9a ps9.length pv9c] 35, .cells D26000 #[.int .i64 0, .int .i64 0, .int .i64 0, .int .i64 0] 33, .own (.slice pv9a ps9.length pv9c) ps9, .own (.slice wv5001a wl5002.length wv5001c) wl5002, .tape K3] [] WC from H26001.out.pick [1, 2, 0, 3, 4, 5] rfl (by decide))
         clear H26001
         have HC := HC2
         clear HC2
        rotate_left
       |skip
        have hmk := mk2
        have hmk := mk24
        fail_if_success (have hmk := mk4)
        fail_if_success (have hmk := mk25)
        refine wpAnyH_ready (rs := [4, 25]) (by kernel_rfl) (by simp) (AllReadyH.cons (o := _) rfl (fun K hK => ?_) (AllReadyH.cons (o := _) rfl (fun K hK => ?_) AllReadyH.nil))
        focus
         go_simp
         go_at_call 9
         refine (weights_any B K3 _ _ (by omega) (HC.out.tapeAt 4 rfl)).mono ?_
         rintro e w5000 ⟨wv5001, wl5002, rfl, hlen, hin, ho, ht, hg⟩
         have H5003 := hid (HC.out.add (HC.out.next 4 rfl ht hg) ho)
         have HWLwl5002 := hid hlen
         have HWBwl5002 := hid hin
         obtain ⟨wv5001a, wv5001c, rfl, -⟩ := ho.slc
         clear hlen hin ho ht hg
         refine hK.out _ _ ?_ (fun hHeld2 => ?_)
         focus ((try dsimp only); (exact ⟨H5003.out.cell 2 rfl 0 rfl, H5003.out.cell 2 rfl 1 rfl, H5003.out.cell 2 rfl 2 rfl, H5003.out.cell 2 rfl 3 rfl⟩))
         clear hK K
         try simp only [Act.put, p1, p2, p3, p4, p5, p6]
         clear hHeld
         have hHeld := hHeld2
         clear hHeld2
         have mk4 := hid True.intro
         obtain ⟨WC, hWC⟩ : ∃ x, x = w5000 := ⟨_, rfl⟩
         subst hWC
         have HC2 := hid (show St B W [.cells B #[.int .i64 r0, .int .i64 r1, .int .i64 r2, .int .i64 r3] 33, .cells D12 #[.int .i64 pw9, .int .i64 ph9, .int .i64 pm9, .slice pv9a ps9.length pv9c] 35, .cells D25000 #[.int .i64 0, .int .i64 0] 38, .own (.slice pv9a ps9.length pv9c) ps9, .own (.slice wv5001a wl5002.length wv5001c) wl5002, .tape K3] [] WC from H5003.out.pick [1, 2, 3, 4, 0, 5] rfl (by decide))
         clear H5003
         have HC := HC2
         clear HC2
        rotate_left
        focus
         obtain ⟨D26000, hD26000⟩ : ∃ D, WC.heap.size = D := ⟨_, rfl⟩
         have H26001 := hid (HC.out.alloc #[.int .i64 0, .int .i64 0, .int .i64 0, .int .i64 0] 33 hD26000)
         go_simp
         refine hK.out _ _ ?_ (fun hHeld2 => ?_)
         focus ((try dsimp only); (exact ⟨H26001.out.cell 2 rfl 0 rfl, H26001.out.cell 2 rfl 1 rfl, H26001.out.cell 2 rfl 2 rfl, H26001.out.cell 2 rfl 3 rfl⟩))
         clear hK K hHeld
         try simp only [Act.put, p1, p2, p3, p4, p5, p6]
         clear hD26000
         generalize (WC.alloc (.cells #[.int .i64 0, .int .i64 0, .int .i64 0, .int .i64 0] 33)) = k26002 at *
         have hHeld := hHeld2
         clear hHeld2
         have mk25 := hid True.intro
         obtain ⟨WC, hWC⟩ : ∃ x, x = k26002 := ⟨_, rfl⟩
         subst hWC
         have HC2 := hid (show St B W [.cells B #[.int .i64 r0, .int .i64 r1, .int .i64 r2, .int .i64 r3] 33, .cells D12 #[.int .i64 pw9, .int .i64 ph9, .int .i64 pm9, .slice pv9a ps9.length pv9c] 35, .cells D25000 #[.int .i64 0, .int .i64 0] 38, .cells D26000 #[.int .i64 0, .int .i64 0, .int .i64 0, .int .i64 0] 33, .own (.slice pv9a ps9.length pv9c) ps9, .tape K3] [] WC from H26001.out.pick [1, 2, 3, 0, 4, 5] rfl (by decide))
         clear H26001
         have HC := HC2
         clear HC2
        rotate_left
       |skip
        have hmk := mk2
        have hmk := mk25
        fail_if_success (have hmk := mk4)
        fail_if_success (have hmk := mk24)
        refine wpAnyH_ready (rs := [4, 24]) (by kernel_rfl) (by simp) (AllReadyH.cons (o := _) rfl (fun K hK => ?_) (AllReadyH.cons (o := _) rfl (fun K hK => ?_) AllReadyH.nil))
        focus
         go_simp
         go_at_call 9
         refine (weights_any B K3 _ _ (by omega) (HC.out.tapeAt 4 rfl)).mono ?_
         rintro e w5000 ⟨wv5001, wl5002, rfl, hlen, hin, ho, ht, hg⟩
         have H5003 := hid (HC.out.add (HC.out.next 4 rfl ht hg) ho)
         have HWLwl5002 := hid hlen
         have HWBwl5002 := hid hin
         obtain ⟨wv5001a, wv5001c, rfl, -⟩ := ho.slc
         clear hlen hin ho ht hg
         refine hK.out _ _ ?_ (fun hHeld2 => ?_)
         focus ((try dsimp only); (exact ⟨H5003.out.cell 2 rfl 0 rfl, H5003.out.cell 2 rfl 1 rfl, H5003.out.cell 2 rfl 2 rfl, H5003.out.cell 2 rfl 3 rfl⟩))
         clear hK K
         try simp only [Act.put, p1, p2, p3, p4, p5, p6]
         clear hHeld
         have hHeld := hHeld2
         clear hHeld2
         have mk4 := hid True.intro
         obtain ⟨WC, hWC⟩ : ∃ x, x = w5000 := ⟨_, rfl⟩
         subst hWC
         have HC2 := hid (show St B W [.cells B #[.int .i64 r0, .int .i64 r1, .int .i64 r2, .int .i64 r3] 33, .cells D12 #[.int .i64 pw9, .int .i64 ph9, .int .i64 pm9, .slice pv9a ps9.length pv9c] 35, .cells D26000 #[.int .i64 0, .int .i64 0, .int .i64 0, .int .i64 0] 33, .own (.slice pv9a ps9.length pv9c) ps9, .own (.slice wv5001a wl5002.length wv5001c) wl5002, .tape K3] [] WC from H5003.out.pick [1, 2, 3, 4, 0, 5] rfl (by decide))
         clear H5003
         have HC := HC2
         clear HC2
        rotate_left
        focus
         obtain ⟨D25000, hD25000⟩ : ∃ D, WC.heap.size = D := ⟨_, rfl⟩
         have H25001 := hid (HC.out.alloc #[.int .i64 0, .int .i64 0] 38 hD25000)
         go_simp
         refine hK.out _ _ ?_ (fun hHeld2 => ?_)
         focus ((try dsimp only); (exact ⟨H25001.out.cell 2 rfl 0 rfl, H25001.out.cell 2 rfl 1 rfl, H25001.out.cell 2 rfl 2 rfl, H25001.out.cell 2 rfl 3 rfl⟩))
         clear hK K hHeld
         try simp only [Act.put, p1, p2, p3, p4, p5, p6]
         clear hD25000
         generalize (WC.alloc (.cells #[.int .i64 0, .int .i64 0] 38)) = k25002 at *
         have hHeld := hHeld2
         clear hHeld2
         have mk24 := hid True.intro
         obtain ⟨WC, hWC⟩ : ∃ x, x = k25002 := ⟨_, rfl⟩
         subst hWC
         have HC2 := hid (show St B W [.cells B #[.int .i64 r0, .int .i64 r1, .int .i64 r2, .int .i64 r3] 33, .cells D12 #[.int .i64 pw9, .int .i64 ph9, .int .i64 pm9, .slice pv9a ps9.length pv9c] 35, .cells D25000 #[.int .i64 0, .int .i64 0] 38, .cells D26000 #[.int .i64 0, .int .i64 0, .int .i64 0, .int .i64 0] 33, .own (.slice pv9a ps9.length pv9c) ps9, .tape K3] [] WC from H25001.out.pick [1, 2, 0, 3, 4, 5] rfl (by decide))
         clear H25001
         have HC := HC2
         clear HC2
        rotate_left
       |skip
        have hmk := mk24
        have hmk := mk25
        fail_if_success (have hmk := mk2)
        fail_if_success (have hmk := mk4)
        refine wpAnyH_ready (rs := [2]) (by kernel_rfl) (by simp) (AllReadyH.cons (o := _) rfl (fun K hK => ?_) AllReadyH.nil)
        go_simp
        go_at_call 10
        refine (nextB_any B K3 _ _ (by omega) (HC.out.tapeAt 5 rfl)).mono ?_
        rintro e w3001 ⟨x3000, rfl, x3000a, x3000b, htn, hgn, hsn⟩
        have H3002 := hid (HC.out.next 5 rfl htn hgn)
        clear htn hgn hsn
        have wnx3000 : IntKind.i64.wrap (1 + x3000) = 1 + x3000 := IntWalk.i64_in _ (by omega)
        refine hK.out _ _ ?_ (fun hHeld2 => ?_)
        focus ((try dsimp only); (exact ⟨H3002.out.cell 1 rfl 0 rfl, H3002.out.cell 1 rfl 1 rfl, H3002.out.cell 1 rfl 2 rfl, H3002.out.cell 1 rfl 3 rfl⟩))
        clear hK K
        try simp only [Act.put, p1, p2, p3, p4, p5, p6]
        clear hHeld
        have hHeld := hHeld2
        clear hHeld2
        have mk2 := hid True.intro
        refine tkA 3 ?_
        try simp only [Act.put, p1, p2, p3, p4, p5, p6]
        obtain ⟨WC, hWC⟩ : ∃ x, x = w3001 := ⟨_, rfl⟩
        subst hWC
        have HC2 := hid (show St B W [.cells B #[.int .i64 r0, .int .i64 r1, .int .i64 r2, .int .i64 r3] 33, .cells D12 #[.int .i64 pw9, .int .i64 ph9, .int .i64 pm9, .slice pv9a ps9.length pv9c] 35, .cells D25000 #[.int .i64 0, .int .i64 0] 38, .cells D26000 #[.int .i64 0, .int .i64 0, .int .i64 0, .int .i64 0] 33, .own (.slice pv9a ps9.length pv9c) ps9, .tape K3] [] WC from H3002.out)
        clear H3002
        have HC := HC2
        clear HC2
      all_goals
       first
       |skip
        have hmk := mk2
        have hmk := mk4
        have hmk := mk7
        fail_if_success (have hmk := mk24)
        fail_if_success (have hmk := mk25)
        refine wpAnyH_ready (rs := [9, 24, 25]) (by kernel_rfl) (by simp) (AllReadyH.cons (o := _) rfl (fun K hK => ?_) (AllReadyH.cons (o := _) rfl (fun K hK => ?_) (AllReadyH.cons (o := _) rfl (fun K hK => ?_) AllReadyH.nil)))
        focus
         go_simp
         go_at_call 9
         refine (weights_any B K3 _ _ (by omega) (HC.out.tapeAt 4 rfl)).mono ?_
         rintro e w10000 ⟨wv10001, wl10002, rfl, hlen, hin, ho, ht, hg⟩
         have H10003 := hid (HC.out.add (HC.out.next 4 rfl ht hg) ho)
         have HWLwl10002 := hid hlen
         have HWBwl10002 := hid hin
         obtain ⟨wv10001a, wv10001c, rfl, -⟩ := ho.slc
         clear hlen hin ho ht hg
         refine hK.out _ _ ?_ (fun hHeld2 => ?_)
         focus ((try dsimp only); (exact ⟨H10003.out.cell 2 rfl 0 rfl, H10003.out.cell 2 rfl 1 rfl, H10003.out.cell 2 rfl 2 rfl, H10003.out.cell 2 rfl 3 rfl⟩))
         clear hK K
         try simp only [Act.put, p1, p2, p3, p4, p5, p6]
         clear hHeld
         have hHeld := hHeld2
         clear hHeld2
         have mk9 := hid True.intro
         obtain ⟨WC, hWC⟩ : ∃ x, x = w10000 := ⟨_, rfl⟩
         subst hWC
         have HC2 := hid (show St B W [.cells B #[.int .i64 r0, .int .i64 r1, .int .i64 r2, .int .i64 r3] 33, .cells D12 #[.int .i64 pw9, .int .i64 ph9, .int .i64 pm9, .slice pv9a ps9.length pv9c] 35, .own (.slice pv9a ps9.length pv9c) ps9, .own (.slice wv10001a wl10002.length wv10001c) wl10002, .own (.slice wv5001a wl5002.length wv5001c) wl5002, .tape K3] [] WC from H10003.out.pick [1, 2, 3, 0, 4, 5] rfl (by decide))
         clear H10003
         have HC := HC2
         clear HC2
        rotate_left
        focus
         obtain ⟨D25000, hD25000⟩ : ∃ D, WC.heap.size = D := ⟨_, rfl⟩
         have H25001 := hid (HC.out.alloc #[.int .i64 0, .int .i64 0] 38 hD25000)
         go_simp
         refine hK.out _ _ ?_ (fun hHeld2 => ?_)
         focus ((try dsimp only); (exact ⟨H25001.out.cell 2 rfl 0 rfl, H25001.out.cell 2 rfl 1 rfl, H25001.out.cell 2 rfl 2 rfl, H25001.out.cell 2 rfl 3 rfl⟩))
         clear hK K hHeld
         try simp only [Act.put, p1, p2, p3, p4, p5, p6]
         clear hD25000
         generalize (WC.alloc (.cells #[.int .i64 0, .int .i64 0] 38)) = k25002 at *
         have hHeld := hHeld2
         clear hHeld2
         have mk24 := hid True.intro
         obtain ⟨WC, hWC⟩ : ∃ x, x = k25002 := ⟨_, rfl⟩
         subst hWC
         have HC2 := hid (show St B W [.cells B #[.int .i64 r0, .int .i64 r1, .int .i64 r2, .int .i64 r3] 33, .cells D12 #[.int .i64 pw9, .int .i64 ph9, .int .i64 pm9, .slice pv9a ps9.length pv9c] 35, .cells D25000 #[.int .i64 0, .int .i64 0] 38, .own (.slice pv9a ps9.length pv9c) ps9, .own (.slice wv5001a wl5002.length wv5001c) wl5002, .tape K3] [] WC from H25001.out.pick [1, 2, 0, 3, 4, 5] rfl (by decide))
         clear H25001
         have HC := HC2
         clear HC2
        rotate_left
        focus
         obtain ⟨D26000, hD26000⟩ : ∃ D, WC.heap.size = D := ⟨_, rfl⟩
         have H26001 := hid (HC.out.alloc #[.int .i64 0, .int .i64 0, .int .i64 0, .int .i64 0] 33 hD26000)
         go_simp
         refine hK.out _ _ ?_ (fun hHeld2 => ?_)
         focus ((try dsimp only); (exact ⟨H26001.out.cell 2 rfl 0 rfl, H26001.out.cell 2 rfl 1 rfl, H26001.out.cell 2 rfl 2 rfl, H26001.out.cell 2 rfl 3 rfl⟩))
         clear hK K hHeld
         try simp only [Act.put, p1, p2, p3, p4, p5, p6]
         clear hD26000
         generalize (WC.alloc (.cells #[.int .i64 0, .int .i64 0, .int .i64 0, .int .i64 0] 33)) = k26002 at *
         have hHeld := hHeld2
         clear hHeld2
         have mk25 := hid True.intro
         obtain ⟨WC, hWC⟩ : ∃ x, x = k26002 := ⟨_, rfl⟩
         subst hWC
         have HC2 := hid (show St B W [.cells B #[.int .i64 r0, .int .i64 r1, .int .i64 r2, .int .i64 r3] 33, .cells D12 #[.int .i64 pw9, .int .i64 ph9, .int .i64 pm9, .slice pv9a ps9.length pv9c] 35, .cells D26000 #[.int .i64 0, .int .i64 0, .int .i64 0, .int .i64 0] 33, .own (.slice pv9a ps9.length pv9c) ps9, .own (.slice wv5001a wl5002.length wv5001c) wl5002, .tape K3] [] WC from H26001.out.pick [1, 2, 0, 3, 4, 5] rfl (by decide))
         clear H26001
         have HC := HC2
         clear HC2
        rotate_left
       |skip
        have hmk := mk2
        have hmk := mk4
        have hmk := mk24
        fail_if_success (have hmk := mk7)
        fail_if_success (have hmk := mk25)
        refine wpAnyH_ready (rs := [7, 25]) (by kernel_rfl) (by simp) (AllReadyH.cons (o := _) rfl (fun K hK => ?_) (AllReadyH.cons (o := _) rfl (fun K hK => ?_) AllReadyH.nil))
        focus
         go_simp
         go_at_call 10
         refine (nextB_any B K3 _ _ (by omega) (HC.out.tapeAt 5 rfl)).mono ?_
         rintro e w8001 ⟨x8000, rfl, x8000a, x8000b, htn, hgn, hsn⟩
         have H8002 := hid (HC.out.next 5 rfl htn hgn)
         clear htn hgn hsn
         have wnx8000 : IntKind.i64.wrap (1 + x8000) = 1 + x8000 := IntWalk.i64_in _ (by omega)
         refine hK.out _ _ ?_ (fun hHeld2 => ?_)
         focus ((try dsimp only); (exact ⟨H8002.out.cell 1 rfl 0 rfl, H8002.out.cell 1 rfl 1 rfl, H8002.out.cell 1 rfl 2 rfl, H8002.out.cell 1 rfl 3 rfl⟩))
         clear hK K
         try simp only [Act.put, p1, p2, p3, p4, p5, p6]
         clear hHeld
         have hHeld := hHeld2
         clear hHeld2
         have mk7 := hid True.intro
         refine tkA 8 ?_
         try simp only [Act.put, p1, p2, p3, p4, p5, p6]
         obtain ⟨WC, hWC⟩ : ∃ x, x = w8001 := ⟨_, rfl⟩
         subst hWC
         have HC2 := hid (show St B W [.cells B #[.int .i64 r0, .int .i64 r1, .int .i64 r2, .int .i64 r3] 33, .cells D12 #[.int .i64 pw9, .int .i64 ph9, .int .i64 pm9, .slice pv9a ps9.length pv9c] 35, .cells D25000 #[.int .i64 0, .int .i64 0] 38, .own (.slice pv9a ps9.length pv9c) ps9, .own (.slice wv5001a wl5002.length wv5001c) wl5002, .tape K3] [] WC from H8002.out)
         clear H8002
         have HC := HC2
         clear HC2
        rotate_left
        focus
         obtain ⟨D26000, hD26000⟩ : ∃ D, WC.heap.size = D := ⟨_, rfl⟩
         have H26001 := hid (HC.out.alloc #[.int .i64 0, .int .i64 0, .int .i64 0, .int .i64 0] 33 hD26000)
         go_simp
         refine hK.out _ _ ?_ (fun hHeld2 => ?_)
         focus ((try dsimp only); (exact ⟨H26001.out.cell 2 rfl 0 rfl, H26001.out.cell 2 rfl 1 rfl, H26001.out.cell 2 rfl 2 rfl, H26001.out.cell 2 rfl 3 rfl⟩))
         clear hK K hHeld
         try simp only [Act.put, p1, p2, p3, p4, p5, p6]
         clear hD26000
         generalize (WC.alloc (.cells #[.int .i64 0, .int .i64 0, .int .i64 0, .int .i64 0] 33)) = k26002 at *
         have hHeld := hHeld2
         clear hHeld2
         have mk25 := hid True.intro
         obtain ⟨WC, hWC⟩ : ∃ x, x = k26002 := ⟨_, rfl⟩
         subst hWC
         have HC2 := hid (show St B W [.cells B #[.int .i64 r0, .int .i64 r1, .int .i64 r2, .int .i64 r3] 33, .cells D12 #[.int .i64 pw9, .int .i64 ph9, .int .i64 pm9, .slice pv9a ps9.length pv9c] 35, .cells D25000 #[.int .i64 0, .int .i64 0] 38, .cells D26000 #[.int .i64 0, .int .i64 0, .int .i64 0, .int .i64 0] 33, .own (.slice pv9a ps9.length pv9c) ps9, .own (.slice wv5001a wl5002.length wv5001c) wl5002, .tape K3] [] WC from H26001.out.pick [1, 2, 3, 0, 4, 5, 6] rfl (by decide))
         clear H26001
         have HC := HC2
         clear HC2
        rotate_left
       |skip
        have hmk := mk2
        have hmk := mk4
        have hmk := mk25
        fail_if_success (have hmk := mk7)
        fail_if_success (have hmk := mk24)
        refine wpAnyH_ready (rs := [7, 24]) (by kernel_rfl) (by simp) (AllReadyH.cons (o := _) rfl (fun K hK => ?_) (AllReadyH.cons (o := _) rfl (fun K hK => ?_) AllReadyH.nil))
        focus
         go_simp
         go_at_call 10
         refine (nextB_any B K3 _ _ (by omega) (HC.out.tapeAt 5 rfl)).mono ?_
         rintro e w8001 ⟨x8000, rfl, x8000a, x8000b, htn, hgn, hsn⟩
         have H8002 := hid (HC.out.next 5 rfl htn hgn)
         clear htn hgn hsn
         have wnx8000 : IntKind.i64.wrap (1 + x8000) = 1 + x8000 := IntWalk.i64_in _ (by omega)
         refine hK.out _ _ ?_ (fun hHeld2 => ?_)
         focus ((try dsimp only); (exact ⟨H8002.out.cell 1 rfl 0 rfl, H8002.out.cell 1 rfl 1 rfl, H8002.out.cell 1 rfl 2 rfl, H8002.out.cell 1 rfl 3 rfl⟩))
         clear hK K
         try simp only [Act.put, p1, p2, p3, p4, p5, p6]
         clear hHeld
         have hHeld := hHeld2
         clear hHeld2
         have mk7 := hid True.intro
         refine tkA 8 ?_
         try simp only [Act.put, p1, p2, p3, p4, p5, p6]
         obtain ⟨WC, hWC⟩ : ∃ x, x = w8001 := ⟨_, rfl⟩
         subst hWC
         have HC2 := hid (show St B W [.cells B #[.int .i64 r0, .int .i64 r1, .int .i64 r2, .int .i64 r3] 33, .cells D12 #[.int .i64 pw9, .int .i64 ph9, .int .i64 pm9, .slice pv9a ps9.length pv9c] 35, .cells D26000 #[.int .i64 0, .int .i64 0, .int .i64 0, .int .i64 0] 33, .own (.slice pv9a ps9.length pv9c) ps9, .own (.slice wv5001a wl5002.length wv5001c) wl5002, .tape K3] [] WC from H8002.out)
         clear H8002
         have HC := HC2
         clear HC2
        rotate_left
        focus
         obtain ⟨D25000, hD25000⟩ : ∃ D, WC.heap.size = D := ⟨_, rfl⟩
         have H25001 := hid (HC.out.alloc #[.int .i64 0, .int .i64 0] 38 hD25000)
         go_simp
         refine hK.out _ _ ?_ (fun hHeld2 => ?_)
         focus ((try dsimp only); (exact ⟨H25001.out.cell 2 rfl 0 rfl, H25001.out.cell 2 rfl 1 rfl, H25001.out.cell 2 rfl 2 rfl, H25001.out.cell 2 rfl 3 rfl⟩))
         clear hK K hHeld
         try simp only [Act.put, p1, p2, p3, p4, p5, p6]
         clear hD25000
         generalize (WC.alloc (.cells #[.int .i64 0, .int .i64 0] 38)) = k25002 at *
         have hHeld := hHeld2
         clear hHeld2
         have mk24 := hid True.intro
         obtain ⟨WC, hWC⟩ : ∃ x, x = k25002 := ⟨_, rfl⟩
         subst hWC
         have HC2 := hid (show St B W [.cells B #[.int .i64 r0, .int .i64 r1, .int .i64 r2, .int .i64 r3] 33, .cells D12 #[.int .i64 pw9, .int .i64 ph9, .int .i64 pm9, .slice pv9a ps9.length pv9c] 35, .cells D25000 #[.int .i64 0, .int .i64 0] 38, .cells D26000 #[.int .i64 0, .int .i64 0, .int .i64 0, .int .i64 0] 33, .own (.slice pv9a ps9.length pv9c) ps9, .own (.slice wv5001a wl5002.length wv5001c) wl5002, .tape K3] [] WC from H25001.out.pick [1, 2, 0, 3, 4, 5, 6] rfl (by decide))
         clear H25001
         have HC := HC2
         clear HC2
        rotate_left
       |skip
        have hmk := mk2
        have hmk := mk24
        have hmk := mk25
        fail_if_success (have hmk := mk4)
        fail_if_success (have hmk := mk7)
        refine wpAnyH_ready (rs := [4]) (by kernel_rfl) (by simp) (AllReadyH.cons (o := _) rfl (fun K hK => ?_) AllReadyH.nil)
        go_simp
        go_at_call 9
        refine (weights_any B K3 _ _ (by omega) (HC.out.tapeAt 5 rfl)).mono ?_
        rintro e w5000 ⟨wv5001, wl5002, rfl, hlen, hin, ho, ht, hg⟩
        have H5003 := hid (HC.out.add (HC.out.next 5 rfl ht hg) ho)
        have HWLwl5002 := hid hlen
        have HWBwl5002 := hid hin
        obtain ⟨wv5001a, wv5001c, rfl, -⟩ := ho.slc
        clear hlen hin ho ht hg
        refine hK.out _ _ ?_ (fun hHeld2 => ?_)
        focus ((try dsimp only); (exact ⟨H5003.out.cell 2 rfl 0 rfl, H5003.out.cell 2 rfl 1 rfl, H5003.out.cell 2 rfl 2 rfl, H5003.out.cell 2 rfl 3 rfl⟩))
        clear hK K
        try simp only [Act.put, p1, p2, p3, p4, p5, p6]
        clear hHeld
        have hHeld := hHeld2
        clear hHeld2
        have mk4 := hid True.intro
        obtain ⟨WC, hWC⟩ : ∃ x, x = w5000 := ⟨_, rfl⟩
        subst hWC
        have HC2 := hid (show St B W [.cells B #[.int .i64 r0, .int .i64 r1, .int .i64 r2, .int .i64 r3] 33, .cells D12 #[.int .i64 pw9, .int .i64 ph9, .int .i64 pm9, .slice pv9a ps9.length pv9c] 35, .cells D25000 #[.int .i64 0, .int .i64 0] 38, .cells D26000 #[.int .i64 0, .int .i64 0, .int .i64 0, .int .i64 0] 33, .own (.slice pv9a ps9.length pv9c) ps9, .own (.slice wv5001a wl5002.length wv5001c) wl5002, .tape K3] [] WC from H5003.out.pick [1, 2, 3, 4, 5, 0, 6] rfl (by decide))
        clear H5003
        have HC := HC2
        clear HC2
      all_goals
       first
       |skip
        have hmk := mk2
        have hmk := mk4
        have hmk := mk7
        have hmk := mk9
        fail_if_success (have hmk := mk24)
        fail_if_success (have hmk := mk25)
        refine wpAnyH_ready (rs := [13, 24, 25]) (by kernel_rfl) (by simp) (AllReadyH.cons (o := _) rfl (fun K hK => ?_) (AllReadyH.cons (o := _) rfl (fun K hK => ?_) (AllReadyH.cons (o := _) rfl (fun K hK => ?_) AllReadyH.nil)))
        focus
         go_simp
         go_at_call 16
         refine (edge_any B K3 _ _ (HC.out.tapeAt 5 rfl)).mono ?_
         rintro e w14001 ⟨e14000_0, e14000_1, rfl, ht, hg⟩
         have H14002 := hid (HC.out.next 5 rfl ht hg)
         clear ht hg
         refine hK.out _ _ ?_ (fun hHeld2 => ?_)
         focus ((try dsimp only); (exact ⟨H14002.out.cell 1 rfl 0 rfl, H14002.out.cell 1 rfl 1 rfl, H14002.out.cell 1 rfl 2 rfl, H14002.out.cell 1 rfl 3 rfl⟩))
         clear hK K
         try simp only [Act.put, p1, p2, p3, p4, p5, p6]
         clear hHeld
         have hHeld := hHeld2
         clear hHeld2
         have mk13 := hid True.intro
         obtain ⟨WC, hWC⟩ : ∃ x, x = w14001 := ⟨_, rfl⟩
         subst hWC
         have HC2 := hid (show St B W [.cells B #[.int .i64 r0, .int .i64 r1, .int .i64 r2, .int .i64 r3] 33, .cells D12 #[.int .i64 pw9, .int .i64 ph9, .int .i64 pm9, .slice pv9a ps9.length pv9c] 35, .own (.slice pv9a ps9.length pv9c) ps9, .own (.slice wv10001a wl10002.length wv10001c) wl10002, .own (.slice wv5001a wl5002.length wv5001c) wl5002, .tape K3] [] WC from H14002.out)
         clear H14002
         have HC := HC2
         clear HC2
        rotate_left
        focus
         obtain ⟨D25000, hD25000⟩ : ∃ D, WC.heap.size = D := ⟨_, rfl⟩
         have H25001 := hid (HC.out.alloc #[.int .i64 0, .int .i64 0] 38 hD25000)
         go_simp
         refine hK.out _ _ ?_ (fun hHeld2 => ?_)
         focus ((try dsimp only); (exact ⟨H25001.out.cell 2 rfl 0 rfl, H25001.out.cell 2 rfl 1 rfl, H25001.out.cell 2 rfl 2 rfl, H25001.out.cell 2 rfl 3 rfl⟩))
         clear hK K hHeld
         try simp only [Act.put, p1, p2, p3, p4, p5, p6]
         clear hD25000
         generalize (WC.alloc (.cells #[.int .i64 0, .int .i64 0] 38)) = k25002 at *
         have hHeld := hHeld2
         clear hHeld2
         have mk24 := hid True.intro
         obtain ⟨WC, hWC⟩ : ∃ x, x = k25002 := ⟨_, rfl⟩
         subst hWC
         have HC2 := hid (show St B W [.cells B #[.int .i64 r0, .int .i64 r1, .int .i64 r2, .int .i64 r3] 33, .cells D12 #[.int .i64 pw9, .int .i64 ph9, .int .i64 pm9, .slice pv9a ps9.length pv9c] 35, .cells D25000 #[.int .i64 0, .int .i64 0] 38, .own (.slice pv9a ps9.length pv9c) ps9, .own (.slice wv10001a wl10002.length wv10001c) wl10002, .own (.slice wv5001a wl5002.length wv5001c) wl5002, .tape K3] [] WC from H25001.out.pick [1, 2, 0, 3, 4, 5, 6] rfl (by decide))
         clear H25001
         have HC := HC2
         clear HC2
        rotate_left
        focus
         obtain ⟨D26000, hD26000⟩ : ∃ D, WC.heap.size = D := ⟨_, rfl⟩
         have H26001 := hid (HC.out.alloc #[.int .i64 0, .int .i64 0, .int .i64 0, .int .i64 0] 33 hD26000)
         go_simp
         refine hK.out _ _ ?_ (fun hHeld2 => ?_)
         focus ((try dsimp only); (exact ⟨H26001.out.cell 2 rfl 0 rfl, H26001.out.cell 2 rfl 1 rfl, H26001.out.cell 2 rfl 2 rfl, H26001.out.cell 2 rfl 3 rfl⟩))
         clear hK K hHeld
         try simp only [Act.put, p1, p2, p3, p4, p5, p6]
         clear hD26000
         generalize (WC.alloc (.cells #[.int .i64 0, .int .i64 0, .int .i64 0, .int .i64 0] 33)) = k26002 at *
         have hHeld := hHeld2
         clear hHeld2
         have mk25 := hid True.intro
         obtain ⟨WC, hWC⟩ : ∃ x, x = k26002 := ⟨_, rfl⟩
         subst hWC
         have HC2 := hid (show St B W [.cells B #[.int .i64 r0, .int .i64 r1, .int .i64 r2, .int .i64 r3] 33, .cells D12 #[.int .i64 pw9, .int .i64 ph9, .int .i64 pm9, .slice pv9a ps9.length pv9c] 35, .cells D26000 #[.int .i64 0, .int .i64 0, .int .i64 0, .int .i64 0] 33, .own (.slice pv9a ps9.length pv9c) ps9, .own (.slice wv10001a wl10002.length wv10001c) wl10002, .own (.slice wv5001a wl5002.length wv5001c) wl5002, .tape K3] [] WC from H26001.out.pick [1, 2, 0, 3, 4, 5, 6] rfl (by decide))
         clear H26001
         have HC := HC2
         clear HC2
        rotate_left
       |skip
        have hmk := mk2
        have hmk := mk4
        have hmk := mk7
        have hmk := mk24
        fail_if_success (have hmk := mk9)
        fail_if_success (have hmk := mk25)
        refine wpAnyH_ready (rs := [9, 25]) (by kernel_rfl) (by simp) (AllReadyH.cons (o := _) rfl (fun K hK => ?_) (AllReadyH.cons (o := _) rfl (fun K hK => ?_) AllReadyH.nil))
        focus
         go_simp
         go_at_call 9
         refine (weights_any B K3 _ _ (by omega) (HC.out.tapeAt 5 rfl)).mono ?_
         rintro e w10000 ⟨wv10001, wl10002, rfl, hlen, hin, ho, ht, hg⟩
         have H10003 := hid (HC.out.add (HC.out.next 5 rfl ht hg) ho)
         have HWLwl10002 := hid hlen
         have HWBwl10002 := hid hin
         obtain ⟨wv10001a, wv10001c, rfl, -⟩ := ho.slc
         clear hlen hin ho ht hg
         refine hK.out _ _ ?_ (fun hHeld2 => ?_)
         focus ((try dsimp only); (exact ⟨H10003.out.cell 2 rfl 0 rfl, H10003.out.cell 2 rfl 1 rfl, H10003.out.cell 2 rfl 2 rfl, H10003.out.cell 2 rfl 3 rfl⟩))
         clear hK K
         try simp only [Act.put, p1, p2, p3, p4, p5, p6]
         clear hHeld
         have hHeld := hHeld2
         clear hHeld2
         have mk9 := hid True.intro
         obtain ⟨WC, hWC⟩ : ∃ x, x = w10000 := ⟨_, rfl⟩
         subst hWC
         have HC2 := hid (show St B W [.cells B #[.int .i64 r0, .int .i64 r1, .int .i64 r2, .int .i64 r3] 33, .cells D12 #[.int .i64 pw9, .int .i64 ph9, .int .i64 pm9, .slice pv9a ps9.length pv9c] 35, .cells D25000 #[.int .i64 0, .int .i64 0] 38, .own (.slice pv9a ps9.length pv9c) ps9, .own (.slice wv10001a wl10002.length wv10001c) wl10002, .own (.slice wv5001a wl5002.length wv5001c) wl5002, .tape K3] [] WC from H10003.out.pick [1, 2, 3, 4, 0, 5, 6] rfl (by decide))
         clear H10003
         have HC := HC2
         clear HC2
        rotate_left
        focus
         obtain ⟨D26000, hD26000⟩ : ∃ D, WC.heap.size = D := ⟨_, rfl⟩
         have H26001 := hid (HC.out.alloc #[.int .i64 0, .int .i64 0, .int .i64 0, .int .i64 0] 33 hD26000)
         go_simp
         refine hK.out _ _ ?_ (fun hHeld2 => ?_)
         focus ((try dsimp only); (exact ⟨H26001.out.cell 2 rfl 0 rfl, H26001.out.cell 2 rfl 1 rfl, H26001.out.cell 2 rfl 2 rfl, H26001.out.cell 2 rfl 3 rfl⟩))
         clear hK K hHeld
         try simp only [Act.put, p1, p2, p3, p4, p5, p6]
         clear hD26000
         generalize (WC.alloc (.cells #[.int .i64 0, .int .i64 0, .int .i64 0, .int .i64 0] 33)) = k26002 at *
         have hHeld := hHeld2
         clear hHeld2
         have mk25 := hid True.intro
         obtain ⟨WC, hWC⟩ : ∃ x, x = k26002 := ⟨_, rfl⟩
         subst hWC
         have HC2 := hid (show St B W [.cells B #[.int .i64 r0, .int .i64 r1, .int .i64 r2, .int .i64 r3] 33, .cells D12 #[.int .i64 pw9, .int .i64 ph9, .int .i64 pm9, .slice pv9a ps9.length pv9c] 35, .cells D25000 #[.int .i64 0, .int .i64 0] 38, .cells D26000 #[.int .i64 0, .int .i64 0, .int .i64 0, .int .i64 0] 33, .own (.slice pv9a ps9.length pv9c) ps9, .own (.slice wv5001a wl5002.length wv5001c) wl5002, .tape K3] [] WC from H26001.out.pick [1, 2, 3, 0, 4, 5, 6] rfl (by decide))
         clear H26001
         have HC := HC2
         clear HC2
        rotate_left
       |skip
        have hmk := mk2
        have hmk := mk4
        have hmk := mk7
        have hmk := mk25
        fail_if_success (have hmk := mk9)
        fail_if_success (have hmk := mk24)
        refine wpAnyH_ready (rs := [9, 24]) (by kernel_rfl) (by simp) (AllReadyH.cons (o := _) rfl (fun K hK => ?_) (AllReadyH.cons (o := _) rfl (fun K hK => ?_) AllReadyH.nil))
        focus
         go_simp
         go_at_call 9
         refine (weights_any B K3 _ _ (by omega) (HC.out.tapeAt 5 rfl)).mono ?_
         rintro e w10000 ⟨wv10001, wl10002, rfl, hlen, hin, ho, ht, hg⟩
         have H10003 := hid (HC.out.add (HC.out.next 5 rfl ht hg) ho)
         have HWLwl10002 := hid hlen
         have HWBwl10002 := hid hin
         obtain ⟨wv10001a, wv10001c, rfl, -⟩ := ho.slc
         clear hlen hin ho ht hg
         refine hK.out _ _ ?_ (fun hHeld2 => ?_)
         focus ((try dsimp only); (exact ⟨H10003.out.cell 2 rfl 0 rfl, H10003.out.cell 2 rfl 1 rfl, H10003.out.cell 2 rfl 2 rfl, H10003.out.cell 2 rfl 3 rfl⟩))
         clear hK K
         try simp only [Act.put, p1, p2, p3, p4, p5, p6]
         clear hHeld
         have hHeld := hHeld2
         clear hHeld2
         have mk9 := hid True.intro
         obtain ⟨WC, hWC⟩ : ∃ x, x = w10000 := ⟨_, rfl⟩
         subst hWC
         have HC2 := hid (show St B W [.cells B #[.int .i64 r0, .int .i64 r1, .int .i64 r2, .int .i64 r3] 33, .cells D12 #[.int .i64 pw9, .int .i64 ph9, .int .i64 pm9, .slice pv9a ps9.length pv9c] 35, .cells D26000 #[.int .i64 0, .int .i64 0, .int .i64 0, .int .i64 0] 33, .own (.slice pv9a ps9.length pv9c) ps9, .own (.slice wv10001a wl10002.length wv10001c) wl10002, .own (.slice wv5001a wl5002.length wv5001c) wl5002, .tape K3] [] WC from H10003.out.pick [1, 2, 3, 4, 0, 5, 6] rfl (by decide))
         clear H10003
         have HC := HC2
         clear HC2
        rotate_left
        focus
         obtain ⟨D25000, hD25000⟩ : ∃ D, WC.heap.size = D := ⟨_, rfl⟩
         have H25001 := hid (HC.out.alloc #[.int .i64 0, .int .i64 0] 38 hD25000)
         go_simp
         refine hK.out _ _ ?_ (fun hHeld2 => ?_)
         focus ((try dsimp only); (exact ⟨H25001.out.cell 2 rfl 0 rfl, H25001.out.cell 2 rfl 1 rfl, H25001.out.cell 2 rfl 2 rfl, H25001.out.cell 2 rfl 3 rfl⟩))
         clear hK K hHeld
         try simp only [Act.put, p1, p2, p3, p4, p5, p6]
         clear hD25000
         generalize (WC.alloc (.cells #[.int .i64 0, .int .i64 0] 38)) = k25002 at *
         have hHeld := hHeld2
         clear hHeld2
         have mk24 := hid True.intro
         obtain ⟨WC, hWC⟩ : ∃ x, x = k25002 := ⟨_, rfl⟩
         subst hWC
         have HC2 := hid (show St B W [.cells B #[.int .i64 r0, .int .i64 r1, .int .i64 r2, .int .i64 r3] 33, .cells D12 #[.int .i64 pw9, .int .i64 ph9, .int .i64 pm9, .slice pv9a ps9.length pv9c] 35, .cells D25000 #[.int .i64 0, .int .i64 0] 38, .cells D26000 #[.int .i64 0, .int .i64 0, .int .i64 0, .int .i64 0] 33, .own (.slice pv9a ps9.length pv9c) ps9, .own (.slice wv5001a wl5002.length wv5001c) wl5002, .tape K3] [] WC from H25001.out.pick [1, 2, 0, 3, 4, 5, 6] rfl (by decide))
         clear H25001
         have HC := HC2
         clear HC2
        rotate_left
       |skip
        have hmk := mk2
        have hmk := mk4
        have hmk := mk24
        have hmk := mk25
        fail_if_success (have hmk := mk7)
        fail_if_success (have hmk := mk9)
        refine wpAnyH_ready (rs := [7]) (by kernel_rfl) (by simp) (AllReadyH.cons (o := _) rfl (fun K hK => ?_) AllReadyH.nil)
        go_simp
        go_at_call 10
        refine (nextB_any B K3 _ _ (by omega) (HC.out.tapeAt 6 rfl)).mono ?_
        rintro e w8001 ⟨x8000, rfl, x8000a, x8000b, htn, hgn, hsn⟩
        have H8002 := hid (HC.out.next 6 rfl htn hgn)
        clear htn hgn hsn
        have wnx8000 : IntKind.i64.wrap (1 + x8000) = 1 + x8000 := IntWalk.i64_in _ (by omega)
        refine hK.out _ _ ?_ (fun hHeld2 => ?_)
        focus ((try dsimp only); (exact ⟨H8002.out.cell 1 rfl 0 rfl, H8002.out.cell 1 rfl 1 rfl, H8002.out.cell 1 rfl 2 rfl, H8002.out.cell 1 rfl 3 rfl⟩))
        clear hK K
        try simp only [Act.put, p1, p2, p3, p4, p5, p6]
        clear hHeld
        have hHeld := hHeld2
        clear hHeld2
        have mk7 := hid True.intro
        refine tkA 8 ?_
        try simp only [Act.put, p1, p2, p3, p4, p5, p6]
        obtain ⟨WC, hWC⟩ : ∃ x, x = w8001 := ⟨_, rfl⟩
        subst hWC
        have HC2 := hid (show St B W [.cells B #[.int .i64 r0, .int .i64 r1, .int .i64 r2, .int .i64 r3] 33, .cells D12 #[.int .i64 pw9, .int .i64 ph9, .int .i64 pm9, .slice pv9a ps9.length pv9c] 35, .cells D25000 #[.int .i64 0, .int .i64 0] 38, .cells D26000 #[.int .i64 0, .int .i64 0, .int .i64 0, .int .i64 0] 33, .own (.slice pv9a ps9.length pv9c) ps9, .own (.slice wv5001a wl5002.length wv5001c) wl5002, .tape K3] [] WC from H8002.out)
        clear H8002
        have HC := HC2
        clear HC2
      all_goals
       as_aux_lemma =>
        all_goals
         first
         |skip
          have hmk := mk2
          have hmk := mk4
          have hmk := mk7
          have hmk := mk9
          have hmk := mk13
          fail_if_success (have hmk := mk24)
          fail_if_success (have hmk := mk25)
          refine wpAnyH_ready (rs := [15, 24, 25]) (by kernel_rfl) (by simp) (AllReadyH.cons (o := _) rfl (fun K hK => ?_) (AllReadyH.cons (o := _) rfl (fun K hK => ?_) (AllReadyH.cons (o := _) rfl (fun K hK => ?_) AllReadyH.nil)))
          focus
           go_simp
           go_at_call 10
           refine (nextB_any B K3 _ _ (by omega) (HC.out.tapeAt 5 rfl)).mono ?_
           rintro e w16001 ⟨x16000, rfl, x16000a, x16000b, htn, hgn, hsn⟩
           have H16002 := hid (HC.out.next 5 rfl htn hgn)
           clear htn hgn hsn
           refine hK.out _ _ ?_ (fun hHeld2 => ?_)
           focus ((try dsimp only); (exact ⟨H16002.out.cell 1 rfl 0 rfl, H16002.out.cell 1 rfl 1 rfl, H16002.out.cell 1 rfl 2 rfl, H16002.out.cell 1 rfl 3 rfl⟩))
           clear hK K
           try simp only [Act.put, p1, p2, p3, p4, p5, p6]
           clear hHeld
           have hHeld := hHeld2
           clear hHeld2
           have mk15 := hid True.intro
           obtain ⟨WC, hWC⟩ : ∃ x, x = w16001 := ⟨_, rfl⟩
           subst hWC
           have HC2 := hid (show St B W [.cells B #[.int .i64 r0, .int .i64 r1, .int .i64 r2, .int .i64 r3] 33, .cells D12 #[.int .i64 pw9, .int .i64 ph9, .int .i64 pm9, .slice pv9a ps9.length pv9c] 35, .own (.slice pv9a ps9.length pv9c) ps9, .own (.slice wv10001a wl10002.length wv10001c) wl10002, .own (.slice wv5001a wl5002.length wv5001c) wl5002, .tape K3] [] WC from H16002.out)
           clear H16002
           have HC := HC2
           clear HC2
          rotate_left
          focus
           obtain ⟨D25000, hD25000⟩ : ∃ D, WC.heap.size = D := ⟨_, rfl⟩
           have H25001 := hid (HC.out.alloc #[.int .i64 0, .int .i64 0] 38 hD25000)
           go_simp
           refine hK.out _ _ ?_ (fun hHeld2 => ?_)
           focus ((try dsimp only); (exact ⟨H25001.out.cell 2 rfl 0 rfl, H25001.out.cell 2 rfl 1 rfl, H25001.out.cell 2 rfl 2 rfl, H25001.out.cell 2 rfl 3 rfl⟩))
           clear hK K hHeld
           try simp only [Act.put, p1, p2, p3, p4, p5, p6]
           clear hD25000
           generalize (WC.alloc (.cells #[.int .i64 0, .int .i64 0] 38)) = k25002 at *
           have hHeld := hHeld2
           clear hHeld2
           have mk24 := hid True.intro
           obtain ⟨WC, hWC⟩ : ∃ x, x = k25002 := ⟨_, rfl⟩
           subst hWC
           have HC2 := hid (show St B W [.cells B #[.int .i64 r0, .int .i64 r1, .int .i64 r2, .int .i64 r3] 33, .cells D12 #[.int .i64 pw9, .int .i64 ph9, .int .i64 pm9, .slice pv9a ps9.length pv9c] 35, .cells D25000 #[.int .i64 0, .int .i64 0] 38, .own (.slice pv9a ps9.length pv9c) ps9, .own (.slice wv10001a wl10002.length wv10001c) wl10002, .own (.slice wv5001a wl5002.length wv5001c) wl5002, .tape K3] [] WC from H25001.out.pick [1, 2, 0, 3, 4, 5, 6] rfl (by decide))
           clear H25001
           have HC := HC2
           clear HC2
          rotate_left
          focus
           obtain ⟨D26000, hD26000⟩ : ∃ D, WC.heap.size = D := ⟨_, rfl⟩
           have H26001 := hid (HC.out.alloc #[.int .i64 0, .int .i64 0, .int .i64 0, .int .i64 0] 33 hD26000)
           go_simp
           refine hK.out _ _ ?_ (fun hHeld2 => ?_)
           focus ((try dsimp only); (exact ⟨H26001.out.cell 2 rfl 0 rfl, H26001.out.cell 2 rfl 1 rfl, H26001.out.cell 2 rfl 2 rfl, H26001.out.cell 2 rfl 3 rfl⟩))
           clear hK K hHeld
           try simp only [Act.put, p1, p2, p3, p4, p5, p6]
           clear hD26000
           generalize (WC.alloc (.cells #[.int .i64 0, .int .i64 0, .int .i64 0, .int .i64 0] 33)) = k26002 at *
           have hHeld := hHeld2
           clear hHeld2
           have mk25 := hid True.intro
           obtain ⟨WC, hWC⟩ : ∃ x, x = k26002 := ⟨_, rfl⟩
           subst hWC
           have HC2 := hid (show St B W [.cells B #[.int .i64 r0, .int .i64 r1, .int .i64 r2, .int .i64 r3] 33, .cells D12 #[.int .i64 pw9, .int .i64 ph9, .int .i64 pm9, .slice pv9a ps9.length pv9c] 35, .cells D26000 #[.int .i64 0, .int .i64 0, .int .i64 0, .int .i64 0] 33, .own (.slice pv9a ps9.length pv9c) ps9, .own (.slice wv10001a wl10002.length wv10001c) wl10002, .own (.slice wv5001a wl5002.length wv5001c) wl5002, .tape K3] [] WC from H26001.out.pick [1, 2, 0, 3, 4, 5, 6] rfl (by decide))
           clear H26001
           have HC := HC2
           clear HC2
          rotate_left
         |skip
          have hmk := mk2
          have hmk := mk4
          have hmk := mk7
          have hmk := mk9
          have hmk := mk24
          fail_if_success (have hmk := mk13)
          fail_if_success (have hmk := mk25)
          refine wpAnyH_ready (rs := [13, 25]) (by kernel_rfl) (by simp) (AllReadyH.cons (o := _) rfl (fun K hK => ?_) (AllReadyH.cons (o := _) rfl (fun K hK => ?_) AllReadyH.nil))
          focus
           go_simp
           go_at_call 16
           refine (edge_any B K3 _ _ (HC.out.tapeAt 6 rfl)).mono ?_
           rintro e w14001 ⟨e14000_0, e14000_1, rfl, ht, hg⟩
           have H14002 := hid (HC.out.next 6 rfl ht hg)
           clear ht hg
           refine hK.out _ _ ?_ (fun hHeld2 => ?_)
           focus ((try dsimp only); (exact ⟨H14002.out.cell 1 rfl 0 rfl, H14002.out.cell 1 rfl 1 rfl, H14002.out.cell 1 rfl 2 rfl, H14002.out.cell 1 rfl 3 rfl⟩))
           clear hK K
           try simp only [Act.put, p1, p2, p3, p4, p5, p6]
           clear hHeld
           have hHeld := hHeld2
           clear hHeld2
           have mk13 := hid True.intro
           obtain ⟨WC, hWC⟩ : ∃ x, x = w14001 := ⟨_, rfl⟩
           subst hWC
           have HC2 := hid (show St B W [.cells B #[.int .i64 r0, .int .i64 r1, .int .i64 r2, .int .i64 r3] 33, .cells D12 #[.int .i64 pw9, .int .i64 ph9, .int .i64 pm9, .slice pv9a ps9.length pv9c] 35, .cells D25000 #[.int .i64 0, .int .i64 0] 38, .own (.slice pv9a ps9.length pv9c) ps9, .own (.slice wv10001a wl10002.length wv10001c) wl10002, .own (.slice wv5001a wl5002.length wv5001c) wl5002, .tape K3] [] WC from H14002.out)
           clear H14002
           have HC := HC2
           clear HC2
          rotate_left
          focus
           obtain ⟨D26000, hD26000⟩ : ∃ D, WC.heap.size = D := ⟨_, rfl⟩
           have H26001 := hid (HC.out.alloc #[.int .i64 0, .int .i64 0, .int .i64 0, .int .i64 0] 33 hD26000)
           go_simp
           refine hK.out _ _ ?_ (fun hHeld2 => ?_)
           focus ((try dsimp only); (exact ⟨H26001.out.cell 2 rfl 0 rfl, H26001.out.cell 2 rfl 1 rfl, H26001.out.cell 2 rfl 2 rfl, H26001.out.cell 2 rfl 3 rfl⟩))
           clear hK K hHeld
           try simp only [Act.put, p1, p2, p3, p4, p5, p6]
           clear hD26000
           generalize (WC.alloc (.cells #[.int .i64 0, .int .i64 0, .int .i64 0, .int .i64 0] 33)) = k26002 at *
           have hHeld := hHeld2
           clear hHeld2
           have mk25 := hid True.intro
           obtain ⟨WC, hWC⟩ : ∃ x, x = k26002 := ⟨_, rfl⟩
           subst hWC
           have HC2 := hid (show St B W [.cells B #[.int .i64 r0, .int .i64 r1, .int .i64 r2, .int .i64 r3] 33, .cells D12 #[.int .i64 pw9, .int .i64 ph9, .int .i64 pm9, .slice pv9a ps9.length pv9c] 35, .cells D25000 #[.int .i64 0, .int .i64 0] 38, .cells D26000 #[.int .i64 0, .int .i64 0, .int .i64 0, .int .i64 0] 33, .own (.slice pv9a ps9.length pv9c) ps9, .own (.slice wv10001a wl10002.length wv10001c) wl10002, .own (.slice wv5001a wl5002.length wv5001c) wl5002, .tape K3] [] WC from H26001.out.pick [1, 2, 3, 0, 4, 5, 6, 7] rfl (by decide))
           clear H26001
           have HC := HC2
           clear HC2
          rotate_left
         |skip
          have hmk := mk2
          have hmk := mk4
          have hmk := mk7
          have hmk := mk9
          have hmk := mk25
          fail_if_success (have hmk := mk13)
          fail_if_success (have hmk := mk24)
          refine wpAnyH_ready (rs := [13, 24]) (by kernel_rfl) (by simp) (AllReadyH.cons (o := _) rfl (fun K hK => ?_) (AllReadyH.cons (o := _) rfl (fun K hK => ?_) AllReadyH.nil))
          focus
           go_simp
           go_at_call 16
           refine (edge_any B K3 _ _ (HC.out.tapeAt 6 rfl)).mono ?_
           rintro e w14001 ⟨e14000_0, e14000_1, rfl, ht, hg⟩
           have H14002 := hid (HC.out.next 6 rfl ht hg)
           clear ht hg
           refine hK.out _ _ ?_ (fun hHeld2 => ?_)
           focus ((try dsimp only); (exact ⟨H14002.out.cell 1 rfl 0 rfl, H14002.out.cell 1 rfl 1 rfl, H14002.out.cell 1 rfl 2 rfl, H14002.out.cell 1 rfl 3 rfl⟩))
           clear hK K
           try simp only [Act.put, p1, p2, p3, p4, p5, p6]
           clear hHeld
           have hHeld := hHeld2
           clear hHeld2
           have mk13 := hid True.intro
           obtain ⟨WC, hWC⟩ : ∃ x, x = w14001 := ⟨_, rfl⟩
           subst hWC
           have HC2 := hid (show St B W [.cells B #[.int .i64 r0, .int .i64 r1, .int .i64 r2, .int .i64 r3] 33, .cells D12 #[.int .i64 pw9, .int .i64 ph9, .int .i64 pm9, .slice pv9a ps9.length pv9c] 35, .cells D26000 #[.int .i64 0, .int .i64 0, .int .i64 0, .int .i64 0] 33, .own (.slice pv9a ps9.length pv9c) ps9, .own (.slice wv10001a wl10002.length wv10001c) wl10002, .own (.slice wv5001a wl5002.length wv5001c) wl5002, .tape K3] [] WC from H14002.out)
           clear H14002
           have HC := HC2
           clear HC2
          rotate_left
          focus
           obtain ⟨D25000, hD25000⟩ : ∃ D, WC.heap.size = D := ⟨_, rfl⟩
           have H25001 := hid (HC.out.alloc #[.int .i64 0, .int .i64 0] 38 hD25000)
           go_simp
           refine hK.out _ _ ?_ (fun hHeld2 => ?_)
           focus ((try dsimp only); (exact ⟨H25001.out.cell 2 rfl 0 rfl, H25001.out.cell 2 rfl 1 rfl, H25001.out.cell 2 rfl 2 rfl, H25001.out.cell 2 rfl 3 rfl⟩))
           clear hK K hHeld
           try simp only [Act.put, p1, p2, p3, p4, p5, p6]
           clear hD25000
           generalize (WC.alloc (.cells #[.int .i64 0, .int .i64 0] 38)) = k25002 at *
           have hHeld := hHeld2
           clear hHeld2
           have mk24 := hid True.intro
           obtain ⟨WC, hWC⟩ : ∃ x, x = k25002 := ⟨_, rfl⟩
           subst hWC
           have HC2 := hid (show St B W [.cells B #[.int .i64 r0, .int .i64 r1, .int .i64 r2, .int .i64 r3] 33, .cells D12 #[.int .i64 pw9, .int .i64 ph9, .int .i64 pm9, .slice pv9a ps9.length pv9c] 35, .cells D25000 #[.int .i64 0, .int .i64 0] 38, .cells D26000 #[.int .i64 0, .int .i64 0, .int .i64 0, .int .i64 0] 33, .own (.slice pv9a ps9.length pv9c) ps9, .own (.slice wv10001a wl10002.length wv10001c) wl10002, .own (.slice wv5001a wl5002.length wv5001c) wl5002, .tape K3] [] WC from H25001.out.pick [1, 2, 0, 3, 4, 5, 6, 7] rfl (by decide))
           clear H25001
           have HC := HC2
           clear HC2
          rotate_left
         |skip
          have hmk := mk2
          have hmk := mk4
          have hmk := mk7
          have hmk := mk24
          have hmk := mk25
          fail_if_success (have hmk := mk9)
          fail_if_success (have hmk := mk13)
          refine wpAnyH_ready (rs := [9]) (by kernel_rfl) (by simp) (AllReadyH.cons (o := _) rfl (fun K hK => ?_) AllReadyH.nil)
          go_simp
          go_at_call 9
          refine (weights_any B K3 _ _ (by omega) (HC.out.tapeAt 6 rfl)).mono ?_
          rintro e w10000 ⟨wv10001, wl10002, rfl, hlen, hin, ho, ht, hg⟩
          have H10003 := hid (HC.out.add (HC.out.next 6 rfl ht hg) ho)
          have HWLwl10002 := hid hlen
          have HWBwl10002 := hid hin
          obtain ⟨wv10001a, wv10001c, rfl, -⟩ := ho.slc
          clear hlen hin ho ht hg
          refine hK.out _ _ ?_ (fun hHeld2 => ?_)
          focus ((try dsimp only); (exact ⟨H10003.out.cell 2 rfl 0 rfl, H10003.out.cell 2 rfl 1 rfl, H10003.out.cell 2 rfl 2 rfl, H10003.out.cell 2 rfl 3 rfl⟩))
          clear hK K
          try simp only [Act.put, p1, p2, p3, p4, p5, p6]
          clear hHeld
          have hHeld := hHeld2
          clear hHeld2
          have mk9 := hid True.intro
          obtain ⟨WC, hWC⟩ : ∃ x, x = w10000 := ⟨_, rfl⟩
          subst hWC
          have HC2 := hid (show St B W [.cells B #[.int .i64 r0, .int .i64 r1, .int .i64 r2, .int .i64 r3] 33, .cells D12 #[.int .i64 pw9, .int .i64 ph9, .int .i64 pm9, .slice pv9a ps9.length pv9c] 35, .cells D25000 #[.int .i64 0, .int .i64 0] 38, .cells D26000 #[.int .i64 0, .int .i64 0, .int .i64 0, .int .i64 0] 33, .own (.slice pv9a ps9.length pv9c) ps9, .own (.slice wv10001a wl10002.length wv10001c) wl10002, .own (.slice wv5001a wl5002.length wv5001c) wl5002, .tape K3] [] WC from H10003.out.pick [1, 2, 3, 4, 5, 0, 6, 7] rfl (by decide))
          clear H10003
          have HC := HC2
          clear HC2
        all_goals
         first
         |skip
          have hmk := mk2
          have hmk := mk4
          have hmk := mk7
          have hmk := mk9
          have hmk := mk13
          have hmk := mk15
          fail_if_success (have hmk := mk24)
          fail_if_success (have hmk := mk25)
          refine wpAnyH_ready (rs := [17, 24, 25]) (by kernel_rfl) (by simp) (AllReadyH.cons (o := _) rfl (fun K hK => ?_) (AllReadyH.cons (o := _) rfl (fun K hK => ?_) (AllReadyH.cons (o := _) rfl (fun K hK => ?_) AllReadyH.nil)))
          focus
           go_simp
           go_at_call 10
           refine (nextB_any B K3 _ _ (by omega) (HC.out.tapeAt 5 rfl)).mono ?_
           rintro e w18001 ⟨x18000, rfl, x18000a, x18000b, htn, hgn, hsn⟩
           have H18002 := hid (HC.out.next 5 rfl htn hgn)
           clear htn hgn hsn
           refine hK.out _ _ ?_ (fun hHeld2 => ?_)
           focus ((try dsimp only); (exact ⟨H18002.out.cell 1 rfl 0 rfl, H18002.out.cell 1 rfl 1 rfl, H18002.out.cell 1 rfl 2 rfl, H18002.out.cell 1 rfl 3 rfl⟩))
           clear hK K
           try simp only [Act.put, p1, p2, p3, p4, p5, p6]
           clear hHeld
           have hHeld := hHeld2
           clear hHeld2
           have mk17 := hid True.intro
           obtain ⟨WC, hWC⟩ : ∃ x, x = w18001 := ⟨_, rfl⟩
           subst hWC
           have HC2 := hid (show St B W [.cells B #[.int .i64 r0, .int .i64 r1, .int .i64 r2, .int .i64 r3] 33, .cells D12 #[.int .i64 pw9, .int .i64 ph9, .int .i64 pm9, .slice pv9a ps9.length pv9c] 35, .own (.slice pv9a ps9.length pv9c) ps9, .own (.slice wv10001a wl10002.length wv10001c) wl10002, .own (.slice wv5001a wl5002.length wv5001c) wl5002, .tape K3] [] WC from H18002.out)
           clear H18002
           have HC := HC2
           clear HC2
          rotate_left
          focus
           obtain ⟨D25000, hD25000⟩ : ∃ D, WC.heap.size = D := ⟨_, rfl⟩
           have H25001 := hid (HC.out.alloc #[.int .i64 0, .int .i64 0] 38 hD25000)
           go_simp
           refine hK.out _ _ ?_ (fun hHeld2 => ?_)
           focus ((try dsimp only); (exact ⟨H25001.out.cell 2 rfl 0 rfl, H25001.out.cell 2 rfl 1 rfl, H25001.out.cell 2 rfl 2 rfl, H25001.out.cell 2 rfl 3 rfl⟩))
           clear hK K hHeld
           try simp only [Act.put, p1, p2, p3, p4, p5, p6]
           clear hD25000
           generalize (WC.alloc (.cells #[.int .i64 0, .int .i64 0] 38)) = k25002 at *
           have hHeld := hHeld2
           clear hHeld2
           have mk24 := hid True.intro
           obtain ⟨WC, hWC⟩ : ∃ x, x = k25002 := ⟨_, rfl⟩
           subst hWC
           have HC2 := hid (show St B W [.cells B #[.int .i64 r0, .int .i64 r1, .int .i64 r2, .int .i64 r3] 33, .cells D12 #[.int .i64 pw9, .int .i64 ph9, .int .i64 pm9, .slice pv9a ps9.length pv9c] 35, .cells D25000 #[.int .i64 0, .int .i64 0] 38, .own (.slice pv9a ps9.length pv9c) ps9, .own (.slice wv10001a wl10002.length wv10001c) wl10002, .own (.slice wv5001a wl5002.length wv5001c) wl5002, .tape K3] [] WC from H25001.out.pick [1, 2, 0, 3, 4, 5, 6] rfl (by decide))
           clear H25001
           have HC := HC2
           clear HC2
          rotate_left
          focus
           obtain ⟨D26000, hD26000⟩ : ∃ D, WC.heap.size = D := ⟨_, rfl⟩
           have H26001 := hid (HC.out.alloc #[.int .i64 0, .int .i64 0, .int .i64 0, .int .i64 0] 33 hD26000)
           go_simp
           refine hK.out _ _ ?_ (fun hHeld2 => ?_)
           focus ((try dsimp only); (exact ⟨H26001.out.cell 2 rfl 0 rfl, H26001.out.cell 2 rfl 1 rfl, H26001.out.cell 2 rfl 2 rfl, H26001.out.cell 2 rfl 3 rfl⟩))
           clear hK K hHeld
           try simp only [Act.put, p1, p2, p3, p4, p5, p6]
           clear hD26000
           generalize (WC.alloc (.cells #[.int .i64 0, .int .i64 0, .int .i64 0, .int .i64 0] 33)) = k26002 at *
           have hHeld := hHeld2
           clear hHeld2
           have mk25 := hid True.intro
           obtain ⟨WC, hWC⟩ : ∃ x, x = k26002 := ⟨_, rfl⟩
           subst hWC
           have HC2 := hid (show St B W [.cells B #[.int .i64 r0, .int .i64 r1, .int .i64 r2, .int .i64 r3] 33, .cells D12 #[.int .i64 pw9, .int .i64 ph9, .int .i64 pm9, .slice pv9a ps9.length pv9c] 35, .cells D26000 #[.int .i64 0, .int .i64 0, .int .i64 0, .int .i64 0] 33, .own (.slice pv9a ps9.length pv9c) ps9, .own (.slice wv10001a wl10002.length wv10001c) wl10002, .own (.slice wv5001a wl5002.length wv5001c) wl5002, .tape K3] [] WC from H26001.out.pick [1, 2, 0, 3, 4, 5, 6] rfl (by decide))
           clear H26001
           have HC := HC2
           clear HC2
          rotate_left
         |skip
          have hmk := mk2
          have hmk := mk4
          have hmk := mk7
          have hmk := mk9
          have hmk := mk13
          have hmk := mk24
          fail_if_success (have hmk := mk15)
          fail_if_success (have hmk := mk25)
          refine wpAnyH_ready (rs := [15, 25]) (by kernel_rfl) (by simp) (AllReadyH.cons (o := _) rfl (fun K hK => ?_) (AllReadyH.cons (o := _) rfl (fun K hK => ?_) AllReadyH.nil))
          focus
           go_simp
           go_at_call 10
           refine (nextB_any B K3 _ _ (by omega) (HC.out.tapeAt 6 rfl)).mono ?_
           rintro e w16001 ⟨x16000, rfl, x16000a, x16000b, htn, hgn, hsn⟩
           have H16002 := hid (HC.out.next 6 rfl htn hgn)
           clear htn hgn hsn
           refine hK.out _ _ ?_ (fun hHeld2 => ?_)
           focus ((try dsimp only); (exact ⟨H16002.out.cell 1 rfl 0 rfl, H16002.out.cell 1 rfl 1 rfl, H16002.out.cell 1 rfl 2 rfl, H16002.out.cell 1 rfl 3 rfl⟩))
           clear hK K
           try simp only [Act.put, p1, p2, p3, p4, p5, p6]
           clear hHeld
           have hHeld := hHeld2
           clear hHeld2
           have mk15 := hid True.intro
           obtain ⟨WC, hWC⟩ : ∃ x, x = w16001 := ⟨_, rfl⟩
           subst hWC
           have HC2 := hid (show St B W [.cells B #[.int .i64 r0, .int .i64 r1, .int .i64 r2, .int .i64 r3] 33, .cells D12 #[.int .i64 pw9, .int .i64 ph9, .int .i64 pm9, .slice pv9a ps9.length pv9c] 35, .cells D25000 #[.int .i64 0, .int .i64 0] 38, .own (.slice pv9a ps9.length pv9c) ps9, .own (.slice wv10001a wl10002.length wv10001c) wl10002, .own (.slice wv5001a wl5002.length wv5001c) wl5002, .tape K3] [] WC from H16002.out)
           clear H16002
           have HC := HC2
           clear HC2
          rotate_left
          focus
           obtain ⟨D26000, hD26000⟩ : ∃ D, WC.heap.size = D := ⟨_, rfl⟩
           have H26001 := hid (HC.out.alloc #[.int .i64 0, .int .i64 0, .int .i64 0, .int .i64 0] 33 hD26000)
           go_simp
           refine hK.out _ _ ?_ (fun hHeld2 => ?_)
           focus ((try dsimp only); (exact ⟨H26001.out.cell 2 rfl 0 rfl, H26001.out.cell 2 rfl 1 rfl, H26001.out.cell 2 rfl 2 rfl, H26001.out.cell 2 rfl 3 rfl⟩))
           clear hK K hHeld
           try simp only [Act.put, p1, p2, p3, p4, p5, p6]
           clear hD26000
           generalize (WC.alloc (.cells #[.int .i64 0, .int .i64 0, .int .i64 0, .int .i64 0] 33)) = k26002 at *
           have hHeld := hHeld2
           clear hHeld2
           have mk25 := hid True.intro
           obtain ⟨WC, hWC⟩ : ∃ x, x = k26002 := ⟨_, rfl⟩
           subst hWC
           have HC2 := hid (show St B W [.cells B #[.int .i64 r0, .int .i64 r1, .int .i64 r2, .int .i64 r3] 33, .cells D12 #[.int .i64 pw9, .int .i64 ph9, .int .i64 pm9, .slice pv9a ps9.length pv9c] 35, .cells D25000 #[.int .i64 0, .int .i64 0] 38, .cells D26000 #[.int .i64 0, .int .i64 0, .int .i64 0, .int .i64 0] 33, .own (.slice pv9a ps9.length pv9c) ps9, .own (.slice wv10001a wl10002.length wv10001c) wl10002, .own (.slice wv5001a wl5002.length wv5001c) wl5002, .tape K3] [] WC from H26001.out.pick [1, 2, 3, 0, 4, 5, 6, 7] rfl (by decide))
           clear H26001
           have HC := HC2
           clear HC2
          rotate_left
         |skip
          have hmk := mk2
          have hmk := mk4
          have hmk := mk7
          have hmk := mk9
          have hmk := mk13
          have hmk := mk25
          fail_if_success (have hmk := mk15)
          fail_if_success (have hmk := mk24)
          refine wpAnyH_ready (rs := [15, 24]) (by kernel_rfl) (by simp) (AllReadyH.cons (o := _) rfl (fun K hK => ?_) (AllReadyH.cons (o := _) rfl (fun K hK => ?_) AllReadyH.nil))
          focus
           go_simp
           go_at_call 10
           refine (nextB_any B K3 _ _ (by omega) (HC.out.tapeAt 6 rfl)).mono ?_
           rintro e w16001 ⟨x16000, rfl, x16000a, x16000b, htn, hgn, hsn⟩
           have H16002 := hid (HC.out.next 6 rfl htn hgn)
           clear htn hgn hsn
           refine hK.out _ _ ?_ (fun hHeld2 => ?_)
           focus ((try dsimp only); (exact ⟨H16002.out.cell 1 rfl 0 rfl, H16002.out.cell 1 rfl 1 rfl, H16002.out.cell 1 rfl 2 rfl, H16002.out.cell 1 rfl 3 rfl⟩))
           clear hK K
           try simp only [Act.put, p1, p2, p3, p4, p5, p6]
           clear hHeld
           have hHeld := hHeld2
           clear hHeld2
           have mk15 := hid True.intro
           obtain ⟨WC, hWC⟩ : ∃ x, x = w16001 := ⟨_, rfl⟩
           subst hWC
           have HC2 := hid (show St B W [.cells B #[.int .i64 r0, .int .i64 r1, .int .i64 r2, .int .i64 r3] 33, .cells D12 #[.int .i64 pw9, .int .i64 ph9, .int .i64 pm9, .slice pv9a ps9.length pv9c] 35, .cells D26000 #[.int .i64 0, .int .i64 0, .int .i64 0, .int .i64 0] 33, .own (.slice pv9a ps9.length pv9c) ps9, .own (.slice wv10001a wl10002.length wv10001c) wl10002, .own (.slice wv5001a wl5002.length wv5001c) wl5002, .tape K3] [] WC from H16002.out)
           clear H16002
           have HC := HC2
           clear HC2
          rotate_left
          focus
           obtain ⟨D25000, hD25000⟩ : ∃ D, WC.heap.size = D := ⟨_, rfl⟩
           have H25001 := hid (HC.out.alloc #[.int .i64 0, .int .i64 0] 38 hD25000)
           go_simp
           refine hK.out _ _ ?_ (fun hHeld2 => ?_)
           focus ((try dsimp only); (exact ⟨H25001.out.cell 2 rfl 0 rfl, H25001.out.cell 2 rfl 1 rfl, H25001.out.cell 2 rfl 2 rfl, H25001.out.cell 2 rfl 3 rfl⟩))
           clear hK K hHeld
           try simp only [Act.put, p1, p2, p3, p4, p5, p6]
           clear hD25000
           generalize (WC.alloc (.cells #[.int .i64 0, .int .i64 0] 38)) = k25002 at *
           have hHeld := hHeld2
           clear hHeld2
           have mk24 := hid True.intro
           obtain ⟨WC, hWC⟩ : ∃ x, x = k25002 := ⟨_, rfl⟩
           subst hWC
           have HC2 := hid (show St B W [.cells B #[.int .i64 r0, .int .i64 r1, .int .i64 r2, .int .i64 r3] 33, .cells D12 #[.int .i64 pw9, .int .i64 ph9, .int .i64 pm9, .slice pv9a ps9.length pv9c] 35, .cells D25000 #[.int .i64 0, .int .i64 0] 38, .cells D26000 #[.int .i64 0, .int .i64 0, .int .i64 0, .int .i64 0] 33, .own (.slice pv9a ps9.length pv9c) ps9, .own (.slice wv10001a wl10002.length wv10001c) wl10002, .own (.slice wv5001a wl5002.length wv5001c) wl5002, .tape K3] [] WC from H25001.out.pick [1, 2, 0, 3, 4, 5, 6, 7] rfl (by decide))
           clear H25001
           have HC := HC2
           clear HC2
          rotate_left
         |skip
          have hmk := mk2
          have hmk := mk4
          have hmk := mk7
          have hmk := mk9
          have hmk := mk24
          have hmk := mk25
          fail_if_success (have hmk := mk13)
          fail_if_success (have hmk := mk15)
          refine wpAnyH_ready (rs := [13]) (by kernel_rfl) (by simp) (AllReadyH.cons (o := _) rfl (fun K hK => ?_) AllReadyH.nil)
          go_simp
          go_at_call 16
          refine (edge_any B K3 _ _ (HC.out.tapeAt 7 rfl)).mono ?_
          rintro e w14001 ⟨e14000_0, e14000_1, rfl, ht, hg⟩
          have H14002 := hid (HC.out.next 7 rfl ht hg)
          clear ht hg
          refine hK.out _ _ ?_ (fun hHeld2 => ?_)
          focus ((try dsimp only); (exact ⟨H14002.out.cell 1 rfl 0 rfl, H14002.out.cell 1 rfl 1 rfl, H14002.out.cell 1 rfl 2 rfl, H14002.out.cell 1 rfl 3 rfl⟩))
          clear hK K
          try simp only [Act.put, p1, p2, p3, p4, p5, p6]
          clear hHeld
          have hHeld := hHeld2
          clear hHeld2
          have mk13 := hid True.intro
          obtain ⟨WC, hWC⟩ : ∃ x, x = w14001 := ⟨_, rfl⟩
          subst hWC
          have HC2 := hid (show St B W [.cells B #[.int .i64 r0, .int .i64 r1, .int .i64 r2, .int .i64 r3] 33, .cells D12 #[.int .i64 pw9, .int .i64 ph9, .int .i64 pm9, .slice pv9a ps9.length pv9c] 35, .cells D25000 #[.int .i64 0, .int .i64 0] 38, .cells D26000 #[.int .i64 0, .int .i64 0, .int .i64 0, .int .i64 0] 33, .own (.slice pv9a ps9.length pv9c) ps9, .own (.slice wv10001a wl10002.length wv10001c) wl10002, .own (.slice wv5001a wl5002.length wv5001c) wl5002, .tape K3] [] WC from H14002.out)
          clear H14002
          have HC := HC2
          clear HC2
        all_goals
         first
         |skip
          have hmk := mk2
          have hmk := mk4
          have hmk := mk7
          have hmk := mk9
          have hmk := mk13
          have hmk := mk15
          have hmk := mk17
          fail_if_success (have hmk := mk24)
          fail_if_success (have hmk := mk25)
          refine wpAnyH_ready (rs := [23, 24, 25]) (by kernel_rfl) (by simp) (AllReadyH.cons (o := _) rfl (fun K hK => ?_) (AllReadyH.cons (o := _) rfl (fun K hK => ?_) (AllReadyH.cons (o := _) rfl (fun K hK => ?_) AllReadyH.nil)))
          focus
           go_simp
           go_at_call 17
           refine (within_any B K3 _ _ _ (by omega) (by omega) (by omega) (by omega) (HC.out.tapeAt 5 rfl)).mono ?_
           rintro e w24001 ⟨q24000_0, q24000_1, q24000_2, q24000_3, rfl, hq24000, ht, hg⟩
           have H24002 := hid (HC.out.next 5 rfl ht hg)
           have HWq24000 := hid hq24000
           clear hq24000 ht hg
           refine hK.out _ _ ?_ (fun hHeld2 => ?_)
           focus ((try dsimp only); (exact ⟨H24002.out.cell 1 rfl 0 rfl, H24002.out.cell 1 rfl 1 rfl, H24002.out.cell 1 rfl 2 rfl, H24002.out.cell 1 rfl 3 rfl⟩))
           clear hK K
           try simp only [Act.put, p1, p2, p3, p4, p5, p6]
           clear hHeld
           have hHeld := hHeld2
           clear hHeld2
           have mk23 := hid True.intro
           obtain ⟨WC, hWC⟩ : ∃ x, x = w24001 := ⟨_, rfl⟩
           subst hWC
           have HC2 := hid (show St B W [.cells B #[.int .i64 r0, .int .i64 r1, .int .i64 r2, .int .i64 r3] 33, .cells D12 #[.int .i64 pw9, .int .i64 ph9, .int .i64 pm9, .slice pv9a ps9.length pv9c] 35, .own (.slice pv9a ps9.length pv9c) ps9, .own (.slice wv10001a wl10002.length wv10001c) wl10002, .own (.slice wv5001a wl5002.length wv5001c) wl5002, .tape K3] [] WC from H24002.out)
           clear H24002
           have HC := HC2
           clear HC2
          rotate_left
          focus
           obtain ⟨D25000, hD25000⟩ : ∃ D, WC.heap.size = D := ⟨_, rfl⟩
           have H25001 := hid (HC.out.alloc #[.int .i64 0, .int .i64 0] 38 hD25000)
           go_simp
           refine hK.out _ _ ?_ (fun hHeld2 => ?_)
           focus ((try dsimp only); (exact ⟨H25001.out.cell 2 rfl 0 rfl, H25001.out.cell 2 rfl 1 rfl, H25001.out.cell 2 rfl 2 rfl, H25001.out.cell 2 rfl 3 rfl⟩))
           clear hK K hHeld
           try simp only [Act.put, p1, p2, p3, p4, p5, p6]
           clear hD25000
           generalize (WC.alloc (.cells #[.int .i64 0, .int .i64 0] 38)) = k25002 at *
           have hHeld := hHeld2
           clear hHeld2
           have mk24 := hid True.intro
           obtain ⟨WC, hWC⟩ : ∃ x, x = k25002 := ⟨_, rfl⟩
           subst hWC
           have HC2 := hid (show St B W [.cells B #[.int .i64 r0, .int .i64 r1, .int .i64 r2, .int .i64 r3] 33, .cells D12 #[.int .i64 pw9, .int .i64 ph9, .int .i64 pm9, .slice pv9a ps9.length pv9c] 35, .cells D25000 #[.int .i64 0, .int .i64 0] 38, .own (.slice pv9a ps9.length pv9c) ps9, .own (.slice wv10001a wl10002.length wv10001c) wl10002, .own (.slice wv5001a wl5002.length wv5001c) wl5002, .tape K3] [] WC from H25001.out.pick [1, 2, 0, 3, 4, 5, 6] rfl (by decide))
           clear H25001
           have HC := HC2
           clear HC2
          rotate_left
          focus
           obtain ⟨D26000, hD26000⟩ : ∃ D, WC.heap.size = D := ⟨_, rfl⟩
           have H26001 := hid (HC.out.alloc #[.int .i64 0, .int .i64 0, .int .i64 0, .int .i64 0] 33 hD26000)
           go_simp
           refine hK.out _ _ ?_ (fun hHeld2 => ?_)
           focus ((try dsimp only); (exact ⟨H26001.out.cell 2 rfl 0 rfl, H26001.out.cell 2 rfl 1 rfl, H26001.out.cell 2 rfl 2 rfl, H26001.out.cell 2 rfl 3 rfl⟩))
           clear hK K hHeld
           try simp only [Act.put, p1, p2, p3, p4, p5, p6]
           clear hD26000
           generalize (WC.alloc (.cells #[.int .i64 0, .int .i64 0, .int .i64 0, .int .i64 0] 33)) = k26002 at *
           have hHeld := hHeld2
           clear hHeld2
           have mk25 := hid True.intro
           obtain ⟨WC, hWC⟩ : ∃ x, x = k26002 := ⟨_, rfl⟩
           subst hWC
           have HC2 := hid (show St B W [.cells B #[.int .i64 r0, .int .i64 r1, .int .i64 r2, .int .i64 r3] 33, .cells D12 #[.int .i64 pw9, .int .i64 ph9, .int .i64 pm9, .slice pv9a ps9.length pv9c] 35, .cells D26000 #[.int .i64 0, .int .i64 0, .int .i64 0, .int .i64 0] 33, .own (.slice pv9a ps9.length pv9c) ps9, .own (.slice wv10001a wl10002.length wv10001c) wl10002, .own (.slice wv5001a wl5002.length wv5001c) wl5002, .tape K3] [] WC from H26001.out.pick [1, 2, 0, 3, 4, 5, 6] rfl (by decide))
           clear H26001
           have HC := HC2
           clear HC2
          rotate_left
         |skip
          have hmk := mk2
          have hmk := mk4
          have hmk := mk7
          have hmk := mk9
          have hmk := mk13
          have hmk := mk15
          have hmk := mk24
          fail_if_success (have hmk := mk17)
          fail_if_success (have hmk := mk25)
          refine wpAnyH_ready (rs := [17, 25]) (by kernel_rfl) (by simp) (AllReadyH.cons (o := _) rfl (fun K hK => ?_) (AllReadyH.cons (o := _) rfl (fun K hK => ?_) AllReadyH.nil))
          focus
           go_simp
           go_at_call 10
           refine (nextB_any B K3 _ _ (by omega) (HC.out.tapeAt 6 rfl)).mono ?_
           rintro e w18001 ⟨x18000, rfl, x18000a, x18000b, htn, hgn, hsn⟩
           have H18002 := hid (HC.out.next 6 rfl htn hgn)
           clear htn hgn hsn
           refine hK.out _ _ ?_ (fun hHeld2 => ?_)
           focus ((try dsimp only); (exact ⟨H18002.out.cell 1 rfl 0 rfl, H18002.out.cell 1 rfl 1 rfl, H18002.out.cell 1 rfl 2 rfl, H18002.out.cell 1 rfl 3 rfl⟩))
           clear hK K
           try simp only [Act.put, p1, p2, p3, p4, p5, p6]
           clear hHeld
           have hHeld := hHeld2
           clear hHeld2
           have mk17 := hid True.intro
           obtain ⟨WC, hWC⟩ : ∃ x, x = w18001 := ⟨_, rfl⟩
           subst hWC
           have HC2 := hid (show St B W [.cells B #[.int .i64 r0, .int .i64 r1, .int .i64 r2, .int .i64 r3] 33, .cells D12 #[.int .i64 pw9, .int .i64 ph9, .int .i64 pm9, .slice pv9a ps9.length pv9c] 35, .cells D25000 #[.int .i64 0, .int .i64 0] 38, .own (.slice pv9a ps9.length pv9c) ps9, .own (.slice wv10001a wl10002.length wv10001c) wl10002, .own (.slice wv5001a wl5002.length wv5001c) wl5002, .tape K3] [] WC from H18002.out)
           clear H18002
           have HC := HC2
           clear HC2
          rotate_left
          focus
           obtain ⟨D26000, hD26000⟩ : ∃ D, WC.heap.size = D := ⟨_, rfl⟩
           have H26001 := hid (HC.out.alloc #[.int .i64 0, .int .i64 0, .int .i64 0, .int .i64 0] 33 hD26000)
           go_simp
           refine hK.out _ _ ?_ (fun hHeld2 => ?_)
           focus ((try dsimp only); (exact ⟨H26001.out.cell 2 rfl 0 rfl, H26001.out.cell 2 rfl 1 rfl, H26001.out.cell 2 rfl 2 rfl, H26001.out.cell 2 rfl 3 rfl⟩))
           clear hK K hHeld
           try simp only [Act.put, p1, p2, p3, p4, p5, p6]
           clear hD26000
           generalize (WC.alloc (.cells #[.int .i64 0, .int .i64 0, .int .i64 0, .int .i64 0] 33)) = k26002 at *
           have hHeld := hHeld2
           clear hHeld2
           have mk25 := hid True.intro
           obtain ⟨WC, hWC⟩ : ∃ x, x = k26002 := ⟨_, rfl⟩
           subst hWC
           have HC2 := hid (show St B W [.cells B #[.int .i64 r0, .int .i64 r1, .int .i64 r2, .int .i64 r3] 33, .cells D12 #[.int .i64 pw9, .int .i64 ph9, .int .i64 pm9, .slice pv9a ps9.length pv9c] 35, .cells D25000 #[.int .i64 0, .int .i64 0] 38, .cells D26000 #[.int .i64 0, .int .i64 0, .int .i64 0, .int .i64 0] 33, .own (.slice pv9a ps9.length pv9c) ps9, .own (.slice wv10001a wl10002.length wv10001c) wl10002, .own (.slice wv5001a wl5002.length wv5001c) wl5002, .tape K3] [] WC from H26001.out.pick [1, 2, 3, 0, 4, 5, 6, 7] rfl (by decide))
           clear H26001
           have HC := HC2
           clear HC2
          rotate_left
         |skip
          have hmk := mk2
          have hmk := mk4
          have hmk := mk7
          have hmk := mk9
          have hmk := mk13
          have hmk := mk15
          have hmk := mk25
          fail_if_success (have hmk := mk17)
          fail_if_success (have hmk := mk24)
          refine wpAnyH_ready (rs := [17, 24]) (by kernel_rfl) (by simp) (AllReadyH.cons (o := _) rfl (fun K hK => ?_) (AllReadyH.cons (o := _) rfl (fun K hK => ?_) AllReadyH.nil))
          focus
           go_simp
           go_at_call 10
           refine (nextB_any B K3 _ _ (by omega) (HC.out.tapeAt 6 rfl)).mono ?_
           rintro e w18001 ⟨x18000, rfl, x18000a, x18000b, htn, hgn, hsn⟩
           have H18002 := hid (HC.out.next 6 rfl htn hgn)
           clear htn hgn hsn
           refine hK.out _ _ ?_ (fun hHeld2 => ?_)
           focus ((try dsimp only); (exact ⟨H18002.out.cell 1 rfl 0 rfl, H18002.out.cell 1 rfl 1 rfl, H18002.out.cell 1 rfl 2 rfl, H18002.out.cell 1 rfl 3 rfl⟩))
           clear hK K
           try simp only [Act.put, p1, p2, p3, p4, p5, p6]
           clear hHeld
           have hHeld := hHeld2
           clear hHeld2
           have mk17 := hid True.intro
           obtain ⟨WC, hWC⟩ : ∃ x, x = w18001 := ⟨_, rfl⟩
           subst hWC
           have HC2 := hid (show St B W [.cells B #[.int .i64 r0, .int .i64 r1, .int .i64 r2, .int .i64 r3] 33, .cells D12 #[.int .i64 pw9, .int .i64 ph9, .int .i64 pm9, .slice pv9a ps9.length pv9c] 35, .cells D26000 #[.int .i64 0, .int .i64 0, .int .i64 0, .int .i64 0] 33, .own (.slice pv9a ps9.length pv9c) ps9, .own (.slice wv10001a wl10002.length wv10001c) wl10002, .own (.slice wv5001a wl5002.length wv5001c) wl5002, .tape K3] [] WC from H18002.out)
           clear H18002
           have HC := HC2
           clear HC2
          rotate_left
          focus
           obtain ⟨D25000, hD25000⟩ : ∃ D, WC.heap.size = D := ⟨_, rfl⟩
           have H25001 := hid (HC.out.alloc #[.int .i64 0, .int .i64 0] 38 hD25000)
           go_simp
           refine hK.out _ _ ?_ (fun hHeld2 => ?_)
           focus ((try dsimp only); (exact ⟨H25001.out.cell 2 rfl 0 rfl, H25001.out.cell 2 rfl 1 rfl, H25001.out.cell 2 rfl 2 rfl, H25001.out.cell 2 rfl 3 rfl⟩))
           clear hK K hHeld
           try simp only [Act.put, p1, p2, p3, p4, p5, p6]
           clear hD25000
           generalize (WC.alloc (.cells #[.int .i64 0, .int .i64 0] 38)) = k25002 at *
           have hHeld := hHeld2
           clear hHeld2
           have mk24 := hid True.intro
           obtain ⟨WC, hWC⟩ : ∃ x, x = k25002 := ⟨_, rfl⟩
           subst hWC
           have HC2 := hid (show St B W [.cells B #[.int .i64 r0, .int .i64 r1, .int .i64 r2, .int .i64 r3] 33, .cells D12 #[.int .i64 pw9, .int .i64 ph9, .int .i64 pm9, .slice pv9a ps9.length pv9c] 35, .cells D25000 #[.int .i64 0, .int .i64 0] 38, .cells D26000 #[.int .i64 0, .int .i64 0, .int .i64 0, .int .i64 0] 33, .own (.slice pv9a ps9.length pv9c) ps9, .own (.slice wv10001a wl10002.length wv10001c) wl10002, .own (.slice wv5001a wl5002.length wv5001c) wl5002, .tape K3] [] WC from H25001.out.pick [1, 2, 0, 3, 4, 5, 6, 7] rfl (by decide))
           clear H25001
           have HC := HC2
           clear HC2
          rotate_left
         |skip
          have hmk := mk2
          have hmk := mk4
          have hmk := mk7
          have hmk := mk9
          have hmk := mk13
          have hmk := mk24
          have hmk := mk25
          fail_if_success (have hmk := mk15)
          fail_if_success (have hmk := mk17)
          refine wpAnyH_ready (rs := [15]) (by kernel_rfl) (by simp) (AllReadyH.cons (o := _) rfl (fun K hK => ?_) AllReadyH.nil)
          go_simp
          go_at_call 10
          refine (nextB_any B K3 _ _ (by omega) (HC.out.tapeAt 7 rfl)).mono ?_
          rintro e w16001 ⟨x16000, rfl, x16000a, x16000b, htn, hgn, hsn⟩
          have H16002 := hid (HC.out.next 7 rfl htn hgn)
          clear htn hgn hsn
          refine hK.out _ _ ?_ (fun hHeld2 => ?_)
          focus ((try dsimp only); (exact ⟨H16002.out.cell 1 rfl 0 rfl, H16002.out.cell 1 rfl 1 rfl, H16002.out.cell 1 rfl 2 rfl, H16002.out.cell 1 rfl 3 rfl⟩))
          clear hK K
          try simp only [Act.put, p1, p2, p3, p4, p5, p6]
          clear hHeld
          have hHeld := hHeld2
          clear hHeld2
          have mk15 := hid True.intro
          obtain ⟨WC, hWC⟩ : ∃ x, x = w16001 := ⟨_, rfl⟩
          subst hWC
          have HC2 := hid (show St B W [.cells B #[.int .i64 r0, .int .i64 r1, .int .i64 r2, .int .i64 r3] 33, .cells D12 #[.int .i64 pw9, .int .i64 ph9, .int .i64 pm9, .slice pv9a ps9.length pv9c] 35, .cells D25000 #[.int .i64 0, .int .i64 0] 38, .cells D26000 #[.int .i64 0, .int .i64 0, .int .i64 0, .int .i64 0] 33, .own (.slice pv9a ps9.length pv9c) ps9, .own (.slice wv10001a wl10002.length wv10001c) wl10002, .own (.slice wv5001a wl5002.length wv5001c) wl5002, .tape K3] [] WC from H16002.out)
          clear H16002
          have HC := HC2
          clear HC2
        all_goals
         first
         |skip
          have hmk := mk2
          have hmk := mk4
          have hmk := mk7
          have hmk := mk9
          have hmk := mk13
          have hmk := mk15
          have hmk := mk17
          have hmk := mk23
          fail_if_success (have hmk := mk24)
          fail_if_success (have hmk := mk25)
          refine wpAnyH_ready (rs := [24, 25]) (by kernel_rfl) (by simp) (AllReadyH.cons (o := _) rfl (fun K hK => ?_) (AllReadyH.cons (o := _) rfl (fun K hK => ?_) AllReadyH.nil))
          focus
           obtain ⟨D25000, hD25000⟩ : ∃ D, WC.heap.size = D := ⟨_, rfl⟩
           have H25001 := hid (HC.out.alloc #[.int .i64 0, .int .i64 0] 38 hD25000)
           go_simp
           refine hK.out _ _ ?_ (fun hHeld2 => ?_)
           focus ((try dsimp only); (exact ⟨H25001.out.cell 2 rfl 0 rfl, H25001.out.cell 2 rfl 1 rfl, H25001.out.cell 2 rfl 2 rfl, H25001.out.cell 2 rfl 3 rfl⟩))
           clear hK K hHeld
           try simp only [Act.put, p1, p2, p3, p4, p5, p6]
           clear hD25000
           generalize (WC.alloc (.cells #[.int .i64 0, .int .i64 0] 38)) = k25002 at *
           have hHeld := hHeld2
           clear hHeld2
           have mk24 := hid True.intro
           obtain ⟨WC, hWC⟩ : ∃ x, x = k25002 := ⟨_, rfl⟩
           subst hWC
           have HC2 := hid (show St B W [.cells B #[.int .i64 r0, .int .i64 r1, .int .i64 r2, .int .i64 r3] 33, .cells D12 #[.int .i64 pw9, .int .i64 ph9, .int .i64 pm9, .slice pv9a ps9.length pv9c] 35, .cells D25000 #[.int .i64 0, .int .i64 0] 38, .own (.slice pv9a ps9.length pv9c) ps9, .own (.slice wv10001a wl10002.length wv10001c) wl10002, .own (.slice wv5001a wl5002.length wv5001c) wl5002, .tape K3] [] WC from H25001.out.pick [1, 2, 0, 3, 4, 5, 6] rfl (by decide))
           clear H25001
           have HC := HC2
           clear HC2
          rotate_left
          focus
           obtain ⟨D26000, hD26000⟩ : ∃ D, WC.heap.size = D := ⟨_, rfl⟩
           have H26001 := hid (HC.out.alloc #[.int .i64 0, .int .i64 0, .int .i64 0, .int .i64 0] 33 hD26000)
           go_simp
           refine hK.out _ _ ?_ (fun hHeld2 => ?_)
           focus ((try dsimp only); (exact ⟨H26001.out.cell 2 rfl 0 rfl, H26001.out.cell 2 rfl 1 rfl, H26001.out.cell 2 rfl 2 rfl, H26001.out.cell 2 rfl 3 rfl⟩))
           clear hK K hHeld
           try simp only [Act.put, p1, p2, p3, p4, p5, p6]
           clear hD26000
           generalize (WC.alloc (.cells #[.int .i64 0, .int .i64 0, .int .i64 0, .int .i64 0] 33)) = k26002 at *
           have hHeld := hHeld2
           clear hHeld2
           have mk25 := hid True.intro
           obtain ⟨WC, hWC⟩ : ∃ x, x = k26002 := ⟨_, rfl⟩
           subst hWC
           have HC2 := hid (show St B W [.cells B #[.int .i64 r0, .int .i64 r1, .int .i64 r2, .int .i64 r3] 33, .cells D12 #[.int .i64 pw9, .int .i64 ph9, .int .i64 pm9, .slice pv9a ps9.length pv9c] 35, .cells D26000 #[.int .i64 0, .int .i64 0, .int .i64 0, .int .i64 0] 33, .own (.slice pv9a ps9.length pv9c) ps9, .own (.slice wv10001a wl10002.length wv10001c) wl10002, .own (.slice wv5001a wl5002.length wv5001c) wl5002, .tape K3] [] WC from H26001.out.pick [1, 2, 0, 3, 4, 5, 6] rfl (by decide))
           clear H26001
           have HC := HC2
           clear HC2
          rotate_left
         |skip
          have hmk := mk2
          have hmk := mk4
          have hmk := mk7
          have hmk := mk9
          have hmk := mk13
          have hmk := mk15
          have hmk := mk17
          have hmk := mk24
          fail_if_success (have hmk := mk23)
          fail_if_success (have hmk := mk25)
          refine wpAnyH_ready (rs := [23, 25]) (by kernel_rfl) (by simp) (AllReadyH.cons (o := _) rfl (fun K hK => ?_) (AllReadyH.cons (o := _) rfl (fun K hK => ?_) AllReadyH.nil))
          focus
           go_simp
           go_at_call 17
           refine (within_any B K3 _ _ _ (by omega) (by omega) (by omega) (by omega) (HC.out.tapeAt 6 rfl)).mono ?_
           rintro e w24001 ⟨q24000_0, q24000_1, q24000_2, q24000_3, rfl, hq24000, ht, hg⟩
           have H24002 := hid (HC.out.next 6 rfl ht hg)
           have HWq24000 := hid hq24000
           clear hq24000 ht hg
           refine hK.out _ _ ?_ (fun hHeld2 => ?_)
           focus ((try dsimp only); (exact ⟨H24002.out.cell 1 rfl 0 rfl, H24002.out.cell 1 rfl 1 rfl, H24002.out.cell 1 rfl 2 rfl, H24002.out.cell 1 rfl 3 rfl⟩))
           clear hK K
           try simp only [Act.put, p1, p2, p3, p4, p5, p6]
           clear hHeld
           have hHeld := hHeld2
           clear hHeld2
           have mk23 := hid True.intro
           obtain ⟨WC, hWC⟩ : ∃ x, x = w24001 := ⟨_, rfl⟩
           subst hWC
           have HC2 := hid (show St B W [.cells B #[.int .i64 r0, .int .i64 r1, .int .i64 r2, .int .i64 r3] 33, .cells D12 #[.int .i64 pw9, .int .i64 ph9, .int .i64 pm9, .slice pv9a ps9.length pv9c] 35, .cells D25000 #[.int .i64 0, .int .i64 0] 38, .own (.slice pv9a ps9.length pv9c) ps9, .own (.slice wv10001a wl10002.length wv10001c) wl10002, .own (.slice wv5001a wl5002.length wv5001c) wl5002, .tape K3] [] WC from H24002.out)
           clear H24002
           have HC := HC2
           clear HC2
          rotate_left
          focus
           obtain ⟨D26000, hD26000⟩ : ∃ D, WC.heap.size = D := ⟨_, rfl⟩
           have H26001 := hid (HC.out.alloc #[.int .i64 0, .int .i64 0, .int .i64 0, .int .i64 0] 33 hD26000)
           go_simp
           refine hK.out _ _ ?_ (fun hHeld2 => ?_)
           focus ((try dsimp only); (exact ⟨H26001.out.cell 2 rfl 0 rfl, H26001.out.cell 2 rfl 1 rfl, H26001.out.cell 2 rfl 2 rfl, H26001.out.cell 2 rfl 3 rfl⟩))
           clear hK K hHeld
           try simp only [Act.put, p1, p2, p3, p4, p5, p6]
           clear hD26000
           generalize (WC.alloc (.cells #[.int .i64 0, .int .i64 0, .int .i64 0, .int .i64 0] 33)) = k26002 at *
           have hHeld := hHeld2
           clear hHeld2
           have mk25 := hid True.intro
           obtain ⟨WC, hWC⟩ : ∃ x, x = k26002 := ⟨_, rfl⟩
           subst hWC
           have HC2 := hid (show St B W [.cells B #[.int .i64 r0, .int .i64 r1, .int .i64 r2, .int .i64 r3] 33, .cells D12 #[.int .i64 pw9, .int .i64 ph9, .int .i64 pm9, .slice pv9a ps9.length pv9c] 35, .cells D25000 #[.int .i64 0, .int .i64 0] 38, .cells D26000 #[.int .i64 0, .int .i64 0, .int .i64 0, .int .i64 0] 33, .own (.slice pv9a ps9.length pv9c) ps9, .own (.slice wv10001a wl10002.length wv10001c) wl10002, .own (.slice wv5001a wl5002.length wv5001c) wl5002, .tape K3] [] WC from H26001.out.pick [1, 2, 3, 0, 4, 5, 6, 7] rfl (by decide))
           clear H26001
           have HC := HC2
           clear HC2
          rotate_left
         |skip
          have hmk := mk2
          have hmk := mk4
          have hmk := mk7
          have hmk := mk9
          have hmk := mk13
          have hmk := mk15
          have hmk := mk17
          have hmk := mk25
          fail_if_success (have hmk := mk23)
          fail_if_success (have hmk := mk24)
          refine wpAnyH_ready (rs := [23, 24]) (by kernel_rfl) (by simp) (AllReadyH.cons (o := _) rfl (fun K hK => ?_) (AllReadyH.cons (o := _) rfl (fun K hK => ?_) AllReadyH.nil))
          focus
           go_simp
           go_at_call 17
           refine (within_any B K3 _ _ _ (by omega) (by omega) (by omega) (by omega) (HC.out.tapeAt 6 rfl)).mono ?_
           rintro e w24001 ⟨q24000_0, q24000_1, q24000_2, q24000_3, rfl, hq24000, ht, hg⟩
           have H24002 := hid (HC.out.next 6 rfl ht hg)
           have HWq24000 := hid hq24000
           clear hq24000 ht hg
           refine hK.out _ _ ?_ (fun hHeld2 => ?_)
           focus ((try dsimp only); (exact ⟨H24002.out.cell 1 rfl 0 rfl, H24002.out.cell 1 rfl 1 rfl, H24002.out.cell 1 rfl 2 rfl, H24002.out.cell 1 rfl 3 rfl⟩))
           clear hK K
           try simp only [Act.put, p1, p2, p3, p4, p5, p6]
           clear hHeld
           have hHeld := hHeld2
           clear hHeld2
           have mk23 := hid True.intro
           obtain ⟨WC, hWC⟩ : ∃ x, x = w24001 := ⟨_, rfl⟩
           subst hWC
           have HC2 := hid (show St B W [.cells B #[.int .i64 r0, .int .i64 r1, .int .i64 r2, .int .i64 r3] 33, .cells D12 #[.int .i64 pw9, .int .i64 ph9, .int .i64 pm9, .slice pv9a ps9.length pv9c] 35, .cells D26000 #[.int .i64 0, .int .i64 0, .int .i64 0, .int .i64 0] 33, .own (.slice pv9a ps9.length pv9c) ps9, .own (.slice wv10001a wl10002.length wv10001c) wl10002, .own (.slice wv5001a wl5002.length wv5001c) wl5002, .tape K3] [] WC from H24002.out)
           clear H24002
           have HC := HC2
           clear HC2
          rotate_left
          focus
           obtain ⟨D25000, hD25000⟩ : ∃ D, WC.heap.size = D := ⟨_, rfl⟩
           have H25001 := hid (HC.out.alloc #[.int .i64 0, .int .i64 0] 38 hD25000)
           go_simp
           refine hK.out _ _ ?_ (fun hHeld2 => ?_)
           focus ((try dsimp only); (exact ⟨H25001.out.cell 2 rfl 0 rfl, H25001.out.cell 2 rfl 1 rfl, H25001.out.cell 2 rfl 2 rfl, H25001.out.cell 2 rfl 3 rfl⟩))
           clear hK K hHeld
           try simp only [Act.put, p1, p2, p3, p4, p5, p6]
           clear hD25000
           generalize (WC.alloc (.cells #[.int .i64 0, .int .i64 0] 38)) = k25002 at *
           have hHeld := hHeld2
           clear hHeld2
           have mk24 := hid True.intro
           obtain ⟨WC, hWC⟩ : ∃ x, x = k25002 := ⟨_, rfl⟩
           subst hWC
           have HC2 := hid (show St B W [.cells B #[.int .i64 r0, .int .i64 r1, .int .i64 r2, .int .i64 r3] 33, .cells D12 #[.int .i64 pw9, .int .i64 ph9, .int .i64 pm9, .slice pv9a ps9.length pv9c] 35, .cells D25000 #[.int .i64 0, .int .i64 0] 38, .cells D26000 #[.int .i64 0, .int .i64 0, .int .i64 0, .int .i64 0] 33, .own (.slice pv9a ps9.length pv9c) ps9, .own (.slice wv10001a wl10002.length wv10001c) wl10002, .own (.slice wv5001a wl5002.length wv5001c) wl5002, .tape K3] [] WC from H25001.out.pick [1, 2, 0, 3, 4, 5, 6, 7] rfl (by decide))
           clear H25001
           have HC := HC2
           clear HC2
          rotate_left
         |skip
          have hmk := mk2
          have hmk := mk4
          have hmk := mk7
          have hmk := mk9
          have hmk := mk13
          have hmk := mk15
          have hmk := mk24
          have hmk := mk25
          fail_if_success (have hmk := mk17)
          fail_if_success (have hmk := mk23)
          refine wpAnyH_ready (rs := [17]) (by kernel_rfl) (by simp) (AllReadyH.cons (o := _) rfl (fun K hK => ?_) AllReadyH.nil)
          go_simp
          go_at_call 10
          refine (nextB_any B K3 _ _ (by omega) (HC.out.tapeAt 7 rfl)).mono ?_
          rintro e w18001 ⟨x18000, rfl, x18000a, x18000b, htn, hgn, hsn⟩
          have H18002 := hid (HC.out.next 7 rfl htn hgn)
          clear htn hgn hsn
          refine hK.out _ _ ?_ (fun hHeld2 => ?_)
          focus ((try dsimp only); (exact ⟨H18002.out.cell 1 rfl 0 rfl, H18002.out.cell 1 rfl 1 rfl, H18002.out.cell 1 rfl 2 rfl, H18002.out.cell 1 rfl 3 rfl⟩))
          clear hK K
          try simp only [Act.put, p1, p2, p3, p4, p5, p6]
          clear hHeld
          have hHeld := hHeld2
          clear hHeld2
          have mk17 := hid True.intro
          obtain ⟨WC, hWC⟩ : ∃ x, x = w18001 := ⟨_, rfl⟩
          subst hWC
          have HC2 := hid (show St B W [.cells B #[.int .i64 r0, .int .i64 r1, .int .i64 r2, .int .i64 r3] 33, .cells D12 #[.int .i64 pw9, .int .i64 ph9, .int .i64 pm9, .slice pv9a ps9.length pv9c] 35, .cells D25000 #[.int .i64 0, .int .i64 0] 38, .cells D26000 #[.int .i64 0, .int .i64 0, .int .i64 0, .int .i64 0] 33, .own (.slice pv9a ps9.length pv9c) ps9, .own (.slice wv10001a wl10002.length wv10001c) wl10002, .own (.slice wv5001a wl5002.length wv5001c) wl5002, .tape K3] [] WC from H18002.out)
          clear H18002
          have HC := HC2
          clear HC2
        all_goals
         first
         |skip
          have hmk := mk2
          have hmk := mk4
          have hmk := mk7
          have hmk := mk9
          have hmk := mk13
          have hmk := mk15
          have hmk := mk17
          have hmk := mk23
          have hmk := mk24
          fail_if_success (have hmk := mk25)
          refine wpAnyH_ready (rs := [25]) (by kernel_rfl) (by simp) (AllReadyH.cons (o := _) rfl (fun K hK => ?_) AllReadyH.nil)
          obtain ⟨D26000, hD26000⟩ : ∃ D, WC.heap.size = D := ⟨_, rfl⟩
          have H26001 := hid (HC.out.alloc #[.int .i64 0, .int .i64 0, .int .i64 0, .int .i64 0] 33 hD26000)
          go_simp
          refine hK.out _ _ ?_ (fun hHeld2 => ?_)
          focus ((try dsimp only); (exact ⟨H26001.out.cell 2 rfl 0 rfl, H26001.out.cell 2 rfl 1 rfl, H26001.out.cell 2 rfl 2 rfl, H26001.out.cell 2 rfl 3 rfl⟩))
          clear hK K hHeld
          try simp only [Act.put, p1, p2, p3, p4, p5, p6]
          clear hD26000
          generalize (WC.alloc (.cells #[.int .i64 0, .int .i64 0, .int .i64 0, .int .i64 0] 33)) = k26002 at *
          have hHeld := hHeld2
          clear hHeld2
          have mk25 := hid True.intro
          refine tkA 26 ?_
          try simp only [Act.put, p1, p2, p3, p4, p5, p6]
          refine tkA 27 ?_
          try simp only [Act.put, p1, p2, p3, p4, p5, p6]
          obtain ⟨WC, hWC⟩ : ∃ x, x = k26002 := ⟨_, rfl⟩
          subst hWC
          have HC2 := hid (show St B W [.cells B #[.int .i64 r0, .int .i64 r1, .int .i64 r2, .int .i64 r3] 33, .cells D12 #[.int .i64 pw9, .int .i64 ph9, .int .i64 pm9, .slice pv9a ps9.length pv9c] 35, .cells D25000 #[.int .i64 0, .int .i64 0] 38, .cells D26000 #[.int .i64 0, .int .i64 0, .int .i64 0, .int .i64 0] 33, .own (.slice pv9a ps9.length pv9c) ps9, .own (.slice wv10001a wl10002.length wv10001c) wl10002, .own (.slice wv5001a wl5002.length wv5001c) wl5002, .tape K3] [] WC from H26001.out.pick [1, 2, 3, 0, 4, 5, 6, 7] rfl (by decide))
          clear H26001
          have HC := HC2
          clear HC2
         |skip
          have hmk := mk2
          have hmk := mk4
          have hmk := mk7
          have hmk := mk9
          have hmk := mk13
          have hmk := mk15
          have hmk := mk17
          have hmk := mk23
          have hmk := mk25
          fail_if_success (have hmk := mk24)
          refine wpAnyH_ready (rs := [24]) (by kernel_rfl) (by simp) (AllReadyH.cons (o := _) rfl (fun K hK => ?_) AllReadyH.nil)
          obtain ⟨D25000, hD25000⟩ : ∃ D, WC.heap.size = D := ⟨_, rfl⟩
          have H25001 := hid (HC.out.alloc #[.int .i64 0, .int .i64 0] 38 hD25000)
          go_simp
          refine hK.out _ _ ?_ (fun hHeld2 => ?_)
          focus ((try dsimp only); (exact ⟨H25001.out.cell 2 rfl 0 rfl, H25001.out.cell 2 rfl 1 rfl, H25001.out.cell 2 rfl 2 rfl, H25001.out.cell 2 rfl 3 rfl⟩))
          clear hK K hHeld
          try simp only [Act.put, p1, p2, p3, p4, p5, p6]
          clear hD25000
          generalize (WC.alloc (.cells #[.int .i64 0, .int .i64 0] 38)) = k25002 at *
          have hHeld := hHeld2
          clear hHeld2
          have mk24 := hid True.intro
          refine tkA 26 ?_
          try simp only [Act.put, p1, p2, p3, p4, p5, p6]
          refine tkA 27 ?_
          try simp only [Act.put, p1, p2, p3, p4, p5, p6]
          obtain ⟨WC, hWC⟩ : ∃ x, x = k25002 := ⟨_, rfl⟩
          subst hWC
          have HC2 := hid (show St B W [.cells B #[.int .i64 r0, .int .i64 r1, .int .i64 r2, .int .i64 r3] 33, .cells D12 #[.int .i64 pw9, .int .i64 ph9, .int .i64 pm9, .slice pv9a ps9.length pv9c] 35, .cells D25000 #[.int .i64 0, .int .i64 0] 38, .cells D26000 #[.int .i64 0, .int .i64 0, .int .i64 0, .int .i64 0] 33, .own (.slice pv9a ps9.length pv9c) ps9, .own (.slice wv10001a wl10002.length wv10001c) wl10002, .own (.slice wv5001a wl5002.length wv5001c) wl5002, .tape K3] [] WC from H25001.out.pick [1, 2, 0, 3, 4, 5, 6, 7] rfl (by decide))
          clear H25001
          have HC := HC2
          clear HC2
         |skip
          have hmk := mk2
          have hmk := mk4
          have hmk := mk7
          have hmk := mk9
          have hmk := mk13
          have hmk := mk15
          have hmk := mk17
          have hmk := mk24
          have hmk := mk25
          fail_if_success (have hmk := mk23)
          refine wpAnyH_ready (rs := [23]) (by kernel_rfl) (by simp) (AllReadyH.cons (o := _) rfl (fun K hK => ?_) AllReadyH.nil)
          go_simp
          go_at_call 17
          refine (within_any B K3 _ _ _ (by omega) (by omega) (by omega) (by omega) (HC.out.tapeAt 7 rfl)).mono ?_
          rintro e w24001 ⟨q24000_0, q24000_1, q24000_2, q24000_3, rfl, hq24000, ht, hg⟩
          have H24002 := hid (HC.out.next 7 rfl ht hg)
          have HWq24000 := hid hq24000
          clear hq24000 ht hg
          refine hK.out _ _ ?_ (fun hHeld2 => ?_)
          focus ((try dsimp only); (exact ⟨H24002.out.cell 1 rfl 0 rfl, H24002.out.cell 1 rfl 1 rfl, H24002.out.cell 1 rfl 2 rfl, H24002.out.cell 1 rfl 3 rfl⟩))
          clear hK K
          try simp only [Act.put, p1, p2, p3, p4, p5, p6]
          clear hHeld
          have hHeld := hHeld2
          clear hHeld2
          have mk23 := hid True.intro
          refine tkA 26 ?_
          try simp only [Act.put, p1, p2, p3, p4, p5, p6]
          refine tkA 27 ?_
          try simp only [Act.put, p1, p2, p3, p4, p5, p6]
          obtain ⟨WC, hWC⟩ : ∃ x, x = w24001 := ⟨_, rfl⟩
          subst hWC
          have HC2 := hid (show St B W [.cells B #[.int .i64 r0, .int .i64 r1, .int .i64 r2, .int .i64 r3] 33, .cells D12 #[.int .i64 pw9, .int .i64 ph9, .int .i64 pm9, .slice pv9a ps9.length pv9c] 35, .cells D25000 #[.int .i64 0, .int .i64 0] 38, .cells D26000 #[.int .i64 0, .int .i64 0, .int .i64 0, .int .i64 0] 33, .own (.slice pv9a ps9.length pv9c) ps9, .own (.slice wv10001a wl10002.length wv10001c) wl10002, .own (.slice wv5001a wl5002.length wv5001c) wl5002, .tape K3] [] WC from H24002.out)
          clear H24002
          have HC := HC2
          clear HC2
        all_goals
         first
         |skip
          have hmk := mk2
          have hmk := mk4
          have hmk := mk7
          have hmk := mk9
          have hmk := mk13
          have hmk := mk15
          have hmk := mk17
          have hmk := mk23
          have hmk := mk24
          have hmk := mk25
          refine wpAnyH_ready (rs := [28]) (by kernel_rfl) (by simp) (AllReadyH.cons (o := _) rfl (fun K hK => ?_) AllReadyH.nil)
          have z29000 := HC.out.cell 2 rfl 0 rfl
          have z29001 := HC.out.free 2 rfl 0
          have z29002 := HC.out.cell 2 rfl 1 rfl
          have z29003 := HC.out.free 2 rfl 1
          have H29004 := hid (show St B W [.cells B #[.int .i64 r0, .int .i64 r1, .int .i64 r2, .int .i64 r3] 33, .cells D12 #[.int .i64 pw9, .int .i64 ph9, .int .i64 pm9, .slice pv9a ps9.length pv9c] 35, .cells D25000 #[.int .i64 e14000_0, .int .i64 e14000_1] 38, .cells D26000 #[.int .i64 0, .int .i64 0, .int .i64 0, .int .i64 0] 33, .own (.slice pv9a ps9.length pv9c) ps9, .own (.slice wv10001a wl10002.length wv10001c) wl10002, .own (.slice wv5001a wl5002.length wv5001c) wl5002, .tape K3] [] ((WC.setCell ⟨D25000, 0, none⟩ (.int .i64 e14000_0)).setCell ⟨D25000, 1, none⟩ (.int .i64 e14000_1)) from ((HC.out.set 2 rfl 0 (.int .i64 e14000_0)).set 2 rfl 1 (.int .i64 e14000_1)))
          go_simp
          refine hK.out _ _ ?_ (fun hHeld2 => ?_)
          focus ((try dsimp only); (exact ⟨H29004.out.cell 1 rfl 0 rfl, H29004.out.cell 1 rfl 1 rfl, H29004.out.cell 1 rfl 2 rfl, H29004.out.cell 1 rfl 3 rfl⟩))
          clear hK K hHeld
          try simp only [Act.put, p1, p2, p3, p4, p5, p6]
          clear z29000 z29001 z29002 z29003
          generalize ((WC.setCell ⟨D25000, 0, none⟩ (.int .i64 e14000_0)).setCell ⟨D25000, 1, none⟩ (.int .i64 e14000_1)) = k29005 at *
          have hHeld := hHeld2
          clear hHeld2
          have mk28 := hid True.intro
          refine tkA 29 ?_
          try simp only [Act.put, p1, p2, p3, p4, p5, p6]
          refine tkA 30 ?_
          try simp only [Act.put, p1, p2, p3, p4, p5, p6]
          obtain ⟨WC, hWC⟩ : ∃ x, x = k29005 := ⟨_, rfl⟩
          subst hWC
          have HC2 := hid (show St B W [.cells B #[.int .i64 r0, .int .i64 r1, .int .i64 r2, .int .i64 r3] 33, .cells D12 #[.int .i64 pw9, .int .i64 ph9, .int .i64 pm9, .slice pv9a ps9.length pv9c] 35, .cells D25000 #[.int .i64 e14000_0, .int .i64 e14000_1] 38, .cells D26000 #[.int .i64 0, .int .i64 0, .int .i64 0, .int .i64 0] 33, .own (.slice pv9a ps9.length pv9c) ps9, .own (.slice wv10001a wl10002.length wv10001c) wl10002, .own (.slice wv5001a wl5002.length wv5001c) wl5002, .tape K3] [] WC from H29004.out)
          clear H29004
          have HC := HC2
          clear HC2
        all_goals
         first
         |skip
          have hmk := mk2
          have hmk := mk4
          have hmk := mk7
          have hmk := mk9
          have hmk := mk13
          have hmk := mk15
          have hmk := mk17
          have hmk := mk23
          have hmk := mk24
          have hmk := mk25
          have hmk := mk28
          refine wpAnyH_ready (rs := [31]) (by kernel_rfl) (by simp) (AllReadyH.cons (o := _) rfl (fun K hK => ?_) AllReadyH.nil)
          have z32000 := HC.out.cell 3 rfl 0 rfl
          have z32001 := HC.out.free 3 rfl 0
          have z32002 := HC.out.cell 3 rfl 1 rfl
          have z32003 := HC.out.free 3 rfl 1
          have z32004 := HC.out.cell 3 rfl 2 rfl
          have z32005 := HC.out.free 3 rfl 2
          have z32006 := HC.out.cell 3 rfl 3 rfl
          have z32007 := HC.out.free 3 rfl 3
          have H32008 := hid (show St B W [.cells B #[.int .i64 r0, .int .i64 r1, .int .i64 r2, .int .i64 r3] 33, .cells D12 #[.int .i64 pw9, .int .i64 ph9, .int .i64 pm9, .slice pv9a ps9.length pv9c] 35, .cells D25000 #[.int .i64 e14000_0, .int .i64 e14000_1] 38, .cells D26000 #[.int .i64 q24000_0, .int .i64 q24000_1, .int .i64 q24000_2, .int .i64 q24000_3] 33, .own (.slice pv9a ps9.length pv9c) ps9, .own (.slice wv10001a wl10002.length wv10001c) wl10002, .own (.slice wv5001a wl5002.length wv5001c) wl5002, .tape K3] [] ((((WC.setCell ⟨D26000, 0, none⟩ (.int .i64 q24000_0)).setCell ⟨D26000, 1, none⟩ (.int .i64 q24000_1)).setCell ⟨D26000, 2, none⟩ (.int .i64 q24000_2)).setCell ⟨D26000, 3, none⟩ (.int .i64 q24000_3)) from (HC.out.set4 3 rfl (.int .i64 q24000_0) (.int .i64 q24000_1) (.int .i64 q24000_2) (.int .i64 q24000_3)))
          go_simp
          refine hK.out _ _ ?_ (fun hHeld2 => ?_)
          focus ((try dsimp only); (exact ⟨H32008.out.cell 1 rfl 0 rfl, H32008.out.cell 1 rfl 1 rfl, H32008.out.cell 1 rfl 2 rfl, H32008.out.cell 1 rfl 3 rfl⟩))
          clear hK K hHeld
          try simp only [Act.put, p1, p2, p3, p4, p5, p6]
          clear z32000 z32001 z32002 z32003 z32004 z32005 z32006 z32007
          generalize ((((WC.setCell ⟨D26000, 0, none⟩ (.int .i64 q24000_0)).setCell ⟨D26000, 1, none⟩ (.int .i64 q24000_1)).setCell ⟨D26000, 2, none⟩ (.int .i64 q24000_2)).setCell ⟨D26000, 3, none⟩ (.int .i64 q24000_3)) = k32009 at *
          have hHeld := hHeld2
          clear hHeld2
          have mk31 := hid True.intro
          obtain ⟨WC, hWC⟩ : ∃ x, x = k32009 := ⟨_, rfl⟩
          subst hWC
          have HC2 := hid (show St B W [.cells B #[.int .i64 r0, .int .i64 r1, .int .i64 r2, .int .i64 r3] 33, .cells D12 #[.int .i64 pw9, .int .i64 ph9, .int .i64 pm9, .slice pv9a ps9.length pv9c] 35, .cells D25000 #[.int .i64 e14000_0, .int .i64 e14000_1] 38, .cells D26000 #[.int .i64 q24000_0, .int .i64 q24000_1, .int .i64 q24000_2, .int .i64 q24000_3] 33, .own (.slice pv9a ps9.length pv9c) ps9, .own (.slice wv10001a wl10002.length wv10001c) wl10002, .own (.slice wv5001a wl5002.length wv5001c) wl5002, .tape K3] [] WC from H32008.out)
          clear H32008
          have HC := HC2
          clear HC2
        all_goals
         refine wpAnyH_done (by kernel_rfl) ?_ _
         try clear hHeld
         go_wp2_with fail
         go_meet
         exact ⟨D25000, D26000, _, _, _, _, _, _, _, _, _, _, _, _, _, _, rfl, rfl, rfl, rfl, rfl, rfl, HC.out.pick [6, 5, 2, 3, 1, 4, 7, 0] rfl (by decide)⟩
   case rest =>
    obtain ⟨RE, RQ, wla, wlc, wls, vla, vlc, vls, ep, ef, sh, sv, q0, q1, q2, q3, rfl, rfl, rfl, rfl, rfl, rfl, hst⟩ := hcut
    obtain ⟨u1000017, rfl⟩ : ∃ u1000017 : World, u1000017 = wc := ⟨_, rfl⟩
    have H1000018 := hid hst
    clear hst
    go_upto_if 51 with fail
    go_cut [] (fun wx => ∃ (y0 y1 y2 y3 : Int), St B W [.cells RQ #[.int .i64 y0, .int .i64 y1, .int .i64 y2, .int .i64 y3] 33, .own (.slice wla wls.length wlc) wls, .own (.slice vla vls.length vlc) vls, .cells RE #[.int .i64 ep, .int .i64 ef] 38, .cells D12 #[.int .i64 pw9, .int .i64 ph9, .int .i64 pm9, .slice pv9a ps9.length pv9c] 35, .own (.slice pv9a ps9.length pv9c) ps9, .tape K3, .cells B #[.int .i64 r0, .int .i64 r1, .int .i64 r2, .int .i64 r3] 33] [] wx)
    case first =>
     by_cases hN : j = 2
     ·skip
      subst hN
      go_upto_region 8 with fail
      have H1000019 := hid H1000018.out.drew
      refine wp_region_held_drew (S := (fun w' => w'.cell? ⟨B, 0, none⟩ = some (.int .i64 r0) ∧ w'.cell? ⟨B, 1, none⟩ = some (.int .i64 r1) ∧ w'.cell? ⟨B, 2, none⟩ = some (.int .i64 r2) ∧ w'.cell? ⟨B, 3, none⟩ = some (.int .i64 r3))) (by kernel_rfl) ⟨H1000019.out.cell 7 rfl 0 rfl, H1000019.out.cell 7 rfl 1 rfl, H1000019.out.cell 7 rfl 2 rfl, H1000019.out.cell 7 rfl 3 rfl⟩ (fun hHeld => ?_)
      generalize u1000017.drew = k1000020 at *
      refine tkA 0 ?_
      try simp only [Act.put, p1, p2, p3, p4, p5, p6]
      refine tkA 1 ?_
      try simp only [Act.put, p1, p2, p3, p4, p5, p6]
      refine tkA 4 ?_
      try simp only [Act.put, p1, p2, p3, p4, p5, p6]
      refine wpAnyH_ready (rs := [2]) (by kernel_rfl) (by simp) (AllReadyH.cons (o := _) rfl (fun K hK => ?_) AllReadyH.nil)
      go_simp
      go_at_call 18
      refine (rectB_any B K3 _ (H1000019.out.tapeAt 6 rfl)).mono ?_
      rintro e w1000022 ⟨r1000021_0, r1000021_1, r1000021_2, r1000021_3, rfl, ht, hg⟩
      have H1000023 := hid (H1000019.out.next 6 rfl ht hg)
      clear ht hg
      refine hK.out _ _ ?_ (fun hHeld2 => ?_)
      focus ((try dsimp only); (exact ⟨H1000023.out.cell 7 rfl 0 rfl, H1000023.out.cell 7 rfl 1 rfl, H1000023.out.cell 7 rfl 2 rfl, H1000023.out.cell 7 rfl 3 rfl⟩))
      clear hK K
      try simp only [Act.put, p1, p2, p3, p4, p5, p6]
      clear hHeld
      have hHeld := hHeld2
      clear hHeld2
      refine wpAnyH_ready (rs := [3, 5]) (by kernel_rfl) (by simp) (AllReadyH.cons (o := _) rfl (fun K hK => ?_) (AllReadyH.cons (o := _) rfl (fun K hK => ?_) AllReadyH.nil))
      ·obtain ⟨D1000024, hD1000024⟩ : ∃ D, w1000022.heap.size = D := ⟨_, rfl⟩
       have H1000025 := hid (H1000023.out.alloc #[.int .i64 r0, .int .i64 r1, .int .i64 r2, .int .i64 r3, .int .i64 r1000021_0, .int .i64 r1000021_1, .int .i64 r1000021_2, .int .i64 r1000021_3] 33 hD1000024)
       go_simp
       refine hK.out _ _ ?_ (fun hHeld2 => ?_)
       focus ((try dsimp only); (exact ⟨H1000025.out.cell 8 rfl 0 rfl, H1000025.out.cell 8 rfl 1 rfl, H1000025.out.cell 8 rfl 2 rfl, H1000025.out.cell 8 rfl 3 rfl⟩))
       clear hK K hHeld
       try simp only [Act.put, p1, p2, p3, p4, p5, p6]
       clear hD1000024
       generalize (w1000022.alloc (.cells #[.int .i64 r0, .int .i64 r1, .int .i64 r2, .int .i64 r3, .int .i64 r1000021_0, .int .i64 r1000021_1, .int .i64 r1000021_2, .int .i64 r1000021_3] 33)) = k1000026 at *
       have hHeld := hHeld2
       clear hHeld2
       refine wpAnyH_ready (rs := [5]) (by kernel_rfl) (by simp) (AllReadyH.cons (o := _) rfl (fun K hK => ?_) AllReadyH.nil)
       go_simp
       go_at_call 10
       refine (nextB_any B K3 _ _ (by omega) (H1000025.out.tapeAt 7 rfl)).mono ?_
       rintro e w1000028 ⟨x1000027, rfl, x1000027a, x1000027b, htn, hgn, hsn⟩
       have H1000029 := hid (H1000025.out.next 7 rfl htn hgn)
       clear htn hgn hsn
       refine hK.out _ _ ?_ (fun hHeld2 => ?_)
       focus ((try dsimp only); (exact ⟨H1000029.out.cell 8 rfl 0 rfl, H1000029.out.cell 8 rfl 1 rfl, H1000029.out.cell 8 rfl 2 rfl, H1000029.out.cell 8 rfl 3 rfl⟩))
       clear hK K
       try simp only [Act.put, p1, p2, p3, p4, p5, p6]
       clear hHeld
       have hHeld := hHeld2
       clear hHeld2
       rcases (show x1000027 = 0 ∨ x1000027 = 1 by omega) with hx0 | hx0
       ·skip
        subst hx0
        refine tkA 6 ?_
        try simp only [Act.put, p1, p2, p3, p4, p5, p6]
        refine wpAnyH_ready (rs := [7]) (by kernel_rfl) (by simp) (AllReadyH.cons (o := _) rfl (fun K hK => ?_) AllReadyH.nil)
        have g1000030 := H1000029.out.cell 0 rfl 0 rfl
        have g1000031 := H1000029.out.cell 0 rfl 1 rfl
        have g1000032 := H1000029.out.cell 0 rfl 2 rfl
        have g1000033 := H1000029.out.cell 0 rfl 3 rfl
        go_simp
        refine hK.out _ _ ?_ (fun hHeld2 => ?_)
        focus ((try dsimp only); (try exact hHeld))
        clear hK K
        try simp only [Act.put, p1, p2, p3, p4, p5, p6]
        clear hHeld2 g1000030 g1000031 g1000032 g1000033
        refine wpAnyH_ready (rs := [8]) (by kernel_rfl) (by simp) (AllReadyH.cons (o := _) rfl (fun K hK => ?_) AllReadyH.nil)
        have z1000034 := H1000029.out.cell 4 rfl 0 rfl
        have z1000035 := H1000029.out.free 4 rfl 0
        have z1000036 := H1000029.out.cell 4 rfl 1 rfl
        have z1000037 := H1000029.out.free 4 rfl 1
        have z1000038 := H1000029.out.cell 4 rfl 2 rfl
        have z1000039 := H1000029.out.free 4 rfl 2
        have z1000040 := H1000029.out.cell 4 rfl 3 rfl
        have z1000041 := H1000029.out.free 4 rfl 3
        have H1000042 := hid (show St B W [.cells D1000024 #[.int .i64 r0, .int .i64 r1, .int .i64 r2, .int .i64 r3, .int .i64 r1000021_0, .int .i64 r1000021_1, .int .i64 r1000021_2, .int .i64 r1000021_3] 33, .own (.slice wla wls.length wlc) wls, .own (.slice vla vls.length vlc) vls, .cells RE #[.int .i64 ep, .int .i64 ef] 38, .cells RQ #[.int .i64 r0, .int .i64 r1, .int .i64 r2, .int .i64 r3] 33, .cells D12 #[.int .i64 pw9, .int .i64 ph9, .int .i64 pm9, .slice pv9a ps9.length pv9c] 35, .own (.slice pv9a ps9.length pv9c) ps9, .tape K3, .cells B #[.int .i64 r0, .int .i64 r1, .int .i64 r2, .int .i64 r3] 33] [] ((((w1000028.setCell ⟨RQ, 0, none⟩ (.int .i64 r0)).setCell ⟨RQ, 1, none⟩ (.int .i64 r1)).setCell ⟨RQ, 2, none⟩ (.int .i64 r2)).setCell ⟨RQ, 3, none⟩ (.int .i64 r3)) from (H1000029.out.set4 4 rfl (.int .i64 r0) (.int .i64 r1) (.int .i64 r2) (.int .i64 r3)))
        go_simp
        refine hK.out _ _ ?_ (fun hHeld2 => ?_)
        focus ((try dsimp only); (exact ⟨H1000042.out.cell 8 rfl 0 rfl, H1000042.out.cell 8 rfl 1 rfl, H1000042.out.cell 8 rfl 2 rfl, H1000042.out.cell 8 rfl 3 rfl⟩))
        clear hK K hHeld
        try simp only [Act.put, p1, p2, p3, p4, p5, p6]
        clear z1000034 z1000035 z1000036 z1000037 z1000038 z1000039 z1000040 z1000041
        generalize ((((w1000028.setCell ⟨RQ, 0, none⟩ (.int .i64 r0)).setCell ⟨RQ, 1, none⟩ (.int .i64 r1)).setCell ⟨RQ, 2, none⟩ (.int .i64 r2)).setCell ⟨RQ, 3, none⟩ (.int .i64 r3)) = k1000043 at *
        have hHeld := hHeld2
        clear hHeld2
        refine wpAnyH_done (by kernel_rfl) ?_ _
        try clear hHeld
        go_wp2_with fail
        go_meet
        exact ⟨_, _, _, _, H1000042.out.pick [4, 1, 2, 3, 5, 6, 7, 8] rfl (by decide)⟩
       ·skip
        subst hx0
        refine tkA 6 ?_
        try simp only [Act.put, p1, p2, p3, p4, p5, p6]
        refine wpAnyH_ready (rs := [7]) (by kernel_rfl) (by simp) (AllReadyH.cons (o := _) rfl (fun K hK => ?_) AllReadyH.nil)
        have g1000044 := H1000029.out.cell 0 rfl 4 rfl
        have g1000045 := H1000029.out.cell 0 rfl 5 rfl
        have g1000046 := H1000029.out.cell 0 rfl 6 rfl
        have g1000047 := H1000029.out.cell 0 rfl 7 rfl
        go_simp
        refine hK.out _ _ ?_ (fun hHeld2 => ?_)
        focus ((try dsimp only); (try exact hHeld))
        clear hK K
        try simp only [Act.put, p1, p2, p3, p4, p5, p6]
        clear hHeld2 g1000044 g1000045 g1000046 g1000047
        refine wpAnyH_ready (rs := [8]) (by kernel_rfl) (by simp) (AllReadyH.cons (o := _) rfl (fun K hK => ?_) AllReadyH.nil)
        have z1000048 := H1000029.out.cell 4 rfl 0 rfl
        have z1000049 := H1000029.out.free 4 rfl 0
        have z1000050 := H1000029.out.cell 4 rfl 1 rfl
        have z1000051 := H1000029.out.free 4 rfl 1
        have z1000052 := H1000029.out.cell 4 rfl 2 rfl
        have z1000053 := H1000029.out.free 4 rfl 2
        have z1000054 := H1000029.out.cell 4 rfl 3 rfl
        have z1000055 := H1000029.out.free 4 rfl 3
        have H1000056 := hid (show St B W [.cells D1000024 #[.int .i64 r0, .int .i64 r1, .int .i64 r2, .int .i64 r3, .int .i64 r1000021_0, .int .i64 r1000021_1, .int .i64 r1000021_2, .int .i64 r1000021_3] 33, .own (.slice wla wls.length wlc) wls, .own (.slice vla vls.length vlc) vls, .cells RE #[.int .i64 ep, .int .i64 ef] 38, .cells RQ #[.int .i64 r1000021_0, .int .i64 r1000021_1, .int .i64 r1000021_2, .int .i64 r1000021_3] 33, .cells D12 #[.int .i64 pw9, .int .i64 ph9, .int .i64 pm9, .slice pv9a ps9.length pv9c] 35, .own (.slice pv9a ps9.length pv9c) ps9, .tape K3, .cells B #[.int .i64 r0, .int .i64 r1, .int .i64 r2, .int .i64 r3] 33] [] ((((w1000028.setCell ⟨RQ, 0, none⟩ (.int .i64 r1000021_0)).setCell ⟨RQ, 1, none⟩ (.int .i64 r1000021_1)).setCell ⟨RQ, 2, none⟩ (.int .i64 r1000021_2)).setCell ⟨RQ, 3, none⟩ (.int .i64 r1000021_3)) from (H1000029.out.set4 4 rfl (.int .i64 r1000021_0) (.int .i64 r1000021_1) (.int .i64 r1000021_2) (.int .i64 r1000021_3)))
        go_simp
        refine hK.out _ _ ?_ (fun hHeld2 => ?_)
        focus ((try dsimp only); (exact ⟨H1000056.out.cell 8 rfl 0 rfl, H1000056.out.cell 8 rfl 1 rfl, H1000056.out.cell 8 rfl 2 rfl, H1000056.out.cell 8 rfl 3 rfl⟩))
        clear hK K hHeld
        try simp only [Act.put, p1, p2, p3, p4, p5, p6]
        clear z1000048 z1000049 z1000050 z1000051 z1000052 z1000053 z1000054 z1000055
        generalize ((((w1000028.setCell ⟨RQ, 0, none⟩ (.int .i64 r1000021_0)).setCell ⟨RQ, 1, none⟩ (.int .i64 r1000021_1)).setCell ⟨RQ, 2, none⟩ (.int .i64 r1000021_2)).setCell ⟨RQ, 3, none⟩ (.int .i64 r1000021_3)) = k1000057 at *
        have hHeld := hHeld2
        clear hHeld2
        refine wpAnyH_done (by kernel_rfl) ?_ _
        try clear hHeld
        go_wp2_with fail
        go_meet
        exact ⟨_, _, _, _, H1000056.out.pick [4, 1, 2, 3, 5, 6, 7, 8] rfl (by decide)⟩
      ·go_simp
       go_at_call 10
       refine (nextB_any B K3 _ _ (by omega) (H1000023.out.tapeAt 6 rfl)).mono ?_
       rintro e w1000059 ⟨x1000058, rfl, x1000058a, x1000058b, htn, hgn, hsn⟩
       have H1000060 := hid (H1000023.out.next 6 rfl htn hgn)
       clear htn hgn hsn
       refine hK.out _ _ ?_ (fun hHeld2 => ?_)
       focus ((try dsimp only); (exact ⟨H1000060.out.cell 7 rfl 0 rfl, H1000060.out.cell 7 rfl 1 rfl, H1000060.out.cell 7 rfl 2 rfl, H1000060.out.cell 7 rfl 3 rfl⟩))
       clear hK K
       try simp only [Act.put, p1, p2, p3, p4, p5, p6]
       clear hHeld
       have hHeld := hHeld2
       clear hHeld2
       rcases (show x1000058 = 0 ∨ x1000058 = 1 by omega) with hx0 | hx0
       ·skip
        subst hx0
        refine wpAnyH_ready (rs := [3]) (by kernel_rfl) (by simp) (AllReadyH.cons (o := _) rfl (fun K hK => ?_) AllReadyH.nil)
        obtain ⟨D1000061, hD1000061⟩ : ∃ D, w1000059.heap.size = D := ⟨_, rfl⟩
        have H1000062 := hid (H1000060.out.alloc #[.int .i64 r0, .int .i64 r1, .int .i64 r2, .int .i64 r3, .int .i64 r1000021_0, .int .i64 r1000021_1, .int .i64 r1000021_2, .int .i64 r1000021_3] 33 hD1000061)
        go_simp
        refine hK.out _ _ ?_ (fun hHeld2 => ?_)
        focus ((try dsimp only); (exact ⟨H1000062.out.cell 8 rfl 0 rfl, H1000062.out.cell 8 rfl 1 rfl, H1000062.out.cell 8 rfl 2 rfl, H1000062.out.cell 8 rfl 3 rfl⟩))
        clear hK K hHeld
        try simp only [Act.put, p1, p2, p3, p4, p5, p6]
        clear hD1000061
        generalize (w1000059.alloc (.cells #[.int .i64 r0, .int .i64 r1, .int .i64 r2, .int .i64 r3, .int .i64 r1000021_0, .int .i64 r1000021_1, .int .i64 r1000021_2, .int .i64 r1000021_3] 33)) = k1000063 at *
        have hHeld := hHeld2
        clear hHeld2
        refine tkA 6 ?_
        try simp only [Act.put, p1, p2, p3, p4, p5, p6]
        refine wpAnyH_ready (rs := [7]) (by kernel_rfl) (by simp) (AllReadyH.cons (o := _) rfl (fun K hK => ?_) AllReadyH.nil)
        have g1000064 := H1000062.out.cell 0 rfl 0 rfl
        have g1000065 := H1000062.out.cell 0 rfl 1 rfl
        have g1000066 := H1000062.out.cell 0 rfl 2 rfl
        have g1000067 := H1000062.out.cell 0 rfl 3 rfl
        go_simp
        refine hK.out _ _ ?_ (fun hHeld2 => ?_)
        focus ((try dsimp only); (try exact hHeld))
        clear hK K
        try simp only [Act.put, p1, p2, p3, p4, p5, p6]
        clear hHeld2 g1000064 g1000065 g1000066 g1000067
        refine wpAnyH_ready (rs := [8]) (by kernel_rfl) (by simp) (AllReadyH.cons (o := _) rfl (fun K hK => ?_) AllReadyH.nil)
        have z1000068 := H1000062.out.cell 4 rfl 0 rfl
        have z1000069 := H1000062.out.free 4 rfl 0
        have z1000070 := H1000062.out.cell 4 rfl 1 rfl
        have z1000071 := H1000062.out.free 4 rfl 1
        have z1000072 := H1000062.out.cell 4 rfl 2 rfl
        have z1000073 := H1000062.out.free 4 rfl 2
        have z1000074 := H1000062.out.cell 4 rfl 3 rfl
        have z1000075 := H1000062.out.free 4 rfl 3
        have H1000076 := hid (show St B W [.cells D1000061 #[.int .i64 r0, .int .i64 r1, .int .i64 r2, .int .i64 r3, .int .i64 r1000021_0, .int .i64 r1000021_1, .int .i64 r1000021_2, .int .i64 r1000021_3] 33, .own (.slice wla wls.length wlc) wls, .own (.slice vla vls.length vlc) vls, .cells RE #[.int .i64 ep, .int .i64 ef] 38, .cells RQ #[.int .i64 r0, .int .i64 r1, .int .i64 r2, .int .i64 r3] 33, .cells D12 #[.int .i64 pw9, .int .i64 ph9, .int .i64 pm9, .slice pv9a ps9.length pv9c] 35, .own (.slice pv9a ps9.length pv9c) ps9, .tape K3, .cells B #[.int .i64 r0, .int .i64 r1, .int .i64 r2, .int .i64 r3] 33] [] ((((k1000063.setCell ⟨RQ, 0, none⟩ (.int .i64 r0)).setCell ⟨RQ, 1, none⟩ (.int .i64 r1)).setCell ⟨RQ, 2, none⟩ (.int .i64 r2)).setCell ⟨RQ, 3, none⟩ (.int .i64 r3)) from (H1000062.out.set4 4 rfl (.int .i64 r0) (.int .i64 r1) (.int .i64 r2) (.int .i64 r3)))
        go_simp
        refine hK.out _ _ ?_ (fun hHeld2 => ?_)
        focus ((try dsimp only); (exact ⟨H1000076.out.cell 8 rfl 0 rfl, H1000076.out.cell 8 rfl 1 rfl, H1000076.out.cell 8 rfl 2 rfl, H1000076.out.cell 8 rfl 3 rfl⟩))
        clear hK K hHeld
        try simp only [Act.put, p1, p2, p3, p4, p5, p6]
        clear z1000068 z1000069 z1000070 z1000071 z1000072 z1000073 z1000074 z1000075
        generalize ((((k1000063.setCell ⟨RQ, 0, none⟩ (.int .i64 r0)).setCell ⟨RQ, 1, none⟩ (.int .i64 r1)).setCell ⟨RQ, 2, none⟩ (.int .i64 r2)).setCell ⟨RQ, 3, none⟩ (.int .i64 r3)) = k1000077 at *
        have hHeld := hHeld2
        clear hHeld2
        refine wpAnyH_done (by kernel_rfl) ?_ _
        try clear hHeld
        go_wp2_with fail
        go_meet
        exact ⟨_, _, _, _, H1000076.out.pick [4, 1, 2, 3, 5, 6, 7, 8] rfl (by decide)⟩
       ·skip
        subst hx0
        refine wpAnyH_ready (rs := [3]) (by kernel_rfl) (by simp) (AllReadyH.cons (o := _) rfl (fun K hK => ?_) AllReadyH.nil)
        obtain ⟨D1000078, hD1000078⟩ : ∃ D, w1000059.heap.size = D := ⟨_, rfl⟩
        have H1000079 := hid (H1000060.out.alloc #[.int .i64 r0, .int .i64 r1, .int .i64 r2, .int .i64 r3, .int .i64 r1000021_0, .int .i64 r1000021_1, .int .i64 r1000021_2, .int .i64 r1000021_3] 33 hD1000078)
        go_simp
        refine hK.out _ _ ?_ (fun hHeld2 => ?_)
        focus ((try dsimp only); (exact ⟨H1000079.out.cell 8 rfl 0 rfl, H1000079.out.cell 8 rfl 1 rfl, H1000079.out.cell 8 rfl 2 rfl, H1000079.out.cell 8 rfl 3 rfl⟩))
        clear hK K hHeld
        try simp only [Act.put, p1, p2, p3, p4, p5, p6]
        clear hD1000078
        generalize (w1000059.alloc (.cells #[.int .i64 r0, .int .i64 r1, .int .i64 r2, .int .i64 r3, .int .i64 r1000021_0, .int .i64 r1000021_1, .int .i64 r1000021_2, .int .i64 r1000021_3] 33)) = k1000080 at *
        have hHeld := hHeld2
        clear hHeld2
        refine tkA 6 ?_
        try simp only [Act.put, p1, p2, p3, p4, p5, p6]
        refine wpAnyH_ready (rs := [7]) (by kernel_rfl) (by simp) (AllReadyH.cons (o := _) rfl (fun K hK => ?_) AllReadyH.nil)
        have g1000081 := H1000079.out.cell 0 rfl 4 rfl
        have g1000082 := H1000079.out.cell 0 rfl 5 rfl
        have g1000083 := H1000079.out.cell 0 rfl 6 rfl
        have g1000084 := H1000079.out.cell 0 rfl 7 rfl
        go_simp
        refine hK.out _ _ ?_ (fun hHeld2 => ?_)
        focus ((try dsimp only); (try exact hHeld))
        clear hK K
        try simp only [Act.put, p1, p2, p3, p4, p5, p6]
        clear hHeld2 g1000081 g1000082 g1000083 g1000084
        refine wpAnyH_ready (rs := [8]) (by kernel_rfl) (by simp) (AllReadyH.cons (o := _) rfl (fun K hK => ?_) AllReadyH.nil)
        have z1000085 := H1000079.out.cell 4 rfl 0 rfl
        have z1000086 := H1000079.out.free 4 rfl 0
        have z1000087 := H1000079.out.cell 4 rfl 1 rfl
        have z1000088 := H1000079.out.free 4 rfl 1
        have z1000089 := H1000079.out.cell 4 rfl 2 rfl
        have z1000090 := H1000079.out.free 4 rfl 2
        have z1000091 := H1000079.out.cell 4 rfl 3 rfl
        have z1000092 := H1000079.out.free 4 rfl 3
        have H1000093 := hid (show St B W [.cells D1000078 #[.int .i64 r0, .int .i64 r1, .int .i64 r2, .int .i64 r3, .int .i64 r1000021_0, .int .i64 r1000021_1, .int .i64 r1000021_2, .int .i64 r1000021_3] 33, .own (.slice wla wls.length wlc) wls, .own (.slice vla vls.length vlc) vls, .cells RE #[.int .i64 ep, .int .i64 ef] 38, .cells RQ #[.int .i64 r1000021_0, .int .i64 r1000021_1, .int .i64 r1000021_2, .int .i64 r1000021_3] 33, .cells D12 #[.int .i64 pw9, .int .i64 ph9, .int .i64 pm9, .slice pv9a ps9.length pv9c] 35, .own (.slice pv9a ps9.length pv9c) ps9, .tape K3, .cells B #[.int .i64 r0, .int .i64 r1, .int .i64 r2, .int .i64 r3] 33] [] ((((k1000080.setCell ⟨RQ, 0, none⟩ (.int .i64 r1000021_0)).setCell ⟨RQ, 1, none⟩ (.int .i64 r1000021_1)).setCell ⟨RQ, 2, none⟩ (.int .i64 r1000021_2)).setCell ⟨RQ, 3, none⟩ (.int .i64 r1000021_3)) from (H1000079.out.set4 4 rfl (.int .i64 r1000021_0) (.int .i64 r1000021_1) (.int .i64 r1000021_2) (.int .i64 r1000021_3)))
        go_simp
        refine hK.out _ _ ?_ (fun hHeld2 => ?_)
        focus ((try dsimp only); (exact ⟨H1000093.out.cell 8 rfl 0 rfl, H1000093.out.cell 8 rfl 1 rfl, H1000093.out.cell 8 rfl 2 rfl, H1000093.out.cell 8 rfl 3 rfl⟩))
        clear hK K hHeld
        try simp only [Act.put, p1, p2, p3, p4, p5, p6]
        clear z1000085 z1000086 z1000087 z1000088 z1000089 z1000090 z1000091 z1000092
        generalize ((((k1000080.setCell ⟨RQ, 0, none⟩ (.int .i64 r1000021_0)).setCell ⟨RQ, 1, none⟩ (.int .i64 r1000021_1)).setCell ⟨RQ, 2, none⟩ (.int .i64 r1000021_2)).setCell ⟨RQ, 3, none⟩ (.int .i64 r1000021_3)) = k1000094 at *
        have hHeld := hHeld2
        clear hHeld2
        refine wpAnyH_done (by kernel_rfl) ?_ _
        try clear hHeld
        go_wp2_with fail
        go_meet
        exact ⟨_, _, _, _, H1000093.out.pick [4, 1, 2, 3, 5, 6, 7, 8] rfl (by decide)⟩
     ·skip
      have hN2 : ((j : Int) == 2) = false := by simp; omega
      clear hN
      go_wp2_with fail
      go_meet
      exact ⟨_, _, _, _, H1000018.out.pick [3, 0, 1, 2, 4, 5, 6, 7] rfl (by decide)⟩
    case rest =>
     obtain ⟨y0, y1, y2, y3, hst⟩ := hcut
     obtain ⟨u1000095, rfl⟩ : ∃ u1000095 : World, u1000095 = wc := ⟨_, rfl⟩
     have H1000096 := hid hst
     clear hst
     go_wp2_with fail
     refine (nextB_any B K3 _ _ (by omega) (H1000096.out.tapeAt 6 rfl)).mono ?_
     rintro e w1000098 ⟨x1000097, rfl, x1000097a, x1000097b, htn, hgn, hsn⟩
     have H1000099 := hid (H1000096.out.next 6 rfl htn hgn)
     clear htn hgn hsn
     go_upto_if 62 with fail
     go_cut [] (fun wx => ∃ (xw xh xm : Int) (xa : Option Addr) (xc : Nat) (xl : List Int), St B W [.cells D12 #[.int .i64 xw, .int .i64 xh, .int .i64 xm, .slice xa xl.length xc] 35, .own (.slice xa xl.length xc) xl, .cells RQ #[.int .i64 y0, .int .i64 y1, .int .i64 y2, .int .i64 y3] 33, .own (.slice wla wls.length wlc) wls, .own (.slice vla vls.length vlc) vls, .cells RE #[.int .i64 ep, .int .i64 ef] 38, .tape K3, .cells B #[.int .i64 r0, .int .i64 r1, .int .i64 r2, .int .i64 r3] 33] [] wx)
     case first =>
      by_cases c1000100 : (x1000097 : Int) = 9
      ·obtain ⟨c1000100c, c1000100d⟩ : (x1000097 : Int) ≤ 9 ∧ (9 : Int) ≤ x1000097 := by omega
       have c1000100a : ((x1000097 : Int) == (9)) = true := by simpa using c1000100
       have c1000100b : ((x1000097 : Int) != (9)) = false := by simpa using c1000100
       have c1000100h := hid c1000100
       clear c1000100
       have z1000101 := H1000099.out.cell 4 rfl 0 rfl
       have z1000102 := H1000099.out.cell 4 rfl 1 rfl
       have z1000103 := H1000099.out.cell 4 rfl 2 rfl
       have z1000104 := H1000099.out.cell 4 rfl 3 rfl
       go_wp2_with fail
       clear z1000101 z1000102 z1000103 z1000104
       refine (spoil_any B K3 _ _ _ _ _ _ _ _ (H1000099.out.slc 5 rfl) (H1000099.out.farSlc 5 6 rfl rfl (by decide) rfl) HVps9.out (H1000099.out.tapeAt 6 rfl)).mono ?_
       rintro e w1000106 ⟨pw1000105, ph1000105, pm1000105, pv1000105, ps1000105, rfl, ho, ht, hg⟩
       have H1000107 := hid (H1000099.out.add (H1000099.out.next 6 rfl ht hg) ho)
       obtain ⟨pv1000105a, pv1000105c, rfl, _⟩ := ho.slc
       clear ho ht hg
       have z1000108 := H1000107.out.cell 5 rfl 0 rfl
       have z1000109 := H1000107.out.free 5 rfl 0
       have z1000110 := H1000107.out.cell 5 rfl 1 rfl
       have z1000111 := H1000107.out.free 5 rfl 1
       have z1000112 := H1000107.out.cell 5 rfl 2 rfl
       have z1000113 := H1000107.out.free 5 rfl 2
       have z1000114 := H1000107.out.cell 5 rfl 3 rfl
       have z1000115 := H1000107.out.free 5 rfl 3
       go_wp2_with fail
       clear z1000108 z1000109 z1000110 z1000111 z1000112 z1000113 z1000114 z1000115
       have H1000116 := hid (show St B W [.own (.slice pv1000105a ps1000105.length pv1000105c) ps1000105, .cells RQ #[.int .i64 y0, .int .i64 y1, .int .i64 y2, .int .i64 y3] 33, .own (.slice wla wls.length wlc) wls, .own (.slice vla vls.length vlc) vls, .cells RE #[.int .i64 ep, .int .i64 ef] 38, .cells D12 #[.int .i64 pw1000105, .int .i64 ph1000105, .int .i64 pm1000105, .slice pv1000105a ps1000105.length pv1000105c] 35, .own (.slice pv9a ps9.length pv9c) ps9, .tape K3, .cells B #[.int .i64 r0, .int .i64 r1, .int .i64 r2, .int .i64 r3] 33] [] ((((w1000106.setCell ⟨D12, 0, none⟩ (.int .i64 pw1000105)).setCell ⟨D12, 1, none⟩ (.int .i64 ph1000105)).setCell ⟨D12, 2, none⟩ (.int .i64 pm1000105)).setCell ⟨D12, 3, none⟩ (.slice pv1000105a ps1000105.length pv1000105c)) from (H1000107.out.set4 5 rfl (.int .i64 pw1000105) (.int .i64 ph1000105) (.int .i64 pm1000105) (.slice pv1000105a ps1000105.length pv1000105c)))
       go_meet
       exact ⟨_, _, _, _, _, _, H1000116.out.pick [5, 0, 1, 2, 3, 4, 7, 8] rfl (by decide)⟩
      ·have c1000100a : ((x1000097 : Int) == (9)) = false := by simpa using c1000100
       have c1000100b : ((x1000097 : Int) != (9)) = true := by simpa using c1000100
       have c1000100h := hid c1000100
       clear c1000100
       go_wp2_with fail
       go_meet
       exact ⟨_, _, _, _, _, _, H1000099.out.pick [4, 5, 0, 1, 2, 3, 6, 7] rfl (by decide)⟩
     case rest =>
      obtain ⟨xw, xh, xm, xa, xc, xl, hst⟩ := hcut
      obtain ⟨u1000117, rfl⟩ : ∃ u1000117 : World, u1000117 = wc := ⟨_, rfl⟩
      have H1000118 := hid hst
      clear hst
      have z1000119 := H1000118.out.cell 0 rfl 0 rfl
      have z1000120 := H1000118.out.cell 0 rfl 1 rfl
      have z1000121 := H1000118.out.cell 0 rfl 2 rfl
      have z1000122 := H1000118.out.cell 0 rfl 3 rfl
      have z1000123 := H1000118.out.cell 5 rfl 0 rfl
      have z1000124 := H1000118.out.cell 5 rfl 1 rfl
      have z1000125 := H1000118.out.cell 2 rfl 0 rfl
      have z1000126 := H1000118.out.cell 2 rfl 1 rfl
      have z1000127 := H1000118.out.cell 2 rfl 2 rfl
      have z1000128 := H1000118.out.cell 2 rfl 3 rfl
      go_wp2_with fail
      clear z1000119 z1000120 z1000121 z1000122 z1000123 z1000124 z1000125 z1000126 z1000127 z1000128
      refine (stile_any _ _ _ _ _ _ xl _ _ _ _ _ wls _ _ _ vls _ _ _ _ _ _ _ _ (H1000118.out.slc 1 rfl) (H1000118.out.slc 3 rfl) (H1000118.out.slc 4 rfl)).mono ?_
      rintro e w1000129 ⟨v1000130, rfl, ho, hb⟩
      obtain ⟨c1000132, hc1000132⟩ : ∃ xx', spTC xw xh xm xl ep ef wls vls sh sv 255 y0 y1 y2 y3 = xx' := ⟨_, rfl⟩
      rw [hc1000132] at ho ⊢
      have HNc1000132 := hid hc1000132
      clear hc1000132
      obtain ⟨l1000133, hl1000133⟩ : ∃ xx', spL xw xh xl ep ef wls vls sh sv 255 y0 y1 y2 y3 = xx' := ⟨_, rfl⟩
      rw [hl1000133] at ho
      have HNl1000133 := hid hl1000133
      clear hl1000133
      obtain ⟨l1000134, hl1000134⟩ : ∃ xx', tL c1000132 l1000133 = xx' := ⟨_, rfl⟩
      rw [hl1000134] at ho
      have HNl1000134 := hid hl1000134
      clear hl1000134
      obtain ⟨t1000135, ht1000135⟩ : ∃ xx', tI c1000132 (y2 - y0) = xx' := ⟨_, rfl⟩
      rw [ht1000135]
      have HNt1000135 := hid ht1000135
      clear ht1000135
      obtain ⟨t1000136, ht1000136⟩ : ∃ xx', tI c1000132 (y3 - y1) = xx' := ⟨_, rfl⟩
      rw [ht1000136]
      have HNt1000136 := hid ht1000136
      clear ht1000136
      obtain ⟨t1000137, ht1000137⟩ : ∃ xx', tI c1000132 255 = xx' := ⟨_, rfl⟩
      rw [ht1000137]
      have HNt1000137 := hid ht1000137
      clear ht1000137
      have H1000131 := hid (H1000118.out.grow hb ho)
      obtain ⟨v1000130a, v1000130c, rfl, _⟩ := ho.slc
      clear ho hb
      obtain ⟨D1000138, hD1000138⟩ : ∃ D, w1000129.heap.size = D := ⟨_, rfl⟩
      go_upto_region 12 with fail
      have H1000139 := hid (show St B W [.cells D1000138 #[.int .i64 t1000135, .int .i64 t1000136, .int .i64 t1000137, .slice v1000130a l1000134.length v1000130c] 35, .own (.slice v1000130a l1000134.length v1000130c) l1000134, .cells D12 #[.int .i64 xw, .int .i64 xh, .int .i64 xm, .slice xa xl.length xc] 35, .own (.slice xa xl.length xc) xl, .cells RQ #[.int .i64 y0, .int .i64 y1, .int .i64 y2, .int .i64 y3] 33, .own (.slice wla wls.length wlc) wls, .own (.slice vla vls.length vlc) vls, .cells RE #[.int .i64 ep, .int .i64 ef] 38, .tape K3, .cells B #[.int .i64 r0, .int .i64 r1, .int .i64 r2, .int .i64 r3] 33] [] (w1000129.alloc (.cells #[.int .i64 t1000135, .int .i64 t1000136, .int .i64 t1000137, .slice v1000130a l1000134.length v1000130c] 35)) from (H1000131.out.alloc #[.int .i64 t1000135, .int .i64 t1000136, .int .i64 t1000137, .slice v1000130a l1000134.length v1000130c] 35 hD1000138))
      first | refine gen_code H1000139.out ?_ | refine gen_list H1000139.out ?_ | refine gen_calls H1000139.out ?_
      intro w1000140 hG
      clear H1000139
      have H1000139 := hid hG
      clear hG
      clear hD1000138
      have z1000141 := H1000139.out.cell 2 rfl 0 rfl
      have z1000142 := H1000139.out.cell 2 rfl 1 rfl
      have z1000143 := H1000139.out.cell 2 rfl 2 rfl
      have z1000144 := H1000139.out.cell 2 rfl 3 rfl
      have z1000145 := H1000139.out.cell 7 rfl 0 rfl
      have z1000146 := H1000139.out.cell 7 rfl 1 rfl
      have z1000147 := H1000139.out.cell 4 rfl 0 rfl
      have z1000148 := H1000139.out.cell 4 rfl 1 rfl
      have z1000149 := H1000139.out.cell 4 rfl 2 rfl
      have z1000150 := H1000139.out.cell 4 rfl 3 rfl
      go_wp2_with fail
      clear z1000141 z1000142 z1000143 z1000144 z1000145 z1000146 z1000147 z1000148 z1000149 z1000150
      refine (rstile_any _ _ _ _ _ _ xl _ _ _ _ _ wls _ _ _ vls _ _ _ _ _ _ _ _ (H1000139.out.slc 3 rfl) (H1000139.out.slc 5 rfl) (H1000139.out.slc 6 rfl)).mono ?_
      rintro e w1000151 ⟨v1000152, rfl, ho, hb⟩
      rw [HNc1000132.out] at ho ⊢
      rw [HNl1000133.out] at ho
      rw [HNl1000134.out] at ho
      rw [HNt1000135.out]
      rw [HNt1000136.out]
      rw [HNt1000137.out]
      have H1000153 := hid (H1000139.out.grow hb ho)
      obtain ⟨v1000152a, v1000152c, rfl, _⟩ := ho.slc
      clear ho hb
      obtain ⟨D1000154, hD1000154⟩ : ∃ D, w1000151.heap.size = D := ⟨_, rfl⟩
      go_upto_region 13 with fail
      have H1000155 := hid (show St B W [.cells D1000154 #[.int .i64 t1000135, .int .i64 t1000136, .int .i64 t1000137, .slice v1000152a l1000134.length v1000152c] 35, .own (.slice v1000152a l1000134.length v1000152c) l1000134, .cells D1000138 #[.int .i64 t1000135, .int .i64 t1000136, .int .i64 t1000137, .slice v1000130a l1000134.length v1000130c] 35, .own (.slice v1000130a l1000134.length v1000130c) l1000134, .cells D12 #[.int .i64 xw, .int .i64 xh, .int .i64 xm, .slice xa xl.length xc] 35, .own (.slice xa xl.length xc) xl, .cells RQ #[.int .i64 y0, .int .i64 y1, .int .i64 y2, .int .i64 y3] 33, .own (.slice wla wls.length wlc) wls, .own (.slice vla vls.length vlc) vls, .cells RE #[.int .i64 ep, .int .i64 ef] 38, .tape K3, .cells B #[.int .i64 r0, .int .i64 r1, .int .i64 r2, .int .i64 r3] 33] [] (w1000151.alloc (.cells #[.int .i64 t1000135, .int .i64 t1000136, .int .i64 t1000137, .slice v1000152a l1000134.length v1000152c] 35)) from (H1000153.out.alloc #[.int .i64 t1000135, .int .i64 t1000136, .int .i64 t1000137, .slice v1000152a l1000134.length v1000152c] 35 hD1000154))
      first | refine gen_code H1000155.out ?_ | refine gen_list H1000155.out ?_ | refine gen_calls H1000155.out ?_
      intro w1000156 hG
      clear H1000155
      have H1000155 := hid hG
      clear hG
      clear hD1000154
      have z1000157 := H1000155.out.cell 2 rfl 0 rfl
      have z1000158 := H1000155.out.cell 2 rfl 1 rfl
      have z1000159 := H1000155.out.cell 2 rfl 2 rfl
      have z1000160 := H1000155.out.cell 2 rfl 3 rfl
      have z1000161 := H1000155.out.cell 0 rfl 0 rfl
      have z1000162 := H1000155.out.cell 0 rfl 1 rfl
      have z1000163 := H1000155.out.cell 0 rfl 2 rfl
      have z1000164 := H1000155.out.cell 0 rfl 3 rfl
      go_wp2_with fail
      clear z1000157 z1000158 z1000159 z1000160 z1000161 z1000162 z1000163 z1000164
      refine (qequal_any _ _ _ _ _ _ l1000134 _ _ _ _ _ _ l1000134 _ (H1000155.out.slc 3 rfl) (H1000155.out.slc 1 rfl)).mono ?_
      rintro e w1000165 ⟨rfl, hb⟩
      have H1000166 := hid (H1000155.out.call hb)
      clear hb
      rw [show pEq t1000135 t1000136 t1000137 l1000134 t1000135 t1000136 t1000137 l1000134 = true from by simp [pEq]]
      go_wp2_with fail
      go_roundw
      case rel => exact ⟨j + 1, by omega, by go_num, H1000166.out.pick [10, 11] rfl (by decide)⟩
      case measure => first | (simp [intOf]; omega) | (simp [intOf]; done)
  ·skip
   go_wp2_with fail
   refine (sane10 _).mono ?_
   rintro e w1000167 ⟨rfl, hb⟩
   have H1000168 := hid (H7.out.call hb)
   clear hb
   go_wp2_with fail
   go_ret
   exact ⟨rfl, by first | exact H1000168.out.below | exact H1000168.out.below'⟩
end Go.Proofs.Ytfdkgjphnlijiaa
