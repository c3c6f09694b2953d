/-
  Contract: the integral plane of a plane, in the program.
-/
import Derived.Test.YtoojiabdgaflgaaITile
namespace Go.Proofs.Ytoojiabdgaflgaa
open Go.RowKit
set_option linter.unusedVariables false
set_option linter.unusedSimpArgs false

theorem tCode_of_k {w h mx : Int} {zs : List Int} {r0 r1 r2 r3 : Int} {left top : List Int} {corner : Int} (hk : kCode w h mx zs ≠ 0) : tCode w h mx zs r0 r1 r2 r3 left top corner = kCode w h mx zs := by
  cases hv : pValid w h mx zs with
  | false => unfold tCode kCode; rw [hv, if_pos rfl, if_neg (by simp)]
  | true =>
    cases hi : iOk w h mx with
    | false => unfold tCode kCode iCode; rw [hv, hi, if_neg (by simp), if_pos rfl, if_pos rfl, if_neg (by simp)]
    | true => exact absurd (by simp [kCode, iCode, hv, hi]) hk
theorem valid_of_k {w h mx : Int} {zs : List Int} (hk : kCode w h mx zs = 0) : pValid w h mx zs = true ∧ iOk w h mx = true := by
  cases hv : pValid w h mx zs with
  | false => simp [kCode, hv] at hk
  | true =>
    cases hi : iOk w h mx with
    | false => simp [kCode, iCode, hv, hi] at hk
    | true => exact ⟨rfl, rfl⟩

set_option maxRecDepth 100000 in
set_option maxHeartbeats 3200000 in
theorem iwhole_any (w h mx : Int) (a : Option Addr) (n c : Nat) (zs : List Int) (W : World) (hs : Slc W a n c zs) :
    Calls Try.prog 37 #[.agg #[.int .i64 w, .int .i64 h, .int .i64 mx, .slice a n c]] W (TilePost w h mx zs 0 0 w h (List.replicate h.toNat 0) (List.replicate w.toNat 0) 0 W) := by
  obtain ⟨B, hB⟩ : ∃ B, W.heap.size = B := ⟨_, rfl⟩
  have H0 := hid (((St.init hB).alloc #[.int .i64 w, .int .i64 h, .int .i64 mx, .slice a n c] 26 hB).alloc #[.int .i64 0, .int .i64 0, .int .i64 0, .slice none 0 0] 26 (alloc_size _ hB))
  have HS := hid hs
  clear hs
  go_enter Try.func37, Try.ntmps37
  go_wp2_with fail
  refine (checked_any _ _ _ _ _ _ _ _ (H0.out.old HS.out)).mono ?_
  rintro e w1 ⟨rfl, hb⟩
  have H1 := hid (H0.out.call hb)
  clear hb
  have y0 := H1.out.cell 0 rfl 0 rfl
  have y1 := H1.out.cell 0 rfl 1 rfl
  have y2 := H1.out.cell 0 rfl 2 rfl
  have y3 := H1.out.cell 0 rfl 3 rfl
  have e0 := H1.out.free 0 rfl 0
  have e1 := H1.out.free 0 rfl 1
  have e2 := H1.out.free 0 rfl 2
  have e3 := H1.out.free 0 rfl 3
  by_cases hk : kCode w h mx zs = 0
  · obtain ⟨hv, hio⟩ := valid_of_k hk
    obtain ⟨p1, p2, p3, p4, p5, _, _⟩ := pOk_iff.1 (pValid_iff.1 hv).1
    rw [hk]
    obtain ⟨kv, hkv⟩ : ∃ k, kVal w h mx zs = k := ⟨_, rfl⟩
    rw [hkv]
    clear hk hkv hv hio y0 y1 y2 y3 e0 e1 e2 e3
    obtain ⟨nh, hnh⟩ : ∃ m : Nat, h.toNat = m := ⟨_, rfl⟩
    obtain ⟨nw, hnw⟩ : ∃ m : Nat, w.toNat = m := ⟨_, rfl⟩
    have nh1 : h = (nh : Int) := by omega
    have nw1 : w = (nw : Int) := by omega
    have HNH := hid nh1
    have HNW := hid nw1
    rw [hnh, hnw]
    have nh2 : nh ≤ 128 := by omega
    have nw2 : nw ≤ 128 := by omega
    clear hnh hnw nh1 nw1
    go_wp2_with fail
    have H2 := hid H1.out.drew
    refine wp_region_held_drew (S := (fun w' => w'.cell? ⟨B, 0, none⟩ = some (.int .i64 w) ∧ w'.cell? ⟨B, 1, none⟩ = some (.int .i64 h) ∧ w'.cell? ⟨B, 2, none⟩ = some (.int .i64 mx) ∧ w'.cell? ⟨B, 3, none⟩ = some (.slice a n c))) (by kernel_rfl) ⟨H2.out.cell 1 rfl 0 rfl, H2.out.cell 1 rfl 1 rfl, H2.out.cell 1 rfl 2 rfl, H2.out.cell 1 rfl 3 rfl⟩ (fun hHeld => ?_)
    generalize w1.drew = k0 at *
    refine wpAnyH_take (i := 0) (oi := _) (v := ?_) rfl (by kernel_rfl) (by kernel_rfl) (by kernel_rfl) (fun _ _ _ h => h) (Or.inl ⟨by rfl, ?_⟩) (by assumption) ?_
    rotate_left
    focus (intro wS hSw; (try dsimp only at hSw); go_simp; (try with_reducible rfl))
    try simp only [Act.put, List.getElem_toArray, List.getElem_cons_zero, List.getElem_cons_succ, List.setIfInBounds_toArray, List.set_cons_zero, List.set_cons_succ]
    refine wpAnyH_take (i := 1) (oi := _) (v := ?_) rfl (by kernel_rfl) (by kernel_rfl) (by kernel_rfl) (fun _ _ _ h => h) (Or.inl ⟨by rfl, ?_⟩) (by assumption) ?_
    rotate_left
    focus (intro wS hSw; (try dsimp only at hSw); go_simp; (try with_reducible rfl))
    try simp only [Act.put, List.getElem_toArray, List.getElem_cons_zero, List.getElem_cons_succ, List.setIfInBounds_toArray, List.set_cons_zero, List.set_cons_succ]
    refine wpAnyH_take (i := 2) (oi := _) (v := ?_) rfl (by kernel_rfl) (by kernel_rfl) (by kernel_rfl) (fun _ _ _ h => h) (Or.inl ⟨by rfl, ?_⟩) (by assumption) ?_
    rotate_left
    focus (intro wS hSw; (try dsimp only at hSw); go_simp; (try with_reducible rfl))
    try simp only [Act.put, List.getElem_toArray, List.getElem_cons_zero, List.getElem_cons_succ, List.setIfInBounds_toArray, List.set_cons_zero, List.set_cons_succ]
    refine wpAnyH_take (i := 3) (oi := _) (v := ?_) rfl (by kernel_rfl) (by kernel_rfl) (by kernel_rfl) (fun _ _ _ h => h) (Or.inl ⟨by rfl, ?_⟩) (by assumption) ?_
    rotate_left
    focus (intro wS hSw; (try dsimp only at hSw); go_simp; (try with_reducible rfl))
    try simp only [Act.put, List.getElem_toArray, List.getElem_cons_zero, List.getElem_cons_succ, List.setIfInBounds_toArray, List.set_cons_zero, List.set_cons_succ]
    refine wpAnyH_take (i := 4) (oi := _) (v := ?_) rfl (by kernel_rfl) (by kernel_rfl) (by kernel_rfl) (fun _ _ _ h => h) (Or.inl ⟨by rfl, ?_⟩) (by assumption) ?_
    rotate_left
    focus (intro wS hSw; (try dsimp only at hSw); go_simp; (try with_reducible rfl))
    try simp only [Act.put, List.getElem_toArray, List.getElem_cons_zero, List.getElem_cons_succ, List.setIfInBounds_toArray, List.set_cons_zero, List.set_cons_succ]
    refine wpAnyH_take (i := 5) (oi := _) (v := ?_) rfl (by kernel_rfl) (by kernel_rfl) (by kernel_rfl) (fun _ _ _ h => h) (Or.inl ⟨by rfl, ?_⟩) (by assumption) ?_
    rotate_left
    focus (intro wS hSw; (try dsimp only at hSw); go_simp; (try with_reducible rfl))
    try simp only [Act.put, List.getElem_toArray, List.getElem_cons_zero, List.getElem_cons_succ, List.setIfInBounds_toArray, List.set_cons_zero, List.set_cons_succ]
    refine wpAnyH_take (i := 6) (oi := _) (v := ?_) rfl (by kernel_rfl) (by kernel_rfl) (by kernel_rfl) (fun _ _ _ h => h) (Or.inl ⟨by rfl, ?_⟩) (by assumption) ?_
    rotate_left
    focus (intro wS hSw; (try dsimp only at hSw); go_simp; (try with_reducible rfl))
    try simp only [Act.put, List.getElem_toArray, List.getElem_cons_zero, List.getElem_cons_succ, List.setIfInBounds_toArray, List.set_cons_zero, List.set_cons_succ]
    refine wpAnyH_take (i := 7) (oi := _) (v := ?_) rfl (by kernel_rfl) (by kernel_rfl) (by kernel_rfl) (fun _ _ _ h => h) (Or.inl ⟨by rfl, ?_⟩) (by assumption) ?_
    rotate_left
    focus (intro wS hSw; (try dsimp only at hSw); go_simp; (try with_reducible rfl))
    try simp only [Act.put, List.getElem_toArray, List.getElem_cons_zero, List.getElem_cons_succ, List.setIfInBounds_toArray, List.set_cons_zero, List.set_cons_succ]
    refine wpAnyH_take (i := 9) (oi := _) (v := ?_) rfl (by kernel_rfl) (by kernel_rfl) (by kernel_rfl) (fun _ _ _ h => h) (Or.inl ⟨by rfl, ?_⟩) (by assumption) ?_
    rotate_left
    focus (intro wS hSw; (try dsimp only at hSw); go_simp; (try with_reducible rfl))
    try simp only [Act.put, List.getElem_toArray, List.getElem_cons_zero, List.getElem_cons_succ, List.setIfInBounds_toArray, List.set_cons_zero, List.set_cons_succ]
    refine wpAnyH_take (i := 10) (oi := _) (v := ?_) rfl (by kernel_rfl) (by kernel_rfl) (by kernel_rfl) (fun _ _ _ h => h) (Or.inl ⟨by rfl, ?_⟩) (by assumption) ?_
    rotate_left
    focus (intro wS hSw; (try dsimp only at hSw); go_simp; (try with_reducible rfl))
    try simp only [Act.put, List.getElem_toArray, List.getElem_cons_zero, List.getElem_cons_succ, List.setIfInBounds_toArray, List.set_cons_zero, List.set_cons_succ]
    refine wpAnyH_ready (rs := [8, 11]) (by kernel_rfl) (by simp) (AllReadyH.cons (o := _) rfl (fun K hK => ?_) (AllReadyH.cons (o := _) rfl (fun K hK => ?_) AllReadyH.nil))
    · obtain ⟨DL, hD1⟩ : ∃ L, k0.heap.size = L := ⟨_, rfl⟩
      have hBD1 : B ≤ DL := by have := H2.out.size; omega
      rw [if_pos (by rfl)]
      refine oper_make_int _ _ rfl DL _ _ nh rfl rfl HNH.out HNH.out (by omega) (by omega) ?_
      intro k1 ho hb
      rw [hD1] at ho ⊢
      have K1 := hid (H2.out.made hD1 ho hb)
      clear ho hb hD1 hBD1
      refine hK.out _ _ ?_ (fun hHeld2 => ?_)
      focus ((try dsimp only); (exact ⟨K1.out.cell 2 rfl 0 rfl, K1.out.cell 2 rfl 1 rfl, K1.out.cell 2 rfl 2 rfl, K1.out.cell 2 rfl 3 rfl⟩))
      clear hK K
      try simp only [Act.put, List.getElem_toArray, List.getElem_cons_zero, List.getElem_cons_succ, List.setIfInBounds_toArray, List.set_cons_zero, List.set_cons_succ]
      clear hHeld
      have hHeld := hHeld2
      clear hHeld2
      refine wpAnyH_ready (rs := [11]) (by kernel_rfl) (by simp) (AllReadyH.cons (o := _) rfl (fun K hK => ?_) AllReadyH.nil)
      obtain ⟨DT, hD2⟩ : ∃ L, k1.heap.size = L := ⟨_, rfl⟩
      have hBD2 : B ≤ DT := by have := K1.out.size; omega
      rw [if_pos (by rfl)]
      refine oper_make_int _ _ rfl DT _ _ nw rfl rfl HNW.out HNW.out (by omega) (by omega) ?_
      intro k2 ho hb
      rw [hD2] at ho ⊢
      have K2 := hid (K1.out.made hD2 ho hb)
      clear ho hb hD2 hBD2
      refine hK.out _ _ ?_ (fun hHeld2 => ?_)
      focus ((try dsimp only); (exact ⟨K2.out.cell 3 rfl 0 rfl, K2.out.cell 3 rfl 1 rfl, K2.out.cell 3 rfl 2 rfl, K2.out.cell 3 rfl 3 rfl⟩))
      clear hK K
      try simp only [Act.put, List.getElem_toArray, List.getElem_cons_zero, List.getElem_cons_succ, List.setIfInBounds_toArray, List.set_cons_zero, List.set_cons_succ]
      clear hHeld
      have hHeld := hHeld2
      clear hHeld2
      refine wpAnyH_ready (rs := [12]) (by kernel_rfl) (by simp) (AllReadyH.cons (o := _) rfl (fun K hK => ?_) AllReadyH.nil)
      go_simp
      go_at_call 44; with_reducible refine (itile_any w h mx a n c zs 0 0 w h _ nh nh (List.replicate nh 0) _ nw nw (List.replicate nw 0) 0 _ (K2.out.old HS.out) (K2.out.slc 1 rfl) (K2.out.slc 0 rfl)).mono ?_
      rintro e k3 ⟨v, rfl, ho, hb⟩
      have K3 := hid (K2.out.grow hb ho)
      obtain ⟨va, vc, rfl, _⟩ := ho.slc
      clear ho hb
      obtain ⟨ti, hti⟩ : ∃ f, tIf w h mx zs 0 0 w h (List.replicate nh 0) (List.replicate nw 0) 0 = f := ⟨_, rfl⟩
      obtain ⟨tc, htc⟩ : ∃ f, tCode w h mx zs 0 0 w h (List.replicate nh 0) (List.replicate nw 0) 0 = f := ⟨_, rfl⟩
      obtain ⟨tl, htl⟩ : ∃ f, tList w h mx zs 0 0 w h (List.replicate nh 0) (List.replicate nw 0) 0 = f := ⟨_, rfl⟩
      have HTI := hid hti
      have HTC := hid htc
      have HTL := hid htl
      rw [hti, htc, htl]
      rw [htl] at K3
      clear hti htc htl
      obtain ⟨t1, ht1⟩ : ∃ z, ti (w - 0) = z := ⟨_, rfl⟩
      obtain ⟨t2, ht2⟩ : ∃ z, ti (h - 0) = z := ⟨_, rfl⟩
      obtain ⟨t3, ht3⟩ : ∃ z, ti (w * h * mx) = z := ⟨_, rfl⟩
      rw [ht1, ht2, ht3]
      have HT1 := hid ht1
      have HT2 := hid ht2
      have HT3 := hid ht3
      clear ht1 ht2 ht3
      refine hK.out _ _ ?_ (fun hHeld2 => ?_)
      focus ((try dsimp only); (exact ⟨K3.out.cell 4 rfl 0 rfl, K3.out.cell 4 rfl 1 rfl, K3.out.cell 4 rfl 2 rfl, K3.out.cell 4 rfl 3 rfl⟩))
      clear hK K
      try simp only [Act.put, List.getElem_toArray, List.getElem_cons_zero, List.getElem_cons_succ, List.setIfInBounds_toArray, List.set_cons_zero, List.set_cons_succ]
      clear hHeld
      have hHeld := hHeld2
      clear hHeld2
      refine wpAnyH_take (i := 13) (oi := _) (v := ?_) rfl (by kernel_rfl) (by kernel_rfl) (by kernel_rfl) (fun _ _ _ h => h) (Or.inl ⟨by rfl, ?_⟩) (by assumption) ?_
      rotate_left
      focus (intro wS hSw; (try dsimp only at hSw); go_simp; (try with_reducible rfl))
      try simp only [Act.put, List.getElem_toArray, List.getElem_cons_zero, List.getElem_cons_succ, List.setIfInBounds_toArray, List.set_cons_zero, List.set_cons_succ]
      refine wpAnyH_take (i := 14) (oi := _) (v := ?_) rfl (by kernel_rfl) (by kernel_rfl) (by kernel_rfl) (fun _ _ _ h => h) (Or.inl ⟨by rfl, ?_⟩) (by assumption) ?_
      rotate_left
      focus (intro wS hSw; (try dsimp only at hSw); go_simp; (try with_reducible rfl))
      try simp only [Act.put, List.getElem_toArray, List.getElem_cons_zero, List.getElem_cons_succ, List.setIfInBounds_toArray, List.set_cons_zero, List.set_cons_succ]
      refine wpAnyH_ready (rs := [15]) (by kernel_rfl) (by simp) (AllReadyH.cons (o := _) rfl (fun K hK => ?_) AllReadyH.nil)
      have c0 := K3.out.cell 3 rfl 0 rfl
      have c1 := K3.out.cell 3 rfl 1 rfl
      have c2 := K3.out.cell 3 rfl 2 rfl
      have c3 := K3.out.cell 3 rfl 3 rfl
      have f0 := K3.out.free 3 rfl 0
      have f1 := K3.out.free 3 rfl 1
      have f2 := K3.out.free 3 rfl 2
      have f3 := K3.out.free 3 rfl 3
      have K4 := hid (K3.out.set4 3 rfl (.int .i64 t1) (.int .i64 t2) (.int .i64 t3) (.slice va tl.length vc))
      go_simp
      refine hK.out _ _ ?_ (fun hHeld2 => ?_)
      focus ((try dsimp only); (exact ⟨K4.out.cell 4 rfl 0 rfl, K4.out.cell 4 rfl 1 rfl, K4.out.cell 4 rfl 2 rfl, K4.out.cell 4 rfl 3 rfl⟩))
      clear hK K
      try simp only [Act.put, List.getElem_toArray, List.getElem_cons_zero, List.getElem_cons_succ, List.setIfInBounds_toArray, List.set_cons_zero, List.set_cons_succ]
      clear c0 c1 c2 c3 f0 f1 f2 f3
      clear hHeld
      have hHeld := hHeld2
      clear hHeld2
      refine wpAnyH_take (i := 16) (oi := _) (v := ?_) rfl (by kernel_rfl) (by kernel_rfl) (by kernel_rfl) (fun _ _ _ h => h) (Or.inl ⟨by rfl, ?_⟩) (by assumption) ?_
      rotate_left
      focus (intro wS hSw; (try dsimp only at hSw); go_simp; (try with_reducible rfl))
      try simp only [Act.put, List.getElem_toArray, List.getElem_cons_zero, List.getElem_cons_succ, List.setIfInBounds_toArray, List.set_cons_zero, List.set_cons_succ]
      refine wpAnyH_done (by kernel_rfl) ?_ _
      have q0 := K4.out.cell 3 rfl 0 rfl
      have q1 := K4.out.cell 3 rfl 1 rfl
      have q2 := K4.out.cell 3 rfl 2 rfl
      have q3 := K4.out.cell 3 rfl 3 rfl
      unfold set4 at q0 q1 q2 q3
      go_wp2_with fail
      have e1 : h.toNat = nh := by have := HNH.out; omega
      have e2 : w.toNat = nw := by have := HNW.out; omega
      rw [e1, e2]
      refine bodyPost_ret (v := .tuple #[.agg #[.int .i64 t1, .int .i64 t2, .int .i64 t3, .slice va tl.length vc], .int .i64 tc]) ?_ rfl ⟨_, by rw [HTI.out, HTC.out, HT1.out, HT2.out, HT3.out], by rw [HTL.out, hB]; exact K4.out.own 0 rfl, by first | exact K4.out.below | exact K4.out.below'⟩
      simp [results, Try.results37, go_sem, q0, q1, q2, q3]
    · obtain ⟨DT, hD1⟩ : ∃ L, k0.heap.size = L := ⟨_, rfl⟩
      have hBD1 : B ≤ DT := by have := H2.out.size; omega
      rw [if_pos (by rfl)]
      refine oper_make_int _ _ rfl DT _ _ nw rfl rfl HNW.out HNW.out (by omega) (by omega) ?_
      intro k1 ho hb
      rw [hD1] at ho ⊢
      have K1 := hid (H2.out.made hD1 ho hb)
      clear ho hb hD1 hBD1
      refine hK.out _ _ ?_ (fun hHeld2 => ?_)
      focus ((try dsimp only); (exact ⟨K1.out.cell 2 rfl 0 rfl, K1.out.cell 2 rfl 1 rfl, K1.out.cell 2 rfl 2 rfl, K1.out.cell 2 rfl 3 rfl⟩))
      clear hK K
      try simp only [Act.put, List.getElem_toArray, List.getElem_cons_zero, List.getElem_cons_succ, List.setIfInBounds_toArray, List.set_cons_zero, List.set_cons_succ]
      clear hHeld
      have hHeld := hHeld2
      clear hHeld2
      refine wpAnyH_ready (rs := [8]) (by kernel_rfl) (by simp) (AllReadyH.cons (o := _) rfl (fun K hK => ?_) AllReadyH.nil)
      obtain ⟨DL, hD2⟩ : ∃ L, k1.heap.size = L := ⟨_, rfl⟩
      have hBD2 : B ≤ DL := by have := K1.out.size; omega
      rw [if_pos (by rfl)]
      refine oper_make_int _ _ rfl DL _ _ nh rfl rfl HNH.out HNH.out (by omega) (by omega) ?_
      intro k2 ho hb
      rw [hD2] at ho ⊢
      have K2 := hid (K1.out.made hD2 ho hb)
      clear ho hb hD2 hBD2
      refine hK.out _ _ ?_ (fun hHeld2 => ?_)
      focus ((try dsimp only); (exact ⟨K2.out.cell 3 rfl 0 rfl, K2.out.cell 3 rfl 1 rfl, K2.out.cell 3 rfl 2 rfl, K2.out.cell 3 rfl 3 rfl⟩))
      clear hK K
      try simp only [Act.put, List.getElem_toArray, List.getElem_cons_zero, List.getElem_cons_succ, List.setIfInBounds_toArray, List.set_cons_zero, List.set_cons_succ]
      clear hHeld
      have hHeld := hHeld2
      clear hHeld2
      refine wpAnyH_ready (rs := [12]) (by kernel_rfl) (by simp) (AllReadyH.cons (o := _) rfl (fun K hK => ?_) AllReadyH.nil)
      go_simp
      go_at_call 44; with_reducible refine (itile_any w h mx a n c zs 0 0 w h _ nh nh (List.replicate nh 0) _ nw nw (List.replicate nw 0) 0 _ (K2.out.old HS.out) (K2.out.slc 0 rfl) (K2.out.slc 1 rfl)).mono ?_
      rintro e k3 ⟨v, rfl, ho, hb⟩
      have K3 := hid (K2.out.grow hb ho)
      obtain ⟨va, vc, rfl, _⟩ := ho.slc
      clear ho hb
      obtain ⟨ti, hti⟩ : ∃ f, tIf w h mx zs 0 0 w h (List.replicate nh 0) (List.replicate nw 0) 0 = f := ⟨_, rfl⟩
      obtain ⟨tc, htc⟩ : ∃ f, tCode w h mx zs 0 0 w h (List.replicate nh 0) (List.replicate nw 0) 0 = f := ⟨_, rfl⟩
      obtain ⟨tl, htl⟩ : ∃ f, tList w h mx zs 0 0 w h (List.replicate nh 0) (List.replicate nw 0) 0 = f := ⟨_, rfl⟩
      have HTI := hid hti
      have HTC := hid htc
      have HTL := hid htl
      rw [hti, htc, htl]
      rw [htl] at K3
      clear hti htc htl
      obtain ⟨t1, ht1⟩ : ∃ z, ti (w - 0) = z := ⟨_, rfl⟩
      obtain ⟨t2, ht2⟩ : ∃ z, ti (h - 0) = z := ⟨_, rfl⟩
      obtain ⟨t3, ht3⟩ : ∃ z, ti (w * h * mx) = z := ⟨_, rfl⟩
      rw [ht1, ht2, ht3]
      have HT1 := hid ht1
      have HT2 := hid ht2
      have HT3 := hid ht3
      clear ht1 ht2 ht3
      refine hK.out _ _ ?_ (fun hHeld2 => ?_)
      focus ((try dsimp only); (exact ⟨K3.out.cell 4 rfl 0 rfl, K3.out.cell 4 rfl 1 rfl, K3.out.cell 4 rfl 2 rfl, K3.out.cell 4 rfl 3 rfl⟩))
      clear hK K
      try simp only [Act.put, List.getElem_toArray, List.getElem_cons_zero, List.getElem_cons_succ, List.setIfInBounds_toArray, List.set_cons_zero, List.set_cons_succ]
      clear hHeld
      have hHeld := hHeld2
      clear hHeld2
      refine wpAnyH_take (i := 13) (oi := _) (v := ?_) rfl (by kernel_rfl) (by kernel_rfl) (by kernel_rfl) (fun _ _ _ h => h) (Or.inl ⟨by rfl, ?_⟩) (by assumption) ?_
      rotate_left
      focus (intro wS hSw; (try dsimp only at hSw); go_simp; (try with_reducible rfl))
      try simp only [Act.put, List.getElem_toArray, List.getElem_cons_zero, List.getElem_cons_succ, List.setIfInBounds_toArray, List.set_cons_zero, List.set_cons_succ]
      refine wpAnyH_take (i := 14) (oi := _) (v := ?_) rfl (by kernel_rfl) (by kernel_rfl) (by kernel_rfl) (fun _ _ _ h => h) (Or.inl ⟨by rfl, ?_⟩) (by assumption) ?_
      rotate_left
      focus (intro wS hSw; (try dsimp only at hSw); go_simp; (try with_reducible rfl))
      try simp only [Act.put, List.getElem_toArray, List.getElem_cons_zero, List.getElem_cons_succ, List.setIfInBounds_toArray, List.set_cons_zero, List.set_cons_succ]
      refine wpAnyH_ready (rs := [15]) (by kernel_rfl) (by simp) (AllReadyH.cons (o := _) rfl (fun K hK => ?_) AllReadyH.nil)
      have c0 := K3.out.cell 3 rfl 0 rfl
      have c1 := K3.out.cell 3 rfl 1 rfl
      have c2 := K3.out.cell 3 rfl 2 rfl
      have c3 := K3.out.cell 3 rfl 3 rfl
      have f0 := K3.out.free 3 rfl 0
      have f1 := K3.out.free 3 rfl 1
      have f2 := K3.out.free 3 rfl 2
      have f3 := K3.out.free 3 rfl 3
      have K4 := hid (K3.out.set4 3 rfl (.int .i64 t1) (.int .i64 t2) (.int .i64 t3) (.slice va tl.length vc))
      go_simp
      refine hK.out _ _ ?_ (fun hHeld2 => ?_)
      focus ((try dsimp only); (exact ⟨K4.out.cell 4 rfl 0 rfl, K4.out.cell 4 rfl 1 rfl, K4.out.cell 4 rfl 2 rfl, K4.out.cell 4 rfl 3 rfl⟩))
      clear hK K
      try simp only [Act.put, List.getElem_toArray, List.getElem_cons_zero, List.getElem_cons_succ, List.setIfInBounds_toArray, List.set_cons_zero, List.set_cons_succ]
      clear c0 c1 c2 c3 f0 f1 f2 f3
      clear hHeld
      have hHeld := hHeld2
      clear hHeld2
      refine wpAnyH_take (i := 16) (oi := _) (v := ?_) rfl (by kernel_rfl) (by kernel_rfl) (by kernel_rfl) (fun _ _ _ h => h) (Or.inl ⟨by rfl, ?_⟩) (by assumption) ?_
      rotate_left
      focus (intro wS hSw; (try dsimp only at hSw); go_simp; (try with_reducible rfl))
      try simp only [Act.put, List.getElem_toArray, List.getElem_cons_zero, List.getElem_cons_succ, List.setIfInBounds_toArray, List.set_cons_zero, List.set_cons_succ]
      refine wpAnyH_done (by kernel_rfl) ?_ _
      have q0 := K4.out.cell 3 rfl 0 rfl
      have q1 := K4.out.cell 3 rfl 1 rfl
      have q2 := K4.out.cell 3 rfl 2 rfl
      have q3 := K4.out.cell 3 rfl 3 rfl
      unfold set4 at q0 q1 q2 q3
      go_wp2_with fail
      have e1 : h.toNat = nh := by have := HNH.out; omega
      have e2 : w.toNat = nw := by have := HNW.out; omega
      rw [e1, e2]
      refine bodyPost_ret (v := .tuple #[.agg #[.int .i64 t1, .int .i64 t2, .int .i64 t3, .slice va tl.length vc], .int .i64 tc]) ?_ rfl ⟨_, by rw [HTI.out, HTC.out, HT1.out, HT2.out, HT3.out], by rw [HTL.out, hB]; exact K4.out.own 0 rfl, by first | exact K4.out.below | exact K4.out.below'⟩
      simp [results, Try.results37, go_sem, q0, q1, q2, q3]
  · have HC := hid (tCode_of_k (r0 := 0) (r1 := 0) (r2 := w) (r3 := h) (left := List.replicate h.toNat 0) (top := List.replicate w.toNat 0) (corner := 0) hk)
    have HK := hid hk
    obtain ⟨kc, hkc⟩ : ∃ k, kCode w h mx zs = k := ⟨_, rfl⟩
    rw [hkc] at HC HK ⊢
    have hk1 : (kc == 0) = false := by rw [← hkc]; simpa using hk
    have hk2 : (kc != 0) = true := by rw [← hkc]; simpa using hk
    clear hk hkc
    go_wp2_with fail
    have HZ := hid (H1.out.set4 0 rfl (.int .i64 0) (.int .i64 0) (.int .i64 0) (.slice none 0 0))
    have k0 := HZ.out.cell 0 rfl 0 rfl
    have k1 := HZ.out.cell 0 rfl 1 rfl
    have k2 := HZ.out.cell 0 rfl 2 rfl
    have k3 := HZ.out.cell 0 rfl 3 rfl
    refine bodyPost_ret (v := .tuple #[.agg #[.int .i64 0, .int .i64 0, .int .i64 0, .slice none 0 0], .int .i64 kc]) ?_ rfl (tile_no HC.out HK.out (by first | exact HZ.out.below | exact HZ.out.below'))
    unfold set4 at k0 k1 k2 k3
    simp [results, Try.results37, go_sem, k0, k1, k2, k3]
end Go.Proofs.Ytoojiabdgaflgaa
