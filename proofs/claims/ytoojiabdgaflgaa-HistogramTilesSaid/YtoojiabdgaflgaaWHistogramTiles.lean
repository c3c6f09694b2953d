/-
  The walk of HistogramTiles: the histograms of the tiles, in any turn, merge to that of the plane.
-/
import Derived.Test.YtoojiabdgaflgaaWHistogramMerges
import Derived.Test.YtoojiabdgaflgaaGridP
import Derived.Test.YtoojiabdgaflgaaTilesMerge
import Derived.Deep.RegionHeld3
namespace Go.Proofs.Ytoojiabdgaflgaa
open Go.RowKit
attribute [local go_sem ↓] Go.wp_at_zero Go.wp_at_succ
set_option linter.unusedVariables false
set_option linter.unusedSimpArgs false

theorem rows_next {rs : List Ro} {r : Ro} {q : Nat} {f : Nat → List Int} (h : ∀ i, i < q → (rowLists rs).getD i [] = f i) (hq : rs.length = q) (hr : f q = r.zs) : ∀ i, i < q + 1 → (rowLists (r :: rs)).getD i [] = f i := fun i hi => by
  have hl : (rowLists rs).length = q := by simp [rowLists, hq]
  rw [rowLists_cons, List.getD_eq_getElem?_getD, List.getElem?_append]
  by_cases h1 : i < q
  · rw [if_pos (by omega), ← List.getD_eq_getElem?_getD, h i h1]
  · obtain rfl : i = q := by omega
    rw [if_neg (by omega), hl, hr]
    simp

set_option maxRecDepth 100000 in
set_option maxHeartbeats 6400000 in
theorem walk_HistogramTiles (a : Option Addr) (n c : Nat) (zs : List Int) (turn : Int) (W : World) (hr : RowIn .i64 W a n c zs) (_ : I64 turn) :
    Calls Try.prog 11 #[.slice a n c, .int .i64 turn] W fun e w' => e = .returned (.bool true) ∧ Below W.heap.size W w' := by
  obtain ⟨B, hB⟩ : ∃ B, W.heap.size = B := ⟨_, rfl⟩
  have HN := hid (near_of_row hr hB)
  have HR := hid hr
  clear hr
  go_enter Try.func11, Try.ntmps11
  go_wp2_with fail
  refine (newB_any B a n c zs _ HR.out.len HR.out.row HN.out (by omega)).mono ?_
  rintro e w0 ⟨rfl, ht, hb, hs⟩
  rw [hB] at ht ⊢
  have H0 := hid (show St B W [.tape B] [] w0 from (St.init hB).newTape ht hb hB)
  clear ht hb hs
  go_wp2_with fail
  refine (plane_any B B _ (H0.out.tapeAt 0 rfl)).mono ?_
  rintro e v1 ⟨pw, ph, pw1, pw2, ph1, ph2, pm, pv, ps, rfl, hv, hm, ho, ht, hg⟩
  have H1 := hid (H0.out.add (H0.out.next 0 rfl ht hg) ho)
  have HV := hid hv
  obtain ⟨pa, pc, rfl, _⟩ := ho.slc
  clear hv ho ht hg
  go_wp2_with fail
  refine (nextB_any B B _ _ (by omega) (H1.out.tapeAt 1 rfl)).mono ?_
  rintro e w2 ⟨x, rfl, xa, xb, htn, hgn, hsn⟩
  have H3 := hid (H1.out.next 1 rfl htn hgn)
  clear htn hgn hsn
  have xc : x < 9 := by omega
  clear xb
  go_wp2_with fail
  refine (nextB_any B B _ _ (by omega) (H3.out.tapeAt 1 rfl)).mono ?_
  rintro e w4 ⟨tx, rfl, txa, txb, htn, hgn, hsn⟩
  have H5 := hid (H3.out.next 1 rfl htn hgn)
  clear htn hgn hsn
  have txc : tx < 3 := by omega
  clear txb
  go_wp2_with fail
  refine (nextB_any B B _ _ (by omega) (H5.out.tapeAt 1 rfl)).mono ?_
  rintro e w6 ⟨ty, rfl, tya, tyb, htn, hgn, hsn⟩
  have H7 := hid (H5.out.next 1 rfl htn hgn)
  clear htn hgn hsn
  have tyc : ty < 3 := by omega
  clear tyb
  obtain ⟨D1, hD1⟩ : ∃ D, w6.heap.size = D := ⟨_, rfl⟩
  have HG := hid (show gOk pw ph (1 + tx) (1 + ty) = true from gOk_iff.2 (by omega))
  obtain ⟨n1, n2, n3, n4, n5, n6, n7, n8⟩ := gN_bd HG.out
  have HNX := hid (show (ceilD pw (1 + tx) ≤ 6 ∧ ceilD ph (1 + ty) ≤ 5) from ⟨by have := (ceilD_spec (a := pw) (b := 1 + tx) (by omega) (by omega)).2.1; omega, by have := (ceilD_spec (a := ph) (b := 1 + ty) (by omega) (by omega)).2.1; omega⟩)
  rw [← (gN HG.out).1, ← (gN HG.out).2] at HNX
  clear n2 n4 n5 n6 n7 n8
  go_wp2_with fail
  have H8 := hid (H7.out.alloc #[.int .i64 pw, .int .i64 ph, .int .i64 pm, .slice pa ps.length pc] 26 hD1)
  clear hD1
  generalize World.alloc w6 _ = v2 at *
  refine (count_any _ _ _ _ _).mono ?_
  rintro e v3 ⟨rfl, rfl⟩
  obtain ⟨nx, hnx⟩ : ∃ z, gNx pw ph (1 + tx) (1 + ty) = z := ⟨_, rfl⟩
  obtain ⟨ny, hny⟩ : ∃ z, gNy pw ph (1 + tx) (1 + ty) = z := ⟨_, rfl⟩
  rw [hnx, hny] at HNX
  rw [hnx] at n1 ⊢
  rw [hny] at n3 ⊢
  obtain ⟨N, hN⟩ : ∃ N : Nat, nx * ny = N := ⟨(nx * ny).toNat, by have := Int.mul_nonneg (a := nx) (b := ny) (by omega) (by omega); omega⟩
  obtain ⟨N1, N2⟩ : 1 ≤ N ∧ N ≤ 30 := by have h1 := Int.mul_le_mul (a := 1) (c := nx) (b := 1) (d := ny) (by omega) (by omega) (by omega) (by omega); have h2 := Int.mul_le_mul (a := nx) (c := 6) (b := ny) (d := 5) HNX.out.1 HNX.out.2 (by omega) (by omega); omega
  have HNN := hid (show gNx pw ph (1 + tx) (1 + ty) * gNy pw ph (1 + tx) (1 + ty) = N by rw [hnx, hny]; exact hN)
  clear hnx hny HNX
  obtain ⟨T, hT⟩ : ∃ T : Nat, turn % (N : Int) = T := ⟨(turn % (N : Int)).toNat, by have := Int.emod_nonneg turn (b := (N : Int)) (by omega); omega⟩
  have T1 : T < N := by have := Int.emod_lt_of_pos turn (b := (N : Int)) (by omega); omega
  have q1 : IntKind.i64.wrap (N : Int) = N := IntWalk.i64_in _ (by omega)
  go_wp2_with fail
  have H10 := hid (H8.out.arrNil)
  go_loopw [12, 13] (fun xl i wr => ∃ (q : Nat) (rs : List Ro), q ≤ N ∧ rs.length = q ∧ i = .int .i64 q ∧ (∀ i, i < q → (rowLists rs).getD i [] = tList pw ph pm ps (1 + x) (1 + tx) (1 + ty) ((i + T) % N)) ∧ St B W [.arr (22) 1 xl (rs.length) (rowVals rs), .cells D1 #[.int .i64 pw, .int .i64 ph, .int .i64 pm, .slice pa ps.length pc] 26, .own (.slice pa ps.length pc) ps, .tape B] rs wr) (fun _ i _ => N - (intOf i).toNat)
  case atStart => exact ⟨0, [], by omega, rfl, rfl, fun i hi => by omega, H10.out⟩
  case round =>
    obtain ⟨q, rs, hq, hrs, rfl, hl, hst⟩ := hrel
    obtain ⟨u2, rfl⟩ : ∃ u2 : World, u2 = wr := ⟨_, rfl⟩
    have HQ := hid hst
    have HL := hid hl
    clear hst hl
    by_cases hqn : q < N
    · have hqn' : (q : Int) < N := by omega
      obtain ⟨k, hk⟩ : ∃ k, (q + T) % N = k := ⟨_, rfl⟩
      have k1 : k < N := by rw [← hk]; exact Nat.mod_lt _ (by omega)
      have HK := hid hk
      have m2 : ((q : Int) + T) % N = k := by rw [← hk]; simp
      have m1 : ((q : Int) + T).tmod N = k := by rw [Int.tmod_eq_emod_of_nonneg (by omega)]; exact m2
      clear hk
      have HTOK := hid (show gTok pw ph (1 + tx) (1 + ty) k = true from gTok_iff.2 ⟨HG.out, by omega, by rw [HNN.out]; omega⟩)
      go_upto_region 8 with fail
      go_cut [14, 15] (fun s14 s15 wx => ∃ R : Nat, s14 = .pointer (some ⟨R, 0, none⟩) ∧ s15 = .bool true ∧ St B W [.cells R #[.int .i64 (gT0 pw ph (1 + tx) (1 + ty) k), .int .i64 (gT1 pw ph (1 + tx) (1 + ty) k), .int .i64 (gT2 pw ph (1 + tx) (1 + ty) k), .int .i64 (gT3 pw ph (1 + tx) (1 + ty) k)] 39, .arr (22) 1 u12 (rs.length) (rowVals rs), .cells D1 #[.int .i64 pw, .int .i64 ph, .int .i64 pm, .slice pa ps.length pc] 26, .own (.slice pa ps.length pc) ps, .tape B] rs wx)
      case first =>
        have H11 := hid (HQ.out.drew)
        refine wp_region_held_drew (S := (fun w' => w'.cell? ⟨D1, 0, none⟩ = some (.int .i64 pw) ∧ w'.cell? ⟨D1, 1, none⟩ = some (.int .i64 ph))) (by kernel_rfl) ⟨H11.out.cell 1 rfl 0 rfl, H11.out.cell 1 rfl 1 rfl⟩ (fun hHeld => ?_)
        generalize u2.drew = v5 at *
        have q2 : IntKind.i64.wrap ((q : Int) + T) = (q : Int) + T := IntWalk.i64_in _ (by omega)
        have q3 : IntKind.i64.wrap (k : Int) = k := IntWalk.i64_in _ (by omega)
        have q4 : (N : Int) ≠ 0 := by omega
        have q5 : ¬ N = 0 := by omega
        refine wpAnyH_take (i := 0) (oi := _) (v := ?_) rfl (by kernel_rfl) (by kernel_rfl) (by kernel_rfl) (fun _ _ _ h => h) (Or.inl ⟨by rfl, ?_⟩) (by assumption) ?_
        rotate_left
        focus (intro wS hSw; (try dsimp only at hSw); go_simp; (try with_reducible rfl))
        try simp only [Act.put, List.getElem_toArray, List.getElem_cons_zero, List.getElem_cons_succ, List.setIfInBounds_toArray, List.set_cons_zero, List.set_cons_succ]
        refine wpAnyH_take (i := 1) (oi := _) (v := ?_) rfl (by kernel_rfl) (by kernel_rfl) (by kernel_rfl) (fun _ _ _ h => h) (Or.inl ⟨by rfl, ?_⟩) (by assumption) ?_
        rotate_left
        focus (intro wS hSw; (try dsimp only at hSw); go_simp; (try with_reducible rfl))
        try simp only [Act.put, List.getElem_toArray, List.getElem_cons_zero, List.getElem_cons_succ, List.setIfInBounds_toArray, List.set_cons_zero, List.set_cons_succ]
        refine wpAnyH_take (i := 2) (oi := _) (v := ?_) rfl (by kernel_rfl) (by kernel_rfl) (by kernel_rfl) (fun _ _ _ h => h) (Or.inl ⟨by rfl, ?_⟩) (by assumption) ?_
        rotate_left
        focus (intro wS hSw; (try dsimp only at hSw); go_simp; (try with_reducible rfl))
        try simp only [Act.put, List.getElem_toArray, List.getElem_cons_zero, List.getElem_cons_succ, List.setIfInBounds_toArray, List.set_cons_zero, List.set_cons_succ]
        refine wpAnyH_take (i := 3) (oi := _) (v := ?_) rfl (by kernel_rfl) (by kernel_rfl) (by kernel_rfl) (fun _ _ _ h => h) (Or.inl ⟨by rfl, ?_⟩) (by assumption) ?_
        rotate_left
        focus (intro wS hSw; (try dsimp only at hSw); go_simp; (try with_reducible rfl))
        try simp only [Act.put, List.getElem_toArray, List.getElem_cons_zero, List.getElem_cons_succ, List.setIfInBounds_toArray, List.set_cons_zero, List.set_cons_succ]
        refine wpAnyH_take (i := 4) (oi := _) (v := ?_) rfl (by kernel_rfl) (by kernel_rfl) (by kernel_rfl) (fun _ _ _ h => h) (Or.inl ⟨by rfl, ?_⟩) (by assumption) ?_
        rotate_left
        focus (intro wS hSw; (try dsimp only at hSw); go_simp; (try with_reducible rfl))
        try simp only [Act.put, List.getElem_toArray, List.getElem_cons_zero, List.getElem_cons_succ, List.setIfInBounds_toArray, List.set_cons_zero, List.set_cons_succ]
        refine wpAnyH_take (i := 5) (oi := _) (v := ?_) rfl (by kernel_rfl) (by kernel_rfl) (by kernel_rfl) (fun _ _ _ h => h) (Or.inl ⟨by rfl, ?_⟩) (by assumption) ?_
        rotate_left
        focus (intro wS hSw; (try dsimp only at hSw); go_simp; (try with_reducible rfl))
        try simp only [Act.put, List.getElem_toArray, List.getElem_cons_zero, List.getElem_cons_succ, List.setIfInBounds_toArray, List.set_cons_zero, List.set_cons_succ]
        refine wpAnyH_take (i := 6) (oi := _) (v := ?_) rfl (by kernel_rfl) (by kernel_rfl) (by kernel_rfl) (fun _ _ _ h => h) (Or.inl ⟨by rfl, ?_⟩) (by assumption) ?_
        rotate_left
        focus (intro wS hSw; (try dsimp only at hSw); go_simp; (try with_reducible rfl))
        try simp only [Act.put, List.getElem_toArray, List.getElem_cons_zero, List.getElem_cons_succ, List.setIfInBounds_toArray, List.set_cons_zero, List.set_cons_succ]
        refine wpAnyH_take (i := 7) (oi := _) (v := ?_) rfl (by kernel_rfl) (by kernel_rfl) (by kernel_rfl) (fun _ _ _ h => h) (Or.inl ⟨by rfl, ?_⟩) (by assumption) ?_
        rotate_left
        focus (intro wS hSw; (try dsimp only at hSw); go_simp; (try with_reducible rfl))
        try simp only [Act.put, List.getElem_toArray, List.getElem_cons_zero, List.getElem_cons_succ, List.setIfInBounds_toArray, List.set_cons_zero, List.set_cons_succ]
        refine wpAnyH_take (i := 8) (oi := _) (v := ?_) rfl (by kernel_rfl) (by kernel_rfl) (by kernel_rfl) (fun _ _ _ h => h) (Or.inl ⟨by rfl, ?_⟩) (by assumption) ?_
        rotate_left
        focus (intro wS hSw; (try dsimp only at hSw); go_simp; (try with_reducible rfl))
        try simp only [Act.put, List.getElem_toArray, List.getElem_cons_zero, List.getElem_cons_succ, List.setIfInBounds_toArray, List.set_cons_zero, List.set_cons_succ]
        refine wpAnyH_take (i := 9) (oi := _) (v := ?_) rfl (by kernel_rfl) (by kernel_rfl) (by kernel_rfl) (fun _ _ _ h => h) (Or.inl ⟨by rfl, ?_⟩) (by assumption) ?_
        rotate_left
        focus (intro wS hSw; (try dsimp only at hSw); go_simp; (try with_reducible rfl))
        try simp only [Act.put, List.getElem_toArray, List.getElem_cons_zero, List.getElem_cons_succ, List.setIfInBounds_toArray, List.set_cons_zero, List.set_cons_succ]
        refine wpAnyH_take (i := 10) (oi := _) (v := ?_) rfl (by kernel_rfl) (by kernel_rfl) (by kernel_rfl) (fun _ _ _ h => h) (Or.inl ⟨by rfl, ?_⟩) (by assumption) ?_
        rotate_left
        focus (intro wS hSw; (try dsimp only at hSw); go_simp; (try with_reducible rfl))
        try simp only [Act.put, List.getElem_toArray, List.getElem_cons_zero, List.getElem_cons_succ, List.setIfInBounds_toArray, List.set_cons_zero, List.set_cons_succ]
        refine wpAnyH_take (i := 13) (oi := _) (v := ?_) rfl (by kernel_rfl) (by kernel_rfl) (by kernel_rfl) (fun _ _ _ h => h) (Or.inl ⟨by rfl, ?_⟩) (by assumption) ?_
        rotate_left
        focus (intro wS hSw; (try dsimp only at hSw); go_simp; (try with_reducible rfl))
        try simp only [Act.put, List.getElem_toArray, List.getElem_cons_zero, List.getElem_cons_succ, List.setIfInBounds_toArray, List.set_cons_zero, List.set_cons_succ]
        refine wpAnyH_take (i := 14) (oi := _) (v := ?_) rfl (by kernel_rfl) (by kernel_rfl) (by kernel_rfl) (fun _ _ _ h => h) (Or.inl ⟨by rfl, ?_⟩) (by assumption) ?_
        rotate_left
        focus (intro wS hSw; (try dsimp only at hSw); go_simp; (try with_reducible rfl))
        try simp only [Act.put, List.getElem_toArray, List.getElem_cons_zero, List.getElem_cons_succ, List.setIfInBounds_toArray, List.set_cons_zero, List.set_cons_succ]
        refine wpAnyH_take (i := 15) (oi := _) (v := ?_) rfl (by kernel_rfl) (by kernel_rfl) (by kernel_rfl) (fun _ _ _ h => h) (Or.inl ⟨by rfl, ?_⟩) (by assumption) ?_
        rotate_left
        focus (intro wS hSw; (try dsimp only at hSw); go_simp; (try with_reducible rfl))
        try simp only [Act.put, List.getElem_toArray, List.getElem_cons_zero, List.getElem_cons_succ, List.setIfInBounds_toArray, List.set_cons_zero, List.set_cons_succ]
        refine wpAnyH_ready (rs := [11, 21]) (by kernel_rfl) (by simp) (AllReadyH.cons (o := _) rfl (fun K hK => ?_) (AllReadyH.cons (o := _) rfl (fun K hK => ?_) AllReadyH.nil))
        · go_simp
          go_at_call 23; refine (mod_any _ _ _ (by omega) (by omega)).mono ?_; rintro e w' ⟨rfl, rfl⟩; rw [hT]
          refine hK.out _ _ ?_ (fun hHeld2 => ?_)
          focus ((try dsimp only); (exact hHeld))
          clear hK K
          try simp only [Act.put, List.getElem_toArray, List.getElem_cons_zero, List.getElem_cons_succ, List.setIfInBounds_toArray, List.set_cons_zero, List.set_cons_succ]
          clear hHeld2
          refine wpAnyH_take (i := 12) (oi := _) (v := ?_) rfl (by kernel_rfl) (by kernel_rfl) (by kernel_rfl) (fun _ _ _ h => h) (Or.inl ⟨by rfl, ?_⟩) (by assumption) ?_
          rotate_left
          focus (intro wS hSw; (try dsimp only at hSw); go_simp; (try with_reducible rfl))
          try simp only [Act.put, List.getElem_toArray, List.getElem_cons_zero, List.getElem_cons_succ, List.setIfInBounds_toArray, List.set_cons_zero, List.set_cons_succ]
          refine wpAnyH_take (i := 16) (oi := _) (v := ?_) rfl (by kernel_rfl) (by kernel_rfl) (by kernel_rfl) (fun _ _ _ h => h) (Or.inl ⟨by rfl, ?_⟩) (by assumption) ?_
          rotate_left
          focus (intro wS hSw; (try dsimp only at hSw); go_simp; (try with_reducible rfl))
          try simp only [Act.put, List.getElem_toArray, List.getElem_cons_zero, List.getElem_cons_succ, List.setIfInBounds_toArray, List.set_cons_zero, List.set_cons_succ]
          refine wpAnyH_ready (rs := [17, 21]) (by kernel_rfl) (by simp) (AllReadyH.cons (o := _) rfl (fun K hK => ?_) (AllReadyH.cons (o := _) rfl (fun K hK => ?_) AllReadyH.nil))
          · go_simp
            go_at_call 47; refine (tile_any _ _ _ _ _ _ (by omega)).mono ?_; rintro e k301 ⟨rfl, hbs⟩; rw [HTOK.out]; have K301 := hid (H11.out.call hbs); clear hbs
            refine hK.out _ _ ?_ (fun hHeld2 => ?_)
            focus ((try dsimp only); (exact ⟨K301.out.cell 1 rfl 0 rfl, K301.out.cell 1 rfl 1 rfl⟩))
            clear hK K
            try simp only [Act.put, List.getElem_toArray, List.getElem_cons_zero, List.getElem_cons_succ, List.setIfInBounds_toArray, List.set_cons_zero, List.set_cons_succ]
            clear hHeld
            have hHeld := hHeld2
            clear hHeld2
            refine wpAnyH_take (i := 18) (oi := _) (v := ?_) rfl (by kernel_rfl) (by kernel_rfl) (by kernel_rfl) (fun _ _ _ h => h) (Or.inl ⟨by rfl, ?_⟩) (by assumption) ?_
            rotate_left
            focus (intro wS hSw; (try dsimp only at hSw); go_simp; (try with_reducible rfl))
            try simp only [Act.put, List.getElem_toArray, List.getElem_cons_zero, List.getElem_cons_succ, List.setIfInBounds_toArray, List.set_cons_zero, List.set_cons_succ]
            refine wpAnyH_take (i := 19) (oi := _) (v := ?_) rfl (by kernel_rfl) (by kernel_rfl) (by kernel_rfl) (fun _ _ _ h => h) (Or.inl ⟨by rfl, ?_⟩) (by assumption) ?_
            rotate_left
            focus (intro wS hSw; (try dsimp only at hSw); go_simp; (try with_reducible rfl))
            try simp only [Act.put, List.getElem_toArray, List.getElem_cons_zero, List.getElem_cons_succ, List.setIfInBounds_toArray, List.set_cons_zero, List.set_cons_succ]
            refine wpAnyH_take (i := 20) (oi := _) (v := ?_) rfl (by kernel_rfl) (by kernel_rfl) (by kernel_rfl) (fun _ _ _ h => h) (Or.inl ⟨by rfl, ?_⟩) (by assumption) ?_
            rotate_left
            focus (intro wS hSw; (try dsimp only at hSw); go_simp; (try with_reducible rfl))
            try simp only [Act.put, List.getElem_toArray, List.getElem_cons_zero, List.getElem_cons_succ, List.setIfInBounds_toArray, List.set_cons_zero, List.set_cons_succ]
            refine wpAnyH_ready (rs := [21]) (by kernel_rfl) (by simp) (AllReadyH.cons (o := _) rfl (fun K hK => ?_) AllReadyH.nil)
            obtain ⟨R, hR302⟩ : ∃ L, k301.heap.size = L := ⟨_, rfl⟩
            have K302 := hid (K301.out.alloc #[.int .i64 0, .int .i64 0, .int .i64 0, .int .i64 0] 39 hR302)
            go_simp
            refine hK.out _ _ ?_ (fun hHeld2 => ?_)
            focus ((try dsimp only); (exact ⟨K302.out.cell 2 rfl 0 rfl, K302.out.cell 2 rfl 1 rfl⟩))
            clear hK K
            try simp only [Act.put, List.getElem_toArray, List.getElem_cons_zero, List.getElem_cons_succ, List.setIfInBounds_toArray, List.set_cons_zero, List.set_cons_succ]
            clear hR302
            clear hHeld
            have hHeld := hHeld2
            clear hHeld2
            generalize World.alloc k301 _ = k302 at *
            refine wpAnyH_ready (rs := [22]) (by kernel_rfl) (by simp) (AllReadyH.cons (o := _) rfl (fun K hK => ?_) AllReadyH.nil)
            have c0 := K302.out.cell 0 rfl 0 rfl
            have c1 := K302.out.cell 0 rfl 1 rfl
            have c2 := K302.out.cell 0 rfl 2 rfl
            have c3 := K302.out.cell 0 rfl 3 rfl
            have f0 := K302.out.free 0 rfl 0
            have f1 := K302.out.free 0 rfl 1
            have f2 := K302.out.free 0 rfl 2
            have f3 := K302.out.free 0 rfl 3
            have K303 := hid (K302.out.set4 0 rfl (.int .i64 (gT0 pw ph (1 + tx) (1 + ty) k)) (.int .i64 (gT1 pw ph (1 + tx) (1 + ty) k)) (.int .i64 (gT2 pw ph (1 + tx) (1 + ty) k)) (.int .i64 (gT3 pw ph (1 + tx) (1 + ty) k)))
            go_simp
            refine hK.out _ _ ?_ (fun hHeld2 => ?_)
            focus ((try dsimp only); (exact ⟨K303.out.cell 2 rfl 0 rfl, K303.out.cell 2 rfl 1 rfl⟩))
            clear hK K
            try simp only [Act.put, List.getElem_toArray, List.getElem_cons_zero, List.getElem_cons_succ, List.setIfInBounds_toArray, List.set_cons_zero, List.set_cons_succ]
            clear c0 c1 c2 c3 f0 f1 f2 f3
            clear hHeld
            have hHeld := hHeld2
            clear hHeld2
            refine wpAnyH_take (i := 23) (oi := _) (v := ?_) rfl (by kernel_rfl) (by kernel_rfl) (by kernel_rfl) (fun _ _ _ h => h) (Or.inl ⟨by rfl, ?_⟩) (by assumption) ?_
            rotate_left
            focus (intro wS hSw; (try dsimp only at hSw); go_simp; (try with_reducible rfl))
            try simp only [Act.put, List.getElem_toArray, List.getElem_cons_zero, List.getElem_cons_succ, List.setIfInBounds_toArray, List.set_cons_zero, List.set_cons_succ]
            refine wpAnyH_done (by kernel_rfl) ?_ _
            clear hHeld
            go_wp2_with fail
            go_meet
            exact ⟨R, rfl, rfl, K303.out.pick [0, 1, 2, 3, 4] rfl (by decide)⟩
          · obtain ⟨R, hR301⟩ : ∃ L, v5.heap.size = L := ⟨_, rfl⟩
            have K301 := hid (H11.out.alloc #[.int .i64 0, .int .i64 0, .int .i64 0, .int .i64 0] 39 hR301)
            go_simp
            refine hK.out _ _ ?_ (fun hHeld2 => ?_)
            focus ((try dsimp only); (exact ⟨K301.out.cell 2 rfl 0 rfl, K301.out.cell 2 rfl 1 rfl⟩))
            clear hK K
            try simp only [Act.put, List.getElem_toArray, List.getElem_cons_zero, List.getElem_cons_succ, List.setIfInBounds_toArray, List.set_cons_zero, List.set_cons_succ]
            clear hR301
            clear hHeld
            have hHeld := hHeld2
            clear hHeld2
            generalize World.alloc v5 _ = k301 at *
            refine wpAnyH_ready (rs := [17]) (by kernel_rfl) (by simp) (AllReadyH.cons (o := _) rfl (fun K hK => ?_) AllReadyH.nil)
            go_simp
            go_at_call 47; refine (tile_any _ _ _ _ _ _ (by omega)).mono ?_; rintro e k302 ⟨rfl, hbs⟩; rw [HTOK.out]; have K302 := hid (K301.out.call hbs); clear hbs
            refine hK.out _ _ ?_ (fun hHeld2 => ?_)
            focus ((try dsimp only); (exact ⟨K302.out.cell 2 rfl 0 rfl, K302.out.cell 2 rfl 1 rfl⟩))
            clear hK K
            try simp only [Act.put, List.getElem_toArray, List.getElem_cons_zero, List.getElem_cons_succ, List.setIfInBounds_toArray, List.set_cons_zero, List.set_cons_succ]
            clear hHeld
            have hHeld := hHeld2
            clear hHeld2
            refine wpAnyH_take (i := 18) (oi := _) (v := ?_) rfl (by kernel_rfl) (by kernel_rfl) (by kernel_rfl) (fun _ _ _ h => h) (Or.inl ⟨by rfl, ?_⟩) (by assumption) ?_
            rotate_left
            focus (intro wS hSw; (try dsimp only at hSw); go_simp; (try with_reducible rfl))
            try simp only [Act.put, List.getElem_toArray, List.getElem_cons_zero, List.getElem_cons_succ, List.setIfInBounds_toArray, List.set_cons_zero, List.set_cons_succ]
            refine wpAnyH_take (i := 19) (oi := _) (v := ?_) rfl (by kernel_rfl) (by kernel_rfl) (by kernel_rfl) (fun _ _ _ h => h) (Or.inl ⟨by rfl, ?_⟩) (by assumption) ?_
            rotate_left
            focus (intro wS hSw; (try dsimp only at hSw); go_simp; (try with_reducible rfl))
            try simp only [Act.put, List.getElem_toArray, List.getElem_cons_zero, List.getElem_cons_succ, List.setIfInBounds_toArray, List.set_cons_zero, List.set_cons_succ]
            refine wpAnyH_take (i := 20) (oi := _) (v := ?_) rfl (by kernel_rfl) (by kernel_rfl) (by kernel_rfl) (fun _ _ _ h => h) (Or.inl ⟨by rfl, ?_⟩) (by assumption) ?_
            rotate_left
            focus (intro wS hSw; (try dsimp only at hSw); go_simp; (try with_reducible rfl))
            try simp only [Act.put, List.getElem_toArray, List.getElem_cons_zero, List.getElem_cons_succ, List.setIfInBounds_toArray, List.set_cons_zero, List.set_cons_succ]
            refine wpAnyH_ready (rs := [22]) (by kernel_rfl) (by simp) (AllReadyH.cons (o := _) rfl (fun K hK => ?_) AllReadyH.nil)
            have c0 := K302.out.cell 0 rfl 0 rfl
            have c1 := K302.out.cell 0 rfl 1 rfl
            have c2 := K302.out.cell 0 rfl 2 rfl
            have c3 := K302.out.cell 0 rfl 3 rfl
            have f0 := K302.out.free 0 rfl 0
            have f1 := K302.out.free 0 rfl 1
            have f2 := K302.out.free 0 rfl 2
            have f3 := K302.out.free 0 rfl 3
            have K303 := hid (K302.out.set4 0 rfl (.int .i64 (gT0 pw ph (1 + tx) (1 + ty) k)) (.int .i64 (gT1 pw ph (1 + tx) (1 + ty) k)) (.int .i64 (gT2 pw ph (1 + tx) (1 + ty) k)) (.int .i64 (gT3 pw ph (1 + tx) (1 + ty) k)))
            go_simp
            refine hK.out _ _ ?_ (fun hHeld2 => ?_)
            focus ((try dsimp only); (exact ⟨K303.out.cell 2 rfl 0 rfl, K303.out.cell 2 rfl 1 rfl⟩))
            clear hK K
            try simp only [Act.put, List.getElem_toArray, List.getElem_cons_zero, List.getElem_cons_succ, List.setIfInBounds_toArray, List.set_cons_zero, List.set_cons_succ]
            clear c0 c1 c2 c3 f0 f1 f2 f3
            clear hHeld
            have hHeld := hHeld2
            clear hHeld2
            refine wpAnyH_take (i := 23) (oi := _) (v := ?_) rfl (by kernel_rfl) (by kernel_rfl) (by kernel_rfl) (fun _ _ _ h => h) (Or.inl ⟨by rfl, ?_⟩) (by assumption) ?_
            rotate_left
            focus (intro wS hSw; (try dsimp only at hSw); go_simp; (try with_reducible rfl))
            try simp only [Act.put, List.getElem_toArray, List.getElem_cons_zero, List.getElem_cons_succ, List.setIfInBounds_toArray, List.set_cons_zero, List.set_cons_succ]
            refine wpAnyH_done (by kernel_rfl) ?_ _
            clear hHeld
            go_wp2_with fail
            go_meet
            exact ⟨R, rfl, rfl, K303.out.pick [0, 1, 2, 3, 4] rfl (by decide)⟩
        · obtain ⟨R, hR301⟩ : ∃ L, v5.heap.size = L := ⟨_, rfl⟩
          have K301 := hid (H11.out.alloc #[.int .i64 0, .int .i64 0, .int .i64 0, .int .i64 0] 39 hR301)
          go_simp
          refine hK.out _ _ ?_ (fun hHeld2 => ?_)
          focus ((try dsimp only); (exact ⟨K301.out.cell 2 rfl 0 rfl, K301.out.cell 2 rfl 1 rfl⟩))
          clear hK K
          try simp only [Act.put, List.getElem_toArray, List.getElem_cons_zero, List.getElem_cons_succ, List.setIfInBounds_toArray, List.set_cons_zero, List.set_cons_succ]
          clear hR301
          clear hHeld
          have hHeld := hHeld2
          clear hHeld2
          generalize World.alloc v5 _ = k301 at *
          refine wpAnyH_ready (rs := [11]) (by kernel_rfl) (by simp) (AllReadyH.cons (o := _) rfl (fun K hK => ?_) AllReadyH.nil)
          go_simp
          go_at_call 23; refine (mod_any _ _ _ (by omega) (by omega)).mono ?_; rintro e w' ⟨rfl, rfl⟩; rw [hT]
          refine hK.out _ _ ?_ (fun hHeld2 => ?_)
          focus ((try dsimp only); (exact hHeld))
          clear hK K
          try simp only [Act.put, List.getElem_toArray, List.getElem_cons_zero, List.getElem_cons_succ, List.setIfInBounds_toArray, List.set_cons_zero, List.set_cons_succ]
          clear hHeld2
          refine wpAnyH_take (i := 12) (oi := _) (v := ?_) rfl (by kernel_rfl) (by kernel_rfl) (by kernel_rfl) (fun _ _ _ h => h) (Or.inl ⟨by rfl, ?_⟩) (by assumption) ?_
          rotate_left
          focus (intro wS hSw; (try dsimp only at hSw); go_simp; (try with_reducible rfl))
          try simp only [Act.put, List.getElem_toArray, List.getElem_cons_zero, List.getElem_cons_succ, List.setIfInBounds_toArray, List.set_cons_zero, List.set_cons_succ]
          refine wpAnyH_take (i := 16) (oi := _) (v := ?_) rfl (by kernel_rfl) (by kernel_rfl) (by kernel_rfl) (fun _ _ _ h => h) (Or.inl ⟨by rfl, ?_⟩) (by assumption) ?_
          rotate_left
          focus (intro wS hSw; (try dsimp only at hSw); go_simp; (try with_reducible rfl))
          try simp only [Act.put, List.getElem_toArray, List.getElem_cons_zero, List.getElem_cons_succ, List.setIfInBounds_toArray, List.set_cons_zero, List.set_cons_succ]
          refine wpAnyH_ready (rs := [17]) (by kernel_rfl) (by simp) (AllReadyH.cons (o := _) rfl (fun K hK => ?_) AllReadyH.nil)
          go_simp
          go_at_call 47; refine (tile_any _ _ _ _ _ _ (by omega)).mono ?_; rintro e k302 ⟨rfl, hbs⟩; rw [HTOK.out]; have K302 := hid (K301.out.call hbs); clear hbs
          refine hK.out _ _ ?_ (fun hHeld2 => ?_)
          focus ((try dsimp only); (exact ⟨K302.out.cell 2 rfl 0 rfl, K302.out.cell 2 rfl 1 rfl⟩))
          clear hK K
          try simp only [Act.put, List.getElem_toArray, List.getElem_cons_zero, List.getElem_cons_succ, List.setIfInBounds_toArray, List.set_cons_zero, List.set_cons_succ]
          clear hHeld
          have hHeld := hHeld2
          clear hHeld2
          refine wpAnyH_take (i := 18) (oi := _) (v := ?_) rfl (by kernel_rfl) (by kernel_rfl) (by kernel_rfl) (fun _ _ _ h => h) (Or.inl ⟨by rfl, ?_⟩) (by assumption) ?_
          rotate_left
          focus (intro wS hSw; (try dsimp only at hSw); go_simp; (try with_reducible rfl))
          try simp only [Act.put, List.getElem_toArray, List.getElem_cons_zero, List.getElem_cons_succ, List.setIfInBounds_toArray, List.set_cons_zero, List.set_cons_succ]
          refine wpAnyH_take (i := 19) (oi := _) (v := ?_) rfl (by kernel_rfl) (by kernel_rfl) (by kernel_rfl) (fun _ _ _ h => h) (Or.inl ⟨by rfl, ?_⟩) (by assumption) ?_
          rotate_left
          focus (intro wS hSw; (try dsimp only at hSw); go_simp; (try with_reducible rfl))
          try simp only [Act.put, List.getElem_toArray, List.getElem_cons_zero, List.getElem_cons_succ, List.setIfInBounds_toArray, List.set_cons_zero, List.set_cons_succ]
          refine wpAnyH_take (i := 20) (oi := _) (v := ?_) rfl (by kernel_rfl) (by kernel_rfl) (by kernel_rfl) (fun _ _ _ h => h) (Or.inl ⟨by rfl, ?_⟩) (by assumption) ?_
          rotate_left
          focus (intro wS hSw; (try dsimp only at hSw); go_simp; (try with_reducible rfl))
          try simp only [Act.put, List.getElem_toArray, List.getElem_cons_zero, List.getElem_cons_succ, List.setIfInBounds_toArray, List.set_cons_zero, List.set_cons_succ]
          refine wpAnyH_ready (rs := [22]) (by kernel_rfl) (by simp) (AllReadyH.cons (o := _) rfl (fun K hK => ?_) AllReadyH.nil)
          have c0 := K302.out.cell 0 rfl 0 rfl
          have c1 := K302.out.cell 0 rfl 1 rfl
          have c2 := K302.out.cell 0 rfl 2 rfl
          have c3 := K302.out.cell 0 rfl 3 rfl
          have f0 := K302.out.free 0 rfl 0
          have f1 := K302.out.free 0 rfl 1
          have f2 := K302.out.free 0 rfl 2
          have f3 := K302.out.free 0 rfl 3
          have K303 := hid (K302.out.set4 0 rfl (.int .i64 (gT0 pw ph (1 + tx) (1 + ty) k)) (.int .i64 (gT1 pw ph (1 + tx) (1 + ty) k)) (.int .i64 (gT2 pw ph (1 + tx) (1 + ty) k)) (.int .i64 (gT3 pw ph (1 + tx) (1 + ty) k)))
          go_simp
          refine hK.out _ _ ?_ (fun hHeld2 => ?_)
          focus ((try dsimp only); (exact ⟨K303.out.cell 2 rfl 0 rfl, K303.out.cell 2 rfl 1 rfl⟩))
          clear hK K
          try simp only [Act.put, List.getElem_toArray, List.getElem_cons_zero, List.getElem_cons_succ, List.setIfInBounds_toArray, List.set_cons_zero, List.set_cons_succ]
          clear c0 c1 c2 c3 f0 f1 f2 f3
          clear hHeld
          have hHeld := hHeld2
          clear hHeld2
          refine wpAnyH_take (i := 23) (oi := _) (v := ?_) rfl (by kernel_rfl) (by kernel_rfl) (by kernel_rfl) (fun _ _ _ h => h) (Or.inl ⟨by rfl, ?_⟩) (by assumption) ?_
          rotate_left
          focus (intro wS hSw; (try dsimp only at hSw); go_simp; (try with_reducible rfl))
          try simp only [Act.put, List.getElem_toArray, List.getElem_cons_zero, List.getElem_cons_succ, List.setIfInBounds_toArray, List.set_cons_zero, List.set_cons_succ]
          refine wpAnyH_done (by kernel_rfl) ?_ _
          clear hHeld
          go_wp2_with fail
          go_meet
          exact ⟨R, rfl, rfl, K303.out.pick [0, 1, 2, 3, 4] rfl (by decide)⟩
      case rest =>
        obtain ⟨R, rfl, rfl, hst⟩ := hcut
        have HC := hid hst
        clear hst m1 m2
        have z0_0 := HC.out.cell 0 rfl 0 rfl
        have z0_1 := HC.out.cell 0 rfl 1 rfl
        have z0_2 := HC.out.cell 0 rfl 2 rfl
        have z0_3 := HC.out.cell 0 rfl 3 rfl
        have z2_0 := HC.out.cell 2 rfl 0 rfl
        have z2_1 := HC.out.cell 2 rfl 1 rfl
        have z2_2 := HC.out.cell 2 rfl 2 rfl
        have z2_3 := HC.out.cell 2 rfl 3 rfl
        go_wp2_with fail
        refine (partial_any pw ph pm _ _ _ ps (1 + x) _ _ _ _ _ (HC.out.slc 3 rfl)).mono ?_
        rintro e w7 ⟨va, rfl, ho, hb⟩
        rw [hOk_in HV.out (by omega) (by omega) (tile_in HTOK.out)]
        have ho' : Own _ w7 va (tList pw ph pm ps (1 + x) (1 + tx) (1 + ty) k) := ho
        have H11 := hid (HC.out.grow hb ho')
        clear z0_0 z0_1 z0_2 z0_3 z2_0 z2_1 z2_2 z2_3
        obtain ⟨ll, hll⟩ : ∃ l, tList pw ph pm ps (1 + x) (1 + tx) (1 + ty) k = l := ⟨_, rfl⟩
        rw [hll] at H11 ho'
        have HLL := hid hll
        obtain ⟨ya, yc, rfl, hsy⟩ := ho'.slc
        clear hsy ho ho' hb hll
        obtain ⟨D3, hD3⟩ : ∃ D, w7.heap.size = D := ⟨_, rfl⟩
        have H12 := hid (H11.out.freeze 0 rfl)
        have HF := hid (show St B W [.cells R #[.int .i64 (gT0 pw ph (1 + tx) (1 + ty) k), .int .i64 (gT1 pw ph (1 + tx) (1 + ty) k), .int .i64 (gT2 pw ph (1 + tx) (1 + ty) k), .int .i64 (gT3 pw ph (1 + tx) (1 + ty) k)] 39, .arr (22) 1 u12 (rs.length) (rowVals rs), .cells D1 #[.int .i64 pw, .int .i64 ph, .int .i64 pm, .slice pa ps.length pc] 26, .own (.slice pa ps.length pc) ps, .tape B] (⟨ya, ll.length, yc, ll⟩ :: rs) _ from H12.out)
        have H13 := hid (HF.out.alloc #[.slice ya ll.length yc] 22 hD3)
        go_wp2_with (first | (at_builtin; refine append_val rfl _ _ rfl B _ (rowVals rs) ⟨ya, ll.length, yc, ll⟩ D3 1 rfl rfl (by rw [rowVals_len]; exact H13.out.arr 2 rfl) (H13.out.cell 0 rfl 0 rfl) (by rw [rowVals_len]; omega) H13.out.size ?_; intro v6 w6 ho hg hv; rw [← rowVals_cons, rowVals_len] at ho; have H14 := hid (H13.out.appendArr 2 rfl ho hg hv); clear ho hg hv))
        go_roundw
        case rel => exact ⟨q + 1, ⟨ya, ll.length, yc, ll⟩ :: rs, by omega, by simp [hrs], by go_num, rows_next HL.out hrs (by rw [HK.out, HLL.out]), H14.out.pick [2, 3, 4, 5] rfl (by decide)⟩
        case measure => simp [intOf]; omega
    · have hqn' : ¬ ((q : Int) < N) := by omega
      obtain ⟨xa, xn, xc', rfl⟩ : ∃ a n c, u12 = .slice a n c := HQ.out.arrForm3 0 rfl
      have HMX := hid (HQ.out.mat' 0 rfl).2
      have HT := hid (tiles_merge HV.out (bins := 1 + x) (by omega) (by omega) HG.out HNN.out T1 (by omega) (L := rowLists rs) (by simp [rowLists]; omega) (fun i hi => HL.out i (by omega)))
      have HW := hid (whole_counts HV.out (bins := 1 + x) (by omega) (by omega))
      have HTO := hid (all_total HV.out (bins := 1 + x) (by omega) (by omega))
      have HBD := hid (fun m hm => whole_bd HV.out (bins := 1 + x) (by omega) (by omega) (m := m) hm)
      go_wp2_with fail
      refine (merge_any _ _ _ (rowLists rs) _ HMX.out).mono ?_
      rintro e w7 ⟨va, rfl, ho, hb⟩
      rw [HT.out.1]
      rw [HT.out.2] at ho
      have H11 := hid (HQ.out.grow hb ho)
      obtain ⟨li, hli⟩ : ∃ li, hList pw ph pm ps (1 + x) 0 0 pw ph = li := ⟨_, rfl⟩
      rw [hli] at H11 ho HTO HBD HW
      obtain ⟨nb, hnb⟩ : ∃ nb, li.length = nb := ⟨_, rfl⟩
      have HLEN := hid hnb
      have nb1 : nb = (1 + x).toNat := by rw [← hnb]; exact HW.out.2.1
      have nb2 : 1 ≤ nb := by omega
      have nb3 : nb ≤ 9 := by omega
      have HNB := hid nb1
      obtain ⟨ga, ca, rfl⟩ := ho.pos (by omega)
      rw [hnb] at H11 ⊢
      have HLI := hid hli
      clear ho hb hli hnb nb1
      have z2_0 := H11.out.cell 2 rfl 0 rfl
      have z2_1 := H11.out.cell 2 rfl 1 rfl
      have z2_2 := H11.out.cell 2 rfl 2 rfl
      have z2_3 := H11.out.cell 2 rfl 3 rfl
      go_wp2_with fail
      clear z2_0 z2_1 z2_2 z2_3
      refine (whole_any pw ph pm _ _ _ ps (1 + x) _ (H11.out.slc 3 rfl)).mono ?_
      rintro e w8 ⟨vb, rfl, ho, hb⟩
      rw [show wCode pw ph pm ps (1 + x) = 0 from HW.out.1]
      simp only [show ∀ y, wIf pw ph pm ps (1 + x) y = y from fun y => by unfold wIf; rw [if_pos (show wCode pw ph pm ps (1 + x) = 0 from HW.out.1)]]
      rw [HLI.out] at ho
      have H12 := hid (H11.out.grow hb ho)
      obtain ⟨gb, cb, rfl⟩ := ho.pos (by have := HLEN.out; omega)
      rw [HLEN.out] at H12 ⊢
      clear ho hb
      obtain ⟨D4, hD4⟩ : ∃ D, w8.heap.size = D := ⟨_, rfl⟩
      have H13 := hid (H12.out.alloc #[.int .i64 (1 + x), .int .i64 1, .int .i64 (pw * ph), .slice (some ⟨gb, 0, none⟩) nb cb] 26 hD4)
      go_wp2_with fail
      clear hD4 H0
      generalize World.alloc w8 _ = w9 at *
      go_loop [22, 23] (fun s i => ∃ m : Nat, m ≤ nb ∧ i = .int .i64 m ∧ s = .int .i64 (sumN (fun i => li.getD i 0) m)) (fun _ i => nb - (intOf i).toNat)
      case atStart => exact ⟨0, by omega, rfl, rfl⟩
      case round =>
        obtain ⟨m, hm, rfl, rfl⟩ := hrel
        by_cases hmn : m < nb
        · have hm2 : (m : Int) < nb := by omega
          obtain ⟨s1, _⟩ := H13.out.get 2 rfl (j := m) (by rw [HLEN.out]; exact hmn)
          have hb1 := sumN_nonneg (f := fun i => li.getD i 0) (n := m) (fun i hi => (HBD.out i (by have := HNB.out; omega)).1)
          have hb2 := sumN_le (f := fun i => li.getD i 0) (g := fun _ => 4096) (n := m) (fun i hi => (HBD.out i (by have := HNB.out; omega)).2)
          rw [sumN_const] at hb2
          obtain ⟨hb3, hb4⟩ := HBD.out m (by have := HNB.out; omega)
          have HS : Hid (sumN (fun i => li.getD i 0) m + li.getD m 0 = sumN (fun i => li.getD i 0) (m + 1)) := rfl
          generalize sumN (fun i => li.getD i 0) m = sm at *
          generalize li.getD m 0 = lm at *
          go_wp2_with fail
          go_round
          case rel => exact ⟨m + 1, by omega, by go_num, by rw [← HS.out]⟩
          case measure => simp [intOf]; omega
        · have hm2 : ¬ ((m : Int) < nb) := by omega
          have hsum : sumN (fun i => li.getD i 0) m = pw * ph := by rw [← HTO.out]; congr 1; have := HNB.out; omega
          rw [hsum]
          clear hsum
          have z0_0 := H13.out.cell 0 rfl 0 rfl
          have z0_1 := H13.out.cell 0 rfl 1 rfl
          have z0_2 := H13.out.cell 0 rfl 2 rfl
          have z0_3 := H13.out.cell 0 rfl 3 rfl
          have z4_0 := H13.out.cell 4 rfl 0 rfl
          have z4_1 := H13.out.cell 4 rfl 1 rfl
          have z4_2 := H13.out.cell 4 rfl 2 rfl
          have z4_3 := H13.out.cell 4 rfl 3 rfl
          have hp1 := Int.mul_nonneg (a := pw) (b := ph) (by omega) (by omega)
          have hp2 := Int.mul_le_mul (a := pw) (c := 6) (b := ph) (d := 5) (by omega) (by omega) (by omega) (by omega)
          go_wp2_with fail
          clear z0_0 z0_1 z0_2 z0_3 z4_0 z4_1 z4_2 z4_3
          refine (qsame_any _ _ _ li _ _ _ li _ (H13.out.slc 2 rfl) (H13.out.slc 1 rfl)).mono ?_
          rintro e w15 ⟨rfl, dm, hdm⟩
          subst hdm
          have H16 := hid (H13.out.drewN dm)
          generalize World.drewN w9 dm = w15 at *
          rw [show lEq li li = true from by simp [lEq]]
          have z0_0 := H16.out.cell 0 rfl 0 rfl
          have z0_1 := H16.out.cell 0 rfl 1 rfl
          have z0_2 := H16.out.cell 0 rfl 2 rfl
          have z0_3 := H16.out.cell 0 rfl 3 rfl
          have z4_0 := H16.out.cell 4 rfl 0 rfl
          have z4_1 := H16.out.cell 4 rfl 1 rfl
          have z4_2 := H16.out.cell 4 rfl 2 rfl
          have z4_3 := H16.out.cell 4 rfl 3 rfl
          go_wp2_with (first | (go_at_call 26; refine (sane12 _).mono ?_; rintro e w' ⟨rfl, hbs⟩))
          go_ret
          exact ⟨rfl, (H16.out.call hbs).below⟩
end Go.Proofs.Ytoojiabdgaflgaa
