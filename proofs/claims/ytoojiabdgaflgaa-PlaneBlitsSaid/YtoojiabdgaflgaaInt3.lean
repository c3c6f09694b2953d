/-
  Contracts: the sum of a rectangle out of an integral plane, in the program and in the reference.
-/
import Derived.Test.YtoojiabdgaflgaaInt2
namespace Go.Proofs.Ytoojiabdgaflgaa
open Go.RowKit
set_option linter.unusedVariables false
set_option linter.unusedSimpArgs false

theorem fullInside {r0 r1 r2 r3 b0 b1 b2 b3 : Int} : (rFull r0 r1 r2 r3 && rInside r0 r1 r2 r3 b0 b1 b2 b3) = (!rEmpty r0 r1 r2 r3 && rInside r0 r1 r2 r3 b0 b1 b2 b3) := by
  unfold rFull rInside
  cases rValid r0 r1 r2 r3 <;> simp
def sCode (w h mx : Int) (zs : List Int) (r0 r1 r2 r3 : Int) : Int := if pValid w h mx zs = false then 1 else if (!rEmpty r0 r1 r2 r3 && rInside r0 r1 r2 r3 0 0 w h) = false then 8 else 0
def sRaw (w : Int) (zs : List Int) (r0 r1 r2 r3 : Int) : Int := qAt w zs (r2 - 1) (r3 - 1) - qAt w zs (r0 - 1) (r3 - 1) - qAt w zs (r2 - 1) (r1 - 1) + qAt w zs (r0 - 1) (r1 - 1)
def sVal (w h mx : Int) (zs : List Int) (r0 r1 r2 r3 : Int) : Int := if sCode w h mx zs r0 r1 r2 r3 = 0 then sRaw w zs r0 r1 r2 r3 else 0
def SumPost (w h mx : Int) (zs : List Int) (r0 r1 r2 r3 : Int) (W : World) (e : Ending) (w' : World) : Prop :=
  e = .returned (.tuple #[.int .i64 (sVal w h mx zs r0 r1 r2 r3), .int .i64 (sCode w h mx zs r0 r1 r2 r3)]) ∧ Below W.heap.size W w'
theorem sum_no {w h mx : Int} {zs : List Int} {r0 r1 r2 r3 : Int} {W w' : World} {k : Int} (hk : sCode w h mx zs r0 r1 r2 r3 = k) (h0 : k ≠ 0) (hb : Below W.heap.size W w') :
    SumPost w h mx zs r0 r1 r2 r3 W (.returned (.tuple #[.int .i64 0, .int .i64 k])) w' :=
  ⟨ret_ii (by unfold sVal; rw [hk, if_neg h0]) hk.symm, hb⟩
theorem sum_yes {w h mx : Int} {zs : List Int} {r0 r1 r2 r3 : Int} {W w' : World} (hk : sCode w h mx zs r0 r1 r2 r3 = 0) {z : Int} (hz : z = sRaw w zs r0 r1 r2 r3) (hb : Below W.heap.size W w') :
    SumPost w h mx zs r0 r1 r2 r3 W (.returned (.tuple #[.int .i64 z, .int .i64 0])) w' :=
  ⟨ret_ii (by unfold sVal; rw [hk, if_pos rfl, hz]) hk.symm, hb⟩
theorem pr_mk {B : Nat} {W : World} {w h mx : Int} {a : Option Addr} {n c : Nat} {r0 r1 r2 r3 : Int} {wB : World} (hSt : St B W [.cells (B + 1) #[.int .i64 r0, .int .i64 r1, .int .i64 r2, .int .i64 r3] 39, .cells B #[.int .i64 w, .int .i64 h, .int .i64 mx, .slice a n c] 26] [] wB) : St B W [.cells (B + 1) #[.int .i64 r0, .int .i64 r1, .int .i64 r2, .int .i64 r3] 39, .cells B #[.int .i64 w, .int .i64 h, .int .i64 mx, .slice a n c] 26] [] wB ∧ wB.cell? ⟨B + 1, 0, none⟩ = some (.int .i64 r0) ∧ wB.cell? ⟨B + 1, 1, none⟩ = some (.int .i64 r1) ∧ wB.cell? ⟨B + 1, 2, none⟩ = some (.int .i64 r2) ∧ wB.cell? ⟨B + 1, 3, none⟩ = some (.int .i64 r3) ∧ wB.cell? ⟨B, 0, none⟩ = some (.int .i64 w) ∧ wB.cell? ⟨B, 1, none⟩ = some (.int .i64 h) ∧ wB.cell? ⟨B, 2, none⟩ = some (.int .i64 mx) ∧ wB.cell? ⟨B, 3, none⟩ = some (.slice a n c) := ⟨hSt, (hSt).cell 0 rfl 0 rfl, (hSt).cell 0 rfl 1 rfl, (hSt).cell 0 rfl 2 rfl, (hSt).cell 0 rfl 3 rfl, (hSt).cell 1 rfl 0 rfl, (hSt).cell 1 rfl 1 rfl, (hSt).cell 1 rfl 2 rfl, (hSt).cell 1 rfl 3 rfl⟩
theorem pr_keep {B : Nat} {W : World} {w h mx : Int} {a : Option Addr} {n c : Nat} {r0 r1 r2 r3 : Int} {wA wB : World} (hb : Below wA.heap.size wA wB) (p : St B W [.cells (B + 1) #[.int .i64 r0, .int .i64 r1, .int .i64 r2, .int .i64 r3] 39, .cells B #[.int .i64 w, .int .i64 h, .int .i64 mx, .slice a n c] 26] [] wA ∧ wA.cell? ⟨B + 1, 0, none⟩ = some (.int .i64 r0) ∧ wA.cell? ⟨B + 1, 1, none⟩ = some (.int .i64 r1) ∧ wA.cell? ⟨B + 1, 2, none⟩ = some (.int .i64 r2) ∧ wA.cell? ⟨B + 1, 3, none⟩ = some (.int .i64 r3) ∧ wA.cell? ⟨B, 0, none⟩ = some (.int .i64 w) ∧ wA.cell? ⟨B, 1, none⟩ = some (.int .i64 h) ∧ wA.cell? ⟨B, 2, none⟩ = some (.int .i64 mx) ∧ wA.cell? ⟨B, 3, none⟩ = some (.slice a n c)) : St B W [.cells (B + 1) #[.int .i64 r0, .int .i64 r1, .int .i64 r2, .int .i64 r3] 39, .cells B #[.int .i64 w, .int .i64 h, .int .i64 mx, .slice a n c] 26] [] wB ∧ wB.cell? ⟨B + 1, 0, none⟩ = some (.int .i64 r0) ∧ wB.cell? ⟨B + 1, 1, none⟩ = some (.int .i64 r1) ∧ wB.cell? ⟨B + 1, 2, none⟩ = some (.int .i64 r2) ∧ wB.cell? ⟨B + 1, 3, none⟩ = some (.int .i64 r3) ∧ wB.cell? ⟨B, 0, none⟩ = some (.int .i64 w) ∧ wB.cell? ⟨B, 1, none⟩ = some (.int .i64 h) ∧ wB.cell? ⟨B, 2, none⟩ = some (.int .i64 mx) ∧ wB.cell? ⟨B, 3, none⟩ = some (.slice a n c) := pr_mk (p.1.call hb)

set_option maxRecDepth 100000 in
set_option maxHeartbeats 3200000 in
theorem isum_any (w h mx : Int) (a : Option Addr) (n c : Nat) (zs : List Int) (r0 r1 r2 r3 : Int) (W : World) (hs : Slc W a n c zs) :
    Calls Try.prog 38 #[.agg #[.int .i64 w, .int .i64 h, .int .i64 mx, .slice a n c], .agg #[.int .i64 r0, .int .i64 r1, .int .i64 r2, .int .i64 r3]] W (SumPost w h mx zs r0 r1 r2 r3 W) := by
  obtain ⟨B, hB⟩ : ∃ B, W.heap.size = B := ⟨_, rfl⟩
  have H0 := hid (((St.init hB).alloc #[.int .i64 w, .int .i64 h, .int .i64 mx, .slice a n c] 26 hB).alloc #[.int .i64 r0, .int .i64 r1, .int .i64 r2, .int .i64 r3] 39 (alloc_size _ hB))
  have HS := hid hs
  clear hs
  go_enter Try.func38, Try.ntmps38
  go_wp2_with fail
  refine (pvalid_any _ _ _ _ _ _ _ _ (by have := HS.out.nc; have := HS.out.cap; omega) (H0.out.old HS.out).row).mono ?_
  rintro e w1 ⟨rfl, hb⟩
  have H1 := hid (H0.out.call hb)
  clear hb
  cases hv : pValid w h mx zs with
  | false =>
    have HV := hid hv
    clear hv
    go_wp2_with fail
    go_ret2
    exact sum_no (by unfold sCode; rw [if_pos HV.out]) (by omega) (by first | exact H1.out.below | exact H1.out.below')
  | true =>
    have HV := hid hv
    have HP := hid (pOk_iff.1 (pValid_iff.1 hv).1)
    have HNV := hid (show ¬ pValid w h mx zs = false by rw [hv]; simp)
    have hn : (n : Int) = w * h := by rw [← (pValid_iff.1 hv).2.1, HS.out.len]
    have HN := hid hn
    clear hv hn
    have x0_0 := H1.out.cell 0 rfl 0 rfl
    have x0_1 := H1.out.cell 0 rfl 1 rfl
    have x0_2 := H1.out.cell 0 rfl 2 rfl
    have x0_3 := H1.out.cell 0 rfl 3 rfl
    have x1_0 := H1.out.cell 1 rfl 0 rfl
    have x1_1 := H1.out.cell 1 rfl 1 rfl
    have x1_2 := H1.out.cell 1 rfl 2 rfl
    have x1_3 := H1.out.cell 1 rfl 3 rfl
    go_wp2_with fail
    refine (rempty_any _ _ _ _ _).mono ?_
    rintro e w2 ⟨rfl, hb⟩
    have H2 := hid (H1.out.call hb)
    clear hb x0_0 x0_1 x0_2 x0_3 x1_0 x1_1 x1_2 x1_3
    have x0_0 := H2.out.cell 0 rfl 0 rfl
    have x0_1 := H2.out.cell 0 rfl 1 rfl
    have x0_2 := H2.out.cell 0 rfl 2 rfl
    have x0_3 := H2.out.cell 0 rfl 3 rfl
    have x1_0 := H2.out.cell 1 rfl 0 rfl
    have x1_1 := H2.out.cell 1 rfl 1 rfl
    have x1_2 := H2.out.cell 1 rfl 2 rfl
    have x1_3 := H2.out.cell 1 rfl 3 rfl
    cases he : rEmpty r0 r1 r2 r3 with
    | true =>
      have HE := hid he
      clear he
      go_wp2_with fail
      go_ret2
      exact sum_no (by unfold sCode; rw [if_neg HNV.out, if_pos (by rw [HE.out]; rfl)]) (by omega) (by first | exact H2.out.below | exact H2.out.below')
    | false =>
    have HEE := hid he
    clear he
    go_wp2_with fail
    refine (rinside_any _ _ _ _ _ _ _ _ _).mono ?_
    rintro e w3 ⟨rfl, hb⟩
    have H3 := hid (H2.out.call hb)
    clear hb x0_0 x0_1 x0_2 x0_3 x1_0 x1_1 x1_2 x1_3
    have x0_0 := H3.out.cell 0 rfl 0 rfl
    have x0_1 := H3.out.cell 0 rfl 1 rfl
    have x0_2 := H3.out.cell 0 rfl 2 rfl
    have x0_3 := H3.out.cell 0 rfl 3 rfl
    have x1_0 := H3.out.cell 1 rfl 0 rfl
    have x1_1 := H3.out.cell 1 rfl 1 rfl
    have x1_2 := H3.out.cell 1 rfl 2 rfl
    have x1_3 := H3.out.cell 1 rfl 3 rfl
    cases hi : rInside r0 r1 r2 r3 0 0 w h with
    | false =>
      have HI := hid hi
      clear hi
      go_wp2_with fail
      go_ret2
      exact sum_no (by unfold sCode; rw [if_neg HNV.out, if_pos (by rw [HI.out, HEE.out]; rfl)]) (by omega) (by first | exact H3.out.below | exact H3.out.below')
    | true =>
    have HE : (!rEmpty r0 r1 r2 r3 && rInside r0 r1 r2 r3 0 0 w h) = true := by rw [hi, HEE.out]; rfl
    clear hi
    have hin := (inside_iff (by have := HP.out; omega) (by have := HP.out; omega) (by have := HP.out; omega) (by have := HP.out; omega)).1 HE
    have HC := hid (show sCode w h mx zs r0 r1 r2 r3 = 0 by unfold sCode; rw [if_neg HNV.out, if_neg (by rw [HE]; simp)])
    clear HE
    obtain ⟨i1, i2, i3, i4, i5, i6⟩ := hin
    obtain ⟨p1, p2, p3, p4, p5, p6, p7⟩ := HP.out
    have HR : Hid (qAt w zs (r2 - 1) (r3 - 1) - qAt w zs (r0 - 1) (r3 - 1) - qAt w zs (r2 - 1) (r1 - 1) + qAt w zs (r0 - 1) (r1 - 1) = sRaw w zs r0 r1 r2 r3) := rfl
    have b1 := qAt_bd HV.out (r2 - 1) (r3 - 1)
    have b2 := qAt_bd HV.out (r0 - 1) (r3 - 1)
    have b3 := qAt_bd HV.out (r2 - 1) (r1 - 1)
    have b4 := qAt_bd HV.out (r0 - 1) (r1 - 1)
    obtain ⟨z1, hz1⟩ : ∃ z, qAt w zs (r2 - 1) (r3 - 1) = z := ⟨_, rfl⟩
    obtain ⟨z2, hz2⟩ : ∃ z, qAt w zs (r0 - 1) (r3 - 1) = z := ⟨_, rfl⟩
    obtain ⟨z3, hz3⟩ : ∃ z, qAt w zs (r2 - 1) (r1 - 1) = z := ⟨_, rfl⟩
    obtain ⟨z4, hz4⟩ : ∃ z, qAt w zs (r0 - 1) (r1 - 1) = z := ⟨_, rfl⟩
    rw [hz1] at b1
    rw [hz2] at b2
    rw [hz3] at b3
    rw [hz4] at b4
    rw [hz1, hz2, hz3, hz4] at HR
    obtain ⟨b1a, b1b⟩ := b1
    obtain ⟨b2a, b2b⟩ := b2
    obtain ⟨b3a, b3b⟩ := b3
    obtain ⟨b4a, b4b⟩ := b4
    have g1 : IntKind.i64.wrap (r2 - 1) = r2 - 1 := IntWalk.i64_in _ (by omega)
    have g2 : IntKind.i64.wrap (r3 - 1) = r3 - 1 := IntWalk.i64_in _ (by omega)
    have g3 : IntKind.i64.wrap (r0 - 1) = r0 - 1 := IntWalk.i64_in _ (by omega)
    have g4 : IntKind.i64.wrap (r1 - 1) = r1 - 1 := IntWalk.i64_in _ (by omega)
    have g5 : IntKind.i64.wrap (z1 - z2) = z1 - z2 := IntWalk.i64_in _ (by omega)
    have g6 : IntKind.i64.wrap (z1 - z2 - z3) = z1 - z2 - z3 := IntWalk.i64_in _ (by omega)
    have g7 : IntKind.i64.wrap (z1 - z2 - z3 + z4) = z1 - z2 - z3 + z4 := IntWalk.i64_in _ (by omega)
    have HSL := hid (H3.out.old HS.out)
    go_wp2_with fail
    go_quiet ((go_at_call 72; exact Calls.quiet_of_same (sumAt_any w h _ _ B a n c zs _ (by first | exact HSL.out | exact HSL.out.drewN _) HN.out p1 p2 p4 p5 (by omega) (by omega) (by omega) (by omega) (by first | assumption | simpa using x1_0) (by first | assumption | simpa using x1_3))))
    go_wp2_with fail
    go_ret2
    exact sum_yes HC.out HR.out (by first | exact (H3.out.drewN _).below | exact (H3.out.drewN _).below')

set_option maxRecDepth 100000 in
set_option maxHeartbeats 3200000 in
theorem qsum_any (w h mx : Int) (a : Option Addr) (n c : Nat) (zs : List Int) (r0 r1 r2 r3 : Int) (W : World) (hs : Slc W a n c zs) :
    Calls Try.prog 43 #[.agg #[.int .i64 w, .int .i64 h, .int .i64 mx, .slice a n c], .agg #[.int .i64 r0, .int .i64 r1, .int .i64 r2, .int .i64 r3]] W (SumPost w h mx zs r0 r1 r2 r3 W) := by
  obtain ⟨B, hB⟩ : ∃ B, W.heap.size = B := ⟨_, rfl⟩
  have H0 := hid (((St.init hB).alloc #[.int .i64 w, .int .i64 h, .int .i64 mx, .slice a n c] 26 hB).alloc #[.int .i64 r0, .int .i64 r1, .int .i64 r2, .int .i64 r3] 39 (alloc_size _ hB))
  have HS := hid hs
  clear hs
  go_enter Try.func43, Try.ntmps43
  go_wp2_with fail
  refine (qpvalid_any _ _ _ _ _ _ _ _ (by have := HS.out.nc; have := HS.out.cap; omega) (H0.out.old HS.out).row).mono ?_
  rintro e w1 ⟨rfl, hb⟩
  have H1 := hid (H0.out.call hb)
  clear hb
  cases hv : pValid w h mx zs with
  | false =>
    have HV := hid hv
    clear hv
    go_wp2_with fail
    go_ret2
    exact sum_no (by unfold sCode; rw [if_pos HV.out]) (by omega) (by first | exact H1.out.below | exact H1.out.below')
  | true =>
    have HV := hid hv
    have HP := hid (pOk_iff.1 (pValid_iff.1 hv).1)
    have HNV := hid (show ¬ pValid w h mx zs = false by rw [hv]; simp)
    have hn : (n : Int) = w * h := by rw [← (pValid_iff.1 hv).2.1, HS.out.len]
    have HN := hid hn
    clear hv hn
    go_wp2_with fail
    cases hfu : rFull r0 r1 r2 r3 with
    | false =>
      have HFU := hid hfu
      have HE : Hid ((!rEmpty r0 r1 r2 r3 && rInside r0 r1 r2 r3 0 0 w h) = false) := hid (by rw [← fullInside, hfu]; rfl)
      clear hfu
      have HD := hid (pr_mk (H1.out.drew))
      refine wp_region_held_drew (S := (fun w' => St B W [.cells (B + 1) #[.int .i64 r0, .int .i64 r1, .int .i64 r2, .int .i64 r3] 39, .cells B #[.int .i64 w, .int .i64 h, .int .i64 mx, .slice a n c] 26] [] w' ∧ w'.cell? ⟨B + 1, 0, none⟩ = some (.int .i64 r0) ∧ w'.cell? ⟨B + 1, 1, none⟩ = some (.int .i64 r1) ∧ w'.cell? ⟨B + 1, 2, none⟩ = some (.int .i64 r2) ∧ w'.cell? ⟨B + 1, 3, none⟩ = some (.int .i64 r3) ∧ w'.cell? ⟨B, 0, none⟩ = some (.int .i64 w) ∧ w'.cell? ⟨B, 1, none⟩ = some (.int .i64 h) ∧ w'.cell? ⟨B, 2, none⟩ = some (.int .i64 mx) ∧ w'.cell? ⟨B, 3, none⟩ = some (.slice a n c))) (by kernel_rfl) HD.out (fun hHeld => ?_)
      generalize w1.drew = k0 at *
      clear HD
      refine wpAnyH_take (i := 0) (oi := _) (v := ?_) rfl (by kernel_rfl) (by kernel_rfl) (by kernel_rfl) (fun _ _ _ h => h) (Or.inl ⟨by rfl, ?_⟩) (by assumption) ?_
      rotate_left
      focus (intro wS hSw; (try dsimp only at hSw); go_simp; (try with_reducible rfl))
      try simp only [Act.put, List.getElem_toArray, List.getElem_cons_zero, List.getElem_cons_succ, List.setIfInBounds_toArray, List.set_cons_zero, List.set_cons_succ]
      refine wpAnyH_ready (rs := [1]) (by kernel_rfl) (by simp) (AllReadyH.cons (o := _) rfl (fun K hK => ?_) AllReadyH.nil)
      go_simp
      go_at_call 68; refine (qfull_any _ _ _ _ _).mono ?_; rw [HFU.out]; rintro e k1 ⟨rfl, hbs⟩
      refine hK.out _ _ ?_ (fun hHeld2 => ?_)
      focus ((try dsimp only); (exact pr_keep hbs hHeld))
      clear hK K
      try simp only [Act.put, List.getElem_toArray, List.getElem_cons_zero, List.getElem_cons_succ, List.setIfInBounds_toArray, List.set_cons_zero, List.set_cons_succ]
      clear hbs
      clear hHeld
      have hHeld := hHeld2
      clear hHeld2
      refine wpAnyH_take (i := 2) (oi := _) (v := ?_) rfl (by kernel_rfl) (by kernel_rfl) (by kernel_rfl) (fun _ _ _ h => h) (Or.inl ⟨by rfl, ?_⟩) (by assumption) ?_
      rotate_left
      focus (intro wS hSw; (try dsimp only at hSw); go_simp; (try with_reducible rfl))
      try simp only [Act.put, List.getElem_toArray, List.getElem_cons_zero, List.getElem_cons_succ, List.setIfInBounds_toArray, List.set_cons_zero, List.set_cons_succ]
      refine wpAnyH_take (i := 3) (oi := _) (v := ?_) rfl (by kernel_rfl) (by kernel_rfl) (by kernel_rfl) (fun _ _ _ h => h) (Or.inl ⟨by rfl, ?_⟩) (by assumption) ?_
      rotate_left
      focus (intro wS hSw; (try dsimp only at hSw); go_simp; (try with_reducible rfl))
      try simp only [Act.put, List.getElem_toArray, List.getElem_cons_zero, List.getElem_cons_succ, List.setIfInBounds_toArray, List.set_cons_zero, List.set_cons_succ]
      refine wpAnyH_take (i := 4) (oi := _) (v := _) rfl (by kernel_rfl) (by kernel_rfl) (by kernel_rfl) (fun _ _ _ h => h) (Or.inr ⟨by rfl, rfl⟩) (by assumption) ?_
      try simp only [Act.put, List.getElem_toArray, List.getElem_cons_zero, List.getElem_cons_succ, List.setIfInBounds_toArray, List.set_cons_zero, List.set_cons_succ]
      refine wpAnyH_take (i := 5) (oi := _) (v := _) rfl (by kernel_rfl) (by kernel_rfl) (by kernel_rfl) (fun _ _ _ h => h) (Or.inr ⟨by rfl, rfl⟩) (by assumption) ?_
      try simp only [Act.put, List.getElem_toArray, List.getElem_cons_zero, List.getElem_cons_succ, List.setIfInBounds_toArray, List.set_cons_zero, List.set_cons_succ]
      refine wpAnyH_take (i := 6) (oi := _) (v := _) rfl (by kernel_rfl) (by kernel_rfl) (by kernel_rfl) (fun _ _ _ h => h) (Or.inr ⟨by rfl, rfl⟩) (by assumption) ?_
      try simp only [Act.put, List.getElem_toArray, List.getElem_cons_zero, List.getElem_cons_succ, List.setIfInBounds_toArray, List.set_cons_zero, List.set_cons_succ]
      refine wpAnyH_take (i := 7) (oi := _) (v := _) rfl (by kernel_rfl) (by kernel_rfl) (by kernel_rfl) (fun _ _ _ h => h) (Or.inr ⟨by rfl, rfl⟩) (by assumption) ?_
      try simp only [Act.put, List.getElem_toArray, List.getElem_cons_zero, List.getElem_cons_succ, List.setIfInBounds_toArray, List.set_cons_zero, List.set_cons_succ]
      refine wpAnyH_take (i := 8) (oi := _) (v := _) rfl (by kernel_rfl) (by kernel_rfl) (by kernel_rfl) (fun _ _ _ h => h) (Or.inr ⟨by rfl, rfl⟩) (by assumption) ?_
      try simp only [Act.put, List.getElem_toArray, List.getElem_cons_zero, List.getElem_cons_succ, List.setIfInBounds_toArray, List.set_cons_zero, List.set_cons_succ]
      refine wpAnyH_take (i := 9) (oi := _) (v := ?_) rfl (by kernel_rfl) (by kernel_rfl) (by kernel_rfl) (fun _ _ _ h => h) (Or.inl ⟨by rfl, ?_⟩) (by assumption) ?_
      rotate_left
      focus (intro wS hSw; (try dsimp only at hSw); go_simp; (try with_reducible rfl))
      try simp only [Act.put, List.getElem_toArray, List.getElem_cons_zero, List.getElem_cons_succ, List.setIfInBounds_toArray, List.set_cons_zero, List.set_cons_succ]
      refine wpAnyH_done (by kernel_rfl) ?_ _
      have H3 := hid hHeld.1
      clear hHeld
      go_wp2_with fail
      go_ret2
      exact sum_no (by unfold sCode; rw [if_neg HNV.out, if_pos HE.out]) (by omega) (by first | exact H3.out.below | exact H3.out.below')
    | true =>
    have HFU := hid hfu
    cases hi : rInside r0 r1 r2 r3 0 0 w h with
    | false =>
      have HI := hid hi
      have HE : Hid ((!rEmpty r0 r1 r2 r3 && rInside r0 r1 r2 r3 0 0 w h) = false) := hid (by rw [hi]; simp)
      clear hfu hi
      have HD := hid (pr_mk (H1.out.drew))
      refine wp_region_held_drew (S := (fun w' => St B W [.cells (B + 1) #[.int .i64 r0, .int .i64 r1, .int .i64 r2, .int .i64 r3] 39, .cells B #[.int .i64 w, .int .i64 h, .int .i64 mx, .slice a n c] 26] [] w' ∧ w'.cell? ⟨B + 1, 0, none⟩ = some (.int .i64 r0) ∧ w'.cell? ⟨B + 1, 1, none⟩ = some (.int .i64 r1) ∧ w'.cell? ⟨B + 1, 2, none⟩ = some (.int .i64 r2) ∧ w'.cell? ⟨B + 1, 3, none⟩ = some (.int .i64 r3) ∧ w'.cell? ⟨B, 0, none⟩ = some (.int .i64 w) ∧ w'.cell? ⟨B, 1, none⟩ = some (.int .i64 h) ∧ w'.cell? ⟨B, 2, none⟩ = some (.int .i64 mx) ∧ w'.cell? ⟨B, 3, none⟩ = some (.slice a n c))) (by kernel_rfl) HD.out (fun hHeld => ?_)
      generalize w1.drew = k0 at *
      clear HD
      refine wpAnyH_take (i := 0) (oi := _) (v := ?_) rfl (by kernel_rfl) (by kernel_rfl) (by kernel_rfl) (fun _ _ _ h => h) (Or.inl ⟨by rfl, ?_⟩) (by assumption) ?_
      rotate_left
      focus (intro wS hSw; (try dsimp only at hSw); go_simp; (try with_reducible rfl))
      try simp only [Act.put, List.getElem_toArray, List.getElem_cons_zero, List.getElem_cons_succ, List.setIfInBounds_toArray, List.set_cons_zero, List.set_cons_succ]
      refine wpAnyH_ready (rs := [1]) (by kernel_rfl) (by simp) (AllReadyH.cons (o := _) rfl (fun K hK => ?_) AllReadyH.nil)
      go_simp
      go_at_call 68; refine (qfull_any _ _ _ _ _).mono ?_; rw [HFU.out]; rintro e k1 ⟨rfl, hbs⟩
      refine hK.out _ _ ?_ (fun hHeld2 => ?_)
      focus ((try dsimp only); (exact pr_keep hbs hHeld))
      clear hK K
      try simp only [Act.put, List.getElem_toArray, List.getElem_cons_zero, List.getElem_cons_succ, List.setIfInBounds_toArray, List.set_cons_zero, List.set_cons_succ]
      clear hbs
      clear hHeld
      have hHeld := hHeld2
      clear hHeld2
      refine wpAnyH_take (i := 2) (oi := _) (v := ?_) rfl (by kernel_rfl) (by kernel_rfl) (by kernel_rfl) (fun _ _ _ h => h) (Or.inl ⟨by rfl, ?_⟩) (by assumption) ?_
      rotate_left
      focus (intro wS hSw; (try dsimp only at hSw); go_simp; (try with_reducible rfl))
      try simp only [Act.put, List.getElem_toArray, List.getElem_cons_zero, List.getElem_cons_succ, List.setIfInBounds_toArray, List.set_cons_zero, List.set_cons_succ]
      refine wpAnyH_take (i := 3) (oi := _) (v := ?_) rfl (by kernel_rfl) (by kernel_rfl) (by kernel_rfl) (fun _ _ _ h => h) (Or.inl ⟨by rfl, ?_⟩) (by assumption) ?_
      rotate_left
      focus (intro wS hSw; (try dsimp only at hSw); go_simp; (try with_reducible rfl))
      try simp only [Act.put, List.getElem_toArray, List.getElem_cons_zero, List.getElem_cons_succ, List.setIfInBounds_toArray, List.set_cons_zero, List.set_cons_succ]
      refine wpAnyH_take (i := 4) (oi := _) (v := ?_) rfl (by kernel_rfl) (by kernel_rfl) (by kernel_rfl) (fun _ _ _ h => h) (Or.inl ⟨by rfl, ?_⟩) (by assumption) ?_
      rotate_left
      focus (intro wS hSw; (try dsimp only at hSw); go_simp; (try with_reducible rfl))
      try simp only [Act.put, List.getElem_toArray, List.getElem_cons_zero, List.getElem_cons_succ, List.setIfInBounds_toArray, List.set_cons_zero, List.set_cons_succ]
      refine wpAnyH_take (i := 5) (oi := _) (v := ?_) rfl (by kernel_rfl) (by kernel_rfl) (by kernel_rfl) (fun _ _ _ h => h) (Or.inl ⟨by rfl, ?_⟩) (by assumption) ?_
      rotate_left
      focus (intro wS hSw; (try dsimp only at hSw); go_simp; (try with_reducible rfl))
      try simp only [Act.put, List.getElem_toArray, List.getElem_cons_zero, List.getElem_cons_succ, List.setIfInBounds_toArray, List.set_cons_zero, List.set_cons_succ]
      refine wpAnyH_ready (rs := [6]) (by kernel_rfl) (by simp) (AllReadyH.cons (o := _) rfl (fun K hK => ?_) AllReadyH.nil)
      go_simp
      go_at_call 70; refine (qcover_any _ _ _ _ _ _ _).mono ?_; rintro e k2 ⟨rfl, hbs⟩
      refine hK.out _ _ ?_ (fun hHeld2 => ?_)
      focus ((try dsimp only); (exact pr_keep hbs hHeld))
      clear hK K
      try simp only [Act.put, List.getElem_toArray, List.getElem_cons_zero, List.getElem_cons_succ, List.setIfInBounds_toArray, List.set_cons_zero, List.set_cons_succ]
      clear hbs
      clear hHeld
      have hHeld := hHeld2
      clear hHeld2
      refine wpAnyH_ready (rs := [7]) (by kernel_rfl) (by simp) (AllReadyH.cons (o := _) rfl (fun K hK => ?_) AllReadyH.nil)
      go_simp
      go_at_call 69; refine (qinside_any _ _ _ _ _ _ _ _ _).mono ?_; rw [HI.out]; rintro e k3 ⟨rfl, hbs⟩
      refine hK.out _ _ ?_ (fun hHeld2 => ?_)
      focus ((try dsimp only); (exact pr_keep hbs hHeld))
      clear hK K
      try simp only [Act.put, List.getElem_toArray, List.getElem_cons_zero, List.getElem_cons_succ, List.setIfInBounds_toArray, List.set_cons_zero, List.set_cons_succ]
      clear hbs
      clear hHeld
      have hHeld := hHeld2
      clear hHeld2
      refine wpAnyH_take (i := 8) (oi := _) (v := ?_) rfl (by kernel_rfl) (by kernel_rfl) (by kernel_rfl) (fun _ _ _ h => h) (Or.inl ⟨by rfl, ?_⟩) (by assumption) ?_
      rotate_left
      focus (intro wS hSw; (try dsimp only at hSw); go_simp; (try with_reducible rfl))
      try simp only [Act.put, List.getElem_toArray, List.getElem_cons_zero, List.getElem_cons_succ, List.setIfInBounds_toArray, List.set_cons_zero, List.set_cons_succ]
      refine wpAnyH_take (i := 9) (oi := _) (v := ?_) rfl (by kernel_rfl) (by kernel_rfl) (by kernel_rfl) (fun _ _ _ h => h) (Or.inl ⟨by rfl, ?_⟩) (by assumption) ?_
      rotate_left
      focus (intro wS hSw; (try dsimp only at hSw); go_simp; (try with_reducible rfl))
      try simp only [Act.put, List.getElem_toArray, List.getElem_cons_zero, List.getElem_cons_succ, List.setIfInBounds_toArray, List.set_cons_zero, List.set_cons_succ]
      refine wpAnyH_done (by kernel_rfl) ?_ _
      have H3 := hid hHeld.1
      clear hHeld
      go_wp2_with fail
      go_ret2
      exact sum_no (by unfold sCode; rw [if_neg HNV.out, if_pos HE.out]) (by omega) (by first | exact H3.out.below | exact H3.out.below')
    | true =>
    have HI := hid hi
    have HE : (!rEmpty r0 r1 r2 r3 && rInside r0 r1 r2 r3 0 0 w h) = true := by rw [← fullInside, hfu, hi]; rfl
    clear hfu hi
    have hin := (inside_iff (by have := HP.out; omega) (by have := HP.out; omega) (by have := HP.out; omega) (by have := HP.out; omega)).1 HE
    have HC := hid (show sCode w h mx zs r0 r1 r2 r3 = 0 by unfold sCode; rw [if_neg HNV.out, if_neg (by rw [HE]; simp)])
    clear HE
    obtain ⟨i1, i2, i3, i4, i5, i6⟩ := hin
    obtain ⟨p1, p2, p3, p4, p5, p6, p7⟩ := HP.out
    have HR : Hid (qAt w zs (r2 - 1) (r3 - 1) - qAt w zs (r0 - 1) (r3 - 1) - qAt w zs (r2 - 1) (r1 - 1) + qAt w zs (r0 - 1) (r1 - 1) = sRaw w zs r0 r1 r2 r3) := rfl
    have b1 := qAt_bd HV.out (r2 - 1) (r3 - 1)
    have b2 := qAt_bd HV.out (r0 - 1) (r3 - 1)
    have b3 := qAt_bd HV.out (r2 - 1) (r1 - 1)
    have b4 := qAt_bd HV.out (r0 - 1) (r1 - 1)
    obtain ⟨z1, hz1⟩ : ∃ z, qAt w zs (r2 - 1) (r3 - 1) = z := ⟨_, rfl⟩
    obtain ⟨z2, hz2⟩ : ∃ z, qAt w zs (r0 - 1) (r3 - 1) = z := ⟨_, rfl⟩
    obtain ⟨z3, hz3⟩ : ∃ z, qAt w zs (r2 - 1) (r1 - 1) = z := ⟨_, rfl⟩
    obtain ⟨z4, hz4⟩ : ∃ z, qAt w zs (r0 - 1) (r1 - 1) = z := ⟨_, rfl⟩
    rw [hz1] at b1
    rw [hz2] at b2
    rw [hz3] at b3
    rw [hz4] at b4
    rw [hz1, hz2, hz3, hz4] at HR
    obtain ⟨b1a, b1b⟩ := b1
    obtain ⟨b2a, b2b⟩ := b2
    obtain ⟨b3a, b3b⟩ := b3
    obtain ⟨b4a, b4b⟩ := b4
    have g1 : IntKind.i64.wrap (r2 - 1) = r2 - 1 := IntWalk.i64_in _ (by omega)
    have g2 : IntKind.i64.wrap (r3 - 1) = r3 - 1 := IntWalk.i64_in _ (by omega)
    have g3 : IntKind.i64.wrap (r0 - 1) = r0 - 1 := IntWalk.i64_in _ (by omega)
    have g4 : IntKind.i64.wrap (r1 - 1) = r1 - 1 := IntWalk.i64_in _ (by omega)
    have g5 : IntKind.i64.wrap (z1 - z2) = z1 - z2 := IntWalk.i64_in _ (by omega)
    have g6 : IntKind.i64.wrap (z1 - z2 - z3) = z1 - z2 - z3 := IntWalk.i64_in _ (by omega)
    have g7 : IntKind.i64.wrap (z1 - z2 - z3 + z4) = z1 - z2 - z3 + z4 := IntWalk.i64_in _ (by omega)
    have HD := hid (pr_mk (H1.out.drew))
    refine wp_region_held_drew (S := (fun w' => St B W [.cells (B + 1) #[.int .i64 r0, .int .i64 r1, .int .i64 r2, .int .i64 r3] 39, .cells B #[.int .i64 w, .int .i64 h, .int .i64 mx, .slice a n c] 26] [] w' ∧ w'.cell? ⟨B + 1, 0, none⟩ = some (.int .i64 r0) ∧ w'.cell? ⟨B + 1, 1, none⟩ = some (.int .i64 r1) ∧ w'.cell? ⟨B + 1, 2, none⟩ = some (.int .i64 r2) ∧ w'.cell? ⟨B + 1, 3, none⟩ = some (.int .i64 r3) ∧ w'.cell? ⟨B, 0, none⟩ = some (.int .i64 w) ∧ w'.cell? ⟨B, 1, none⟩ = some (.int .i64 h) ∧ w'.cell? ⟨B, 2, none⟩ = some (.int .i64 mx) ∧ w'.cell? ⟨B, 3, none⟩ = some (.slice a n c))) (by kernel_rfl) HD.out (fun hHeld => ?_)
    generalize w1.drew = k0 at *
    clear HD
    refine wpAnyH_take (i := 0) (oi := _) (v := ?_) rfl (by kernel_rfl) (by kernel_rfl) (by kernel_rfl) (fun _ _ _ h => h) (Or.inl ⟨by rfl, ?_⟩) (by assumption) ?_
    rotate_left
    focus (intro wS hSw; (try dsimp only at hSw); go_simp; (try with_reducible rfl))
    try simp only [Act.put, List.getElem_toArray, List.getElem_cons_zero, List.getElem_cons_succ, List.setIfInBounds_toArray, List.set_cons_zero, List.set_cons_succ]
    refine wpAnyH_ready (rs := [1]) (by kernel_rfl) (by simp) (AllReadyH.cons (o := _) rfl (fun K hK => ?_) AllReadyH.nil)
    go_simp
    go_at_call 68; refine (qfull_any _ _ _ _ _).mono ?_; rw [HFU.out]; rintro e k1 ⟨rfl, hbs⟩
    refine hK.out _ _ ?_ (fun hHeld2 => ?_)
    focus ((try dsimp only); (exact pr_keep hbs hHeld))
    clear hK K
    try simp only [Act.put, List.getElem_toArray, List.getElem_cons_zero, List.getElem_cons_succ, List.setIfInBounds_toArray, List.set_cons_zero, List.set_cons_succ]
    clear hbs
    clear hHeld
    have hHeld := hHeld2
    clear hHeld2
    refine wpAnyH_take (i := 2) (oi := _) (v := ?_) rfl (by kernel_rfl) (by kernel_rfl) (by kernel_rfl) (fun _ _ _ h => h) (Or.inl ⟨by rfl, ?_⟩) (by assumption) ?_
    rotate_left
    focus (intro wS hSw; (try dsimp only at hSw); go_simp; (try with_reducible rfl))
    try simp only [Act.put, List.getElem_toArray, List.getElem_cons_zero, List.getElem_cons_succ, List.setIfInBounds_toArray, List.set_cons_zero, List.set_cons_succ]
    refine wpAnyH_take (i := 3) (oi := _) (v := ?_) rfl (by kernel_rfl) (by kernel_rfl) (by kernel_rfl) (fun _ _ _ h => h) (Or.inl ⟨by rfl, ?_⟩) (by assumption) ?_
    rotate_left
    focus (intro wS hSw; (try dsimp only at hSw); go_simp; (try with_reducible rfl))
    try simp only [Act.put, List.getElem_toArray, List.getElem_cons_zero, List.getElem_cons_succ, List.setIfInBounds_toArray, List.set_cons_zero, List.set_cons_succ]
    refine wpAnyH_take (i := 4) (oi := _) (v := ?_) rfl (by kernel_rfl) (by kernel_rfl) (by kernel_rfl) (fun _ _ _ h => h) (Or.inl ⟨by rfl, ?_⟩) (by assumption) ?_
    rotate_left
    focus (intro wS hSw; (try dsimp only at hSw); go_simp; (try with_reducible rfl))
    try simp only [Act.put, List.getElem_toArray, List.getElem_cons_zero, List.getElem_cons_succ, List.setIfInBounds_toArray, List.set_cons_zero, List.set_cons_succ]
    refine wpAnyH_take (i := 5) (oi := _) (v := ?_) rfl (by kernel_rfl) (by kernel_rfl) (by kernel_rfl) (fun _ _ _ h => h) (Or.inl ⟨by rfl, ?_⟩) (by assumption) ?_
    rotate_left
    focus (intro wS hSw; (try dsimp only at hSw); go_simp; (try with_reducible rfl))
    try simp only [Act.put, List.getElem_toArray, List.getElem_cons_zero, List.getElem_cons_succ, List.setIfInBounds_toArray, List.set_cons_zero, List.set_cons_succ]
    refine wpAnyH_ready (rs := [6]) (by kernel_rfl) (by simp) (AllReadyH.cons (o := _) rfl (fun K hK => ?_) AllReadyH.nil)
    go_simp
    go_at_call 70; refine (qcover_any _ _ _ _ _ _ _).mono ?_; rintro e k2 ⟨rfl, hbs⟩
    refine hK.out _ _ ?_ (fun hHeld2 => ?_)
    focus ((try dsimp only); (exact pr_keep hbs hHeld))
    clear hK K
    try simp only [Act.put, List.getElem_toArray, List.getElem_cons_zero, List.getElem_cons_succ, List.setIfInBounds_toArray, List.set_cons_zero, List.set_cons_succ]
    clear hbs
    clear hHeld
    have hHeld := hHeld2
    clear hHeld2
    refine wpAnyH_ready (rs := [7]) (by kernel_rfl) (by simp) (AllReadyH.cons (o := _) rfl (fun K hK => ?_) AllReadyH.nil)
    go_simp
    go_at_call 69; refine (qinside_any _ _ _ _ _ _ _ _ _).mono ?_; rw [HI.out]; rintro e k3 ⟨rfl, hbs⟩
    refine hK.out _ _ ?_ (fun hHeld2 => ?_)
    focus ((try dsimp only); (exact pr_keep hbs hHeld))
    clear hK K
    try simp only [Act.put, List.getElem_toArray, List.getElem_cons_zero, List.getElem_cons_succ, List.setIfInBounds_toArray, List.set_cons_zero, List.set_cons_succ]
    clear hbs
    clear hHeld
    have hHeld := hHeld2
    clear hHeld2
    refine wpAnyH_take (i := 8) (oi := _) (v := ?_) rfl (by kernel_rfl) (by kernel_rfl) (by kernel_rfl) (fun _ _ _ h => h) (Or.inl ⟨by rfl, ?_⟩) (by assumption) ?_
    rotate_left
    focus (intro wS hSw; (try dsimp only at hSw); go_simp; (try with_reducible rfl))
    try simp only [Act.put, List.getElem_toArray, List.getElem_cons_zero, List.getElem_cons_succ, List.setIfInBounds_toArray, List.set_cons_zero, List.set_cons_succ]
    refine wpAnyH_take (i := 9) (oi := _) (v := ?_) rfl (by kernel_rfl) (by kernel_rfl) (by kernel_rfl) (fun _ _ _ h => h) (Or.inl ⟨by rfl, ?_⟩) (by assumption) ?_
    rotate_left
    focus (intro wS hSw; (try dsimp only at hSw); go_simp; (try with_reducible rfl))
    try simp only [Act.put, List.getElem_toArray, List.getElem_cons_zero, List.getElem_cons_succ, List.setIfInBounds_toArray, List.set_cons_zero, List.set_cons_succ]
    refine wpAnyH_done (by kernel_rfl) ?_ _
    have H3 := hid hHeld.1
    clear hHeld
    go_wp2_with fail
    have HD := hid (pr_mk (H3.out.drew))
    refine wp_region_held_drew (S := (fun w' => St B W [.cells (B + 1) #[.int .i64 r0, .int .i64 r1, .int .i64 r2, .int .i64 r3] 39, .cells B #[.int .i64 w, .int .i64 h, .int .i64 mx, .slice a n c] 26] [] w' ∧ w'.cell? ⟨B + 1, 0, none⟩ = some (.int .i64 r0) ∧ w'.cell? ⟨B + 1, 1, none⟩ = some (.int .i64 r1) ∧ w'.cell? ⟨B + 1, 2, none⟩ = some (.int .i64 r2) ∧ w'.cell? ⟨B + 1, 3, none⟩ = some (.int .i64 r3) ∧ w'.cell? ⟨B, 0, none⟩ = some (.int .i64 w) ∧ w'.cell? ⟨B, 1, none⟩ = some (.int .i64 h) ∧ w'.cell? ⟨B, 2, none⟩ = some (.int .i64 mx) ∧ w'.cell? ⟨B, 3, none⟩ = some (.slice a n c))) (by kernel_rfl) HD.out (fun hHeld => ?_)
    generalize World.drew _ = j0 at *
    clear HD H3
    refine wpAnyH_take (i := 0) (oi := _) (v := ?_) rfl (by kernel_rfl) (by kernel_rfl) (by kernel_rfl) (fun _ _ _ h => h) (Or.inl ⟨by rfl, ?_⟩) (by assumption) ?_
    rotate_left
    focus (intro wS hSw; (try dsimp only at hSw); go_simp; (try with_reducible rfl))
    try simp only [Act.put, List.getElem_toArray, List.getElem_cons_zero, List.getElem_cons_succ, List.setIfInBounds_toArray, List.set_cons_zero, List.set_cons_succ]
    refine wpAnyH_take (i := 1) (oi := _) (v := ?_) rfl (by kernel_rfl) (by kernel_rfl) (by kernel_rfl) (fun _ _ _ h => h) (Or.inl ⟨by rfl, ?_⟩) (by assumption) ?_
    rotate_left
    focus (intro wS hSw; (try dsimp only at hSw); go_simp; (try with_reducible rfl))
    try simp only [Act.put, List.getElem_toArray, List.getElem_cons_zero, List.getElem_cons_succ, List.setIfInBounds_toArray, List.set_cons_zero, List.set_cons_succ]
    refine wpAnyH_take (i := 2) (oi := _) (v := ?_) rfl (by kernel_rfl) (by kernel_rfl) (by kernel_rfl) (fun _ _ _ h => h) (Or.inl ⟨by rfl, ?_⟩) (by assumption) ?_
    rotate_left
    focus (intro wS hSw; (try dsimp only at hSw); go_simp; (try with_reducible rfl))
    try simp only [Act.put, List.getElem_toArray, List.getElem_cons_zero, List.getElem_cons_succ, List.setIfInBounds_toArray, List.set_cons_zero, List.set_cons_succ]
    refine wpAnyH_take (i := 3) (oi := _) (v := ?_) rfl (by kernel_rfl) (by kernel_rfl) (by kernel_rfl) (fun _ _ _ h => h) (Or.inl ⟨by rfl, ?_⟩) (by assumption) ?_
    rotate_left
    focus (intro wS hSw; (try dsimp only at hSw); go_simp; (try with_reducible rfl))
    try simp only [Act.put, List.getElem_toArray, List.getElem_cons_zero, List.getElem_cons_succ, List.setIfInBounds_toArray, List.set_cons_zero, List.set_cons_succ]
    refine wpAnyH_take (i := 4) (oi := _) (v := ?_) rfl (by kernel_rfl) (by kernel_rfl) (by kernel_rfl) (fun _ _ _ h => h) (Or.inl ⟨by rfl, ?_⟩) (by assumption) ?_
    rotate_left
    focus (intro wS hSw; (try dsimp only at hSw); go_simp; (try with_reducible rfl))
    try simp only [Act.put, List.getElem_toArray, List.getElem_cons_zero, List.getElem_cons_succ, List.setIfInBounds_toArray, List.set_cons_zero, List.set_cons_succ]
    refine wpAnyH_take (i := 5) (oi := _) (v := ?_) rfl (by kernel_rfl) (by kernel_rfl) (by kernel_rfl) (fun _ _ _ h => h) (Or.inl ⟨by rfl, ?_⟩) (by assumption) ?_
    rotate_left
    focus (intro wS hSw; (try dsimp only at hSw); go_simp; (try with_reducible rfl))
    try simp only [Act.put, List.getElem_toArray, List.getElem_cons_zero, List.getElem_cons_succ, List.setIfInBounds_toArray, List.set_cons_zero, List.set_cons_succ]
    refine wpAnyH_take (i := 6) (oi := _) (v := ?_) rfl (by kernel_rfl) (by kernel_rfl) (by kernel_rfl) (fun _ _ _ h => h) (Or.inl ⟨by rfl, ?_⟩) (by assumption) ?_
    rotate_left
    focus (intro wS hSw; (try dsimp only at hSw); go_simp; (try with_reducible rfl))
    try simp only [Act.put, List.getElem_toArray, List.getElem_cons_zero, List.getElem_cons_succ, List.setIfInBounds_toArray, List.set_cons_zero, List.set_cons_succ]
    refine wpAnyH_take (i := 8) (oi := _) (v := ?_) rfl (by kernel_rfl) (by kernel_rfl) (by kernel_rfl) (fun _ _ _ h => h) (Or.inl ⟨by rfl, ?_⟩) (by assumption) ?_
    rotate_left
    focus (intro wS hSw; (try dsimp only at hSw); go_simp; (try with_reducible rfl))
    try simp only [Act.put, List.getElem_toArray, List.getElem_cons_zero, List.getElem_cons_succ, List.setIfInBounds_toArray, List.set_cons_zero, List.set_cons_succ]
    refine wpAnyH_take (i := 9) (oi := _) (v := ?_) rfl (by kernel_rfl) (by kernel_rfl) (by kernel_rfl) (fun _ _ _ h => h) (Or.inl ⟨by rfl, ?_⟩) (by assumption) ?_
    rotate_left
    focus (intro wS hSw; (try dsimp only at hSw); go_simp; (try with_reducible rfl))
    try simp only [Act.put, List.getElem_toArray, List.getElem_cons_zero, List.getElem_cons_succ, List.setIfInBounds_toArray, List.set_cons_zero, List.set_cons_succ]
    refine wpAnyH_take (i := 10) (oi := _) (v := ?_) rfl (by kernel_rfl) (by kernel_rfl) (by kernel_rfl) (fun _ _ _ h => h) (Or.inl ⟨by rfl, ?_⟩) (by assumption) ?_
    rotate_left
    focus (intro wS hSw; (try dsimp only at hSw); go_simp; (try with_reducible rfl))
    try simp only [Act.put, List.getElem_toArray, List.getElem_cons_zero, List.getElem_cons_succ, List.setIfInBounds_toArray, List.set_cons_zero, List.set_cons_succ]
    refine wpAnyH_take (i := 11) (oi := _) (v := ?_) rfl (by kernel_rfl) (by kernel_rfl) (by kernel_rfl) (fun _ _ _ h => h) (Or.inl ⟨by rfl, ?_⟩) (by assumption) ?_
    rotate_left
    focus (intro wS hSw; (try dsimp only at hSw); go_simp; (try with_reducible rfl))
    try simp only [Act.put, List.getElem_toArray, List.getElem_cons_zero, List.getElem_cons_succ, List.setIfInBounds_toArray, List.set_cons_zero, List.set_cons_succ]
    refine wpAnyH_take (i := 12) (oi := _) (v := ?_) rfl (by kernel_rfl) (by kernel_rfl) (by kernel_rfl) (fun _ _ _ h => h) (Or.inl ⟨by rfl, ?_⟩) (by assumption) ?_
    rotate_left
    focus (intro wS hSw; (try dsimp only at hSw); go_simp; (try with_reducible rfl))
    try simp only [Act.put, List.getElem_toArray, List.getElem_cons_zero, List.getElem_cons_succ, List.setIfInBounds_toArray, List.set_cons_zero, List.set_cons_succ]
    refine wpAnyH_take (i := 13) (oi := _) (v := ?_) rfl (by kernel_rfl) (by kernel_rfl) (by kernel_rfl) (fun _ _ _ h => h) (Or.inl ⟨by rfl, ?_⟩) (by assumption) ?_
    rotate_left
    focus (intro wS hSw; (try dsimp only at hSw); go_simp; (try with_reducible rfl))
    try simp only [Act.put, List.getElem_toArray, List.getElem_cons_zero, List.getElem_cons_succ, List.setIfInBounds_toArray, List.set_cons_zero, List.set_cons_succ]
    refine wpAnyH_take (i := 14) (oi := _) (v := ?_) rfl (by kernel_rfl) (by kernel_rfl) (by kernel_rfl) (fun _ _ _ h => h) (Or.inl ⟨by rfl, ?_⟩) (by assumption) ?_
    rotate_left
    focus (intro wS hSw; (try dsimp only at hSw); go_simp; (try with_reducible rfl))
    try simp only [Act.put, List.getElem_toArray, List.getElem_cons_zero, List.getElem_cons_succ, List.setIfInBounds_toArray, List.set_cons_zero, List.set_cons_succ]
    refine wpAnyH_take (i := 17) (oi := _) (v := ?_) rfl (by kernel_rfl) (by kernel_rfl) (by kernel_rfl) (fun _ _ _ h => h) (Or.inl ⟨by rfl, ?_⟩) (by assumption) ?_
    rotate_left
    focus (intro wS hSw; (try dsimp only at hSw); go_simp; (try with_reducible rfl))
    try simp only [Act.put, List.getElem_toArray, List.getElem_cons_zero, List.getElem_cons_succ, List.setIfInBounds_toArray, List.set_cons_zero, List.set_cons_succ]
    refine wpAnyH_take (i := 18) (oi := _) (v := ?_) rfl (by kernel_rfl) (by kernel_rfl) (by kernel_rfl) (fun _ _ _ h => h) (Or.inl ⟨by rfl, ?_⟩) (by assumption) ?_
    rotate_left
    focus (intro wS hSw; (try dsimp only at hSw); go_simp; (try with_reducible rfl))
    try simp only [Act.put, List.getElem_toArray, List.getElem_cons_zero, List.getElem_cons_succ, List.setIfInBounds_toArray, List.set_cons_zero, List.set_cons_succ]
    refine wpAnyH_take (i := 19) (oi := _) (v := ?_) rfl (by kernel_rfl) (by kernel_rfl) (by kernel_rfl) (fun _ _ _ h => h) (Or.inl ⟨by rfl, ?_⟩) (by assumption) ?_
    rotate_left
    focus (intro wS hSw; (try dsimp only at hSw); go_simp; (try with_reducible rfl))
    try simp only [Act.put, List.getElem_toArray, List.getElem_cons_zero, List.getElem_cons_succ, List.setIfInBounds_toArray, List.set_cons_zero, List.set_cons_succ]
    refine wpAnyH_take (i := 20) (oi := _) (v := ?_) rfl (by kernel_rfl) (by kernel_rfl) (by kernel_rfl) (fun _ _ _ h => h) (Or.inl ⟨by rfl, ?_⟩) (by assumption) ?_
    rotate_left
    focus (intro wS hSw; (try dsimp only at hSw); go_simp; (try with_reducible rfl))
    try simp only [Act.put, List.getElem_toArray, List.getElem_cons_zero, List.getElem_cons_succ, List.setIfInBounds_toArray, List.set_cons_zero, List.set_cons_succ]
    refine wpAnyH_take (i := 21) (oi := _) (v := ?_) rfl (by kernel_rfl) (by kernel_rfl) (by kernel_rfl) (fun _ _ _ h => h) (Or.inl ⟨by rfl, ?_⟩) (by assumption) ?_
    rotate_left
    focus (intro wS hSw; (try dsimp only at hSw); go_simp; (try with_reducible rfl))
    try simp only [Act.put, List.getElem_toArray, List.getElem_cons_zero, List.getElem_cons_succ, List.setIfInBounds_toArray, List.set_cons_zero, List.set_cons_succ]
    refine wpAnyH_take (i := 22) (oi := _) (v := ?_) rfl (by kernel_rfl) (by kernel_rfl) (by kernel_rfl) (fun _ _ _ h => h) (Or.inl ⟨by rfl, ?_⟩) (by assumption) ?_
    rotate_left
    focus (intro wS hSw; (try dsimp only at hSw); go_simp; (try with_reducible rfl))
    try simp only [Act.put, List.getElem_toArray, List.getElem_cons_zero, List.getElem_cons_succ, List.setIfInBounds_toArray, List.set_cons_zero, List.set_cons_succ]
    refine wpAnyH_take (i := 23) (oi := _) (v := ?_) rfl (by kernel_rfl) (by kernel_rfl) (by kernel_rfl) (fun _ _ _ h => h) (Or.inl ⟨by rfl, ?_⟩) (by assumption) ?_
    rotate_left
    focus (intro wS hSw; (try dsimp only at hSw); go_simp; (try with_reducible rfl))
    try simp only [Act.put, List.getElem_toArray, List.getElem_cons_zero, List.getElem_cons_succ, List.setIfInBounds_toArray, List.set_cons_zero, List.set_cons_succ]
    refine wpAnyH_take (i := 26) (oi := _) (v := ?_) rfl (by kernel_rfl) (by kernel_rfl) (by kernel_rfl) (fun _ _ _ h => h) (Or.inl ⟨by rfl, ?_⟩) (by assumption) ?_
    rotate_left
    focus (intro wS hSw; (try dsimp only at hSw); go_simp; (try with_reducible rfl))
    try simp only [Act.put, List.getElem_toArray, List.getElem_cons_zero, List.getElem_cons_succ, List.setIfInBounds_toArray, List.set_cons_zero, List.set_cons_succ]
    refine wpAnyH_take (i := 27) (oi := _) (v := ?_) rfl (by kernel_rfl) (by kernel_rfl) (by kernel_rfl) (fun _ _ _ h => h) (Or.inl ⟨by rfl, ?_⟩) (by assumption) ?_
    rotate_left
    focus (intro wS hSw; (try dsimp only at hSw); go_simp; (try with_reducible rfl))
    try simp only [Act.put, List.getElem_toArray, List.getElem_cons_zero, List.getElem_cons_succ, List.setIfInBounds_toArray, List.set_cons_zero, List.set_cons_succ]
    refine wpAnyH_take (i := 28) (oi := _) (v := ?_) rfl (by kernel_rfl) (by kernel_rfl) (by kernel_rfl) (fun _ _ _ h => h) (Or.inl ⟨by rfl, ?_⟩) (by assumption) ?_
    rotate_left
    focus (intro wS hSw; (try dsimp only at hSw); go_simp; (try with_reducible rfl))
    try simp only [Act.put, List.getElem_toArray, List.getElem_cons_zero, List.getElem_cons_succ, List.setIfInBounds_toArray, List.set_cons_zero, List.set_cons_succ]
    refine wpAnyH_take (i := 29) (oi := _) (v := ?_) rfl (by kernel_rfl) (by kernel_rfl) (by kernel_rfl) (fun _ _ _ h => h) (Or.inl ⟨by rfl, ?_⟩) (by assumption) ?_
    rotate_left
    focus (intro wS hSw; (try dsimp only at hSw); go_simp; (try with_reducible rfl))
    try simp only [Act.put, List.getElem_toArray, List.getElem_cons_zero, List.getElem_cons_succ, List.setIfInBounds_toArray, List.set_cons_zero, List.set_cons_succ]
    refine wpAnyH_take (i := 30) (oi := _) (v := ?_) rfl (by kernel_rfl) (by kernel_rfl) (by kernel_rfl) (fun _ _ _ h => h) (Or.inl ⟨by rfl, ?_⟩) (by assumption) ?_
    rotate_left
    focus (intro wS hSw; (try dsimp only at hSw); go_simp; (try with_reducible rfl))
    try simp only [Act.put, List.getElem_toArray, List.getElem_cons_zero, List.getElem_cons_succ, List.setIfInBounds_toArray, List.set_cons_zero, List.set_cons_succ]
    refine wpAnyH_take (i := 31) (oi := _) (v := ?_) rfl (by kernel_rfl) (by kernel_rfl) (by kernel_rfl) (fun _ _ _ h => h) (Or.inl ⟨by rfl, ?_⟩) (by assumption) ?_
    rotate_left
    focus (intro wS hSw; (try dsimp only at hSw); go_simp; (try with_reducible rfl))
    try simp only [Act.put, List.getElem_toArray, List.getElem_cons_zero, List.getElem_cons_succ, List.setIfInBounds_toArray, List.set_cons_zero, List.set_cons_succ]
    refine wpAnyH_take (i := 32) (oi := _) (v := ?_) rfl (by kernel_rfl) (by kernel_rfl) (by kernel_rfl) (fun _ _ _ h => h) (Or.inl ⟨by rfl, ?_⟩) (by assumption) ?_
    rotate_left
    focus (intro wS hSw; (try dsimp only at hSw); go_simp; (try with_reducible rfl))
    try simp only [Act.put, List.getElem_toArray, List.getElem_cons_zero, List.getElem_cons_succ, List.setIfInBounds_toArray, List.set_cons_zero, List.set_cons_succ]
    refine wpAnyH_ready (rs := [7]) (by kernel_rfl) (by simp) (AllReadyH.cons (o := _) rfl (fun K hK => ?_) AllReadyH.nil)
    go_simp
    go_at_call 76; refine (qat_any w h mx _ _ a n c zs _ (hHeld.1.old HS.out) HN.out p1 p2 p4 p5 (by omega) (by omega) (by omega) (by omega)).mono ?_; rintro e j1 ⟨rfl, hbs⟩
    rw [hz1]
    refine hK.out _ _ ?_ (fun hHeld2 => ?_)
    focus ((try dsimp only); (exact pr_keep hbs hHeld))
    clear hK K
    try simp only [Act.put, List.getElem_toArray, List.getElem_cons_zero, List.getElem_cons_succ, List.setIfInBounds_toArray, List.set_cons_zero, List.set_cons_succ]
    clear hbs
    clear hHeld
    have hHeld := hHeld2
    clear hHeld2
    refine wpAnyH_ready (rs := [15]) (by kernel_rfl) (by simp) (AllReadyH.cons (o := _) rfl (fun K hK => ?_) AllReadyH.nil)
    go_simp
    go_at_call 76; refine (qat_any w h mx _ _ a n c zs _ (hHeld.1.old HS.out) HN.out p1 p2 p4 p5 (by omega) (by omega) (by omega) (by omega)).mono ?_; rintro e j2 ⟨rfl, hbs⟩
    rw [hz2]
    refine hK.out _ _ ?_ (fun hHeld2 => ?_)
    focus ((try dsimp only); (exact pr_keep hbs hHeld))
    clear hK K
    try simp only [Act.put, List.getElem_toArray, List.getElem_cons_zero, List.getElem_cons_succ, List.setIfInBounds_toArray, List.set_cons_zero, List.set_cons_succ]
    clear hbs
    clear hHeld
    have hHeld := hHeld2
    clear hHeld2
    refine wpAnyH_take (i := 16) (oi := _) (v := ?_) rfl (by kernel_rfl) (by kernel_rfl) (by kernel_rfl) (fun _ _ _ h => h) (Or.inl ⟨by rfl, ?_⟩) (by assumption) ?_
    rotate_left
    focus (intro wS hSw; (try dsimp only at hSw); go_simp; (try with_reducible rfl))
    try simp only [Act.put, List.getElem_toArray, List.getElem_cons_zero, List.getElem_cons_succ, List.setIfInBounds_toArray, List.set_cons_zero, List.set_cons_succ]
    refine wpAnyH_ready (rs := [24]) (by kernel_rfl) (by simp) (AllReadyH.cons (o := _) rfl (fun K hK => ?_) AllReadyH.nil)
    go_simp
    go_at_call 76; refine (qat_any w h mx _ _ a n c zs _ (hHeld.1.old HS.out) HN.out p1 p2 p4 p5 (by omega) (by omega) (by omega) (by omega)).mono ?_; rintro e j3 ⟨rfl, hbs⟩
    rw [hz3]
    refine hK.out _ _ ?_ (fun hHeld2 => ?_)
    focus ((try dsimp only); (exact pr_keep hbs hHeld))
    clear hK K
    try simp only [Act.put, List.getElem_toArray, List.getElem_cons_zero, List.getElem_cons_succ, List.setIfInBounds_toArray, List.set_cons_zero, List.set_cons_succ]
    clear hbs
    clear hHeld
    have hHeld := hHeld2
    clear hHeld2
    refine wpAnyH_take (i := 25) (oi := _) (v := ?_) rfl (by kernel_rfl) (by kernel_rfl) (by kernel_rfl) (fun _ _ _ h => h) (Or.inl ⟨by rfl, ?_⟩) (by assumption) ?_
    rotate_left
    focus (intro wS hSw; (try dsimp only at hSw); go_simp; (try with_reducible rfl))
    try simp only [Act.put, List.getElem_toArray, List.getElem_cons_zero, List.getElem_cons_succ, List.setIfInBounds_toArray, List.set_cons_zero, List.set_cons_succ]
    refine wpAnyH_ready (rs := [33]) (by kernel_rfl) (by simp) (AllReadyH.cons (o := _) rfl (fun K hK => ?_) AllReadyH.nil)
    go_simp
    go_at_call 76; refine (qat_any w h mx _ _ a n c zs _ (hHeld.1.old HS.out) HN.out p1 p2 p4 p5 (by omega) (by omega) (by omega) (by omega)).mono ?_; rintro e j4 ⟨rfl, hbs⟩
    rw [hz4]
    refine hK.out _ _ ?_ (fun hHeld2 => ?_)
    focus ((try dsimp only); (exact pr_keep hbs hHeld))
    clear hK K
    try simp only [Act.put, List.getElem_toArray, List.getElem_cons_zero, List.getElem_cons_succ, List.setIfInBounds_toArray, List.set_cons_zero, List.set_cons_succ]
    clear hbs
    clear hHeld
    have hHeld := hHeld2
    clear hHeld2
    refine wpAnyH_take (i := 34) (oi := _) (v := ?_) rfl (by kernel_rfl) (by kernel_rfl) (by kernel_rfl) (fun _ _ _ h => h) (Or.inl ⟨by rfl, ?_⟩) (by assumption) ?_
    rotate_left
    focus (intro wS hSw; (try dsimp only at hSw); go_simp; (try with_reducible rfl))
    try simp only [Act.put, List.getElem_toArray, List.getElem_cons_zero, List.getElem_cons_succ, List.setIfInBounds_toArray, List.set_cons_zero, List.set_cons_succ]
    refine wpAnyH_take (i := 35) (oi := _) (v := ?_) rfl (by kernel_rfl) (by kernel_rfl) (by kernel_rfl) (fun _ _ _ h => h) (Or.inl ⟨by rfl, ?_⟩) (by assumption) ?_
    rotate_left
    focus (intro wS hSw; (try dsimp only at hSw); go_simp; (try with_reducible rfl))
    try simp only [Act.put, List.getElem_toArray, List.getElem_cons_zero, List.getElem_cons_succ, List.setIfInBounds_toArray, List.set_cons_zero, List.set_cons_succ]
    refine wpAnyH_take (i := 36) (oi := _) (v := ?_) rfl (by kernel_rfl) (by kernel_rfl) (by kernel_rfl) (fun _ _ _ h => h) (Or.inl ⟨by rfl, ?_⟩) (by assumption) ?_
    rotate_left
    focus (intro wS hSw; (try dsimp only at hSw); go_simp; (try with_reducible rfl))
    try simp only [Act.put, List.getElem_toArray, List.getElem_cons_zero, List.getElem_cons_succ, List.setIfInBounds_toArray, List.set_cons_zero, List.set_cons_succ]
    refine wpAnyH_done (by kernel_rfl) ?_ _
    have H4 := hid hHeld.1
    clear hHeld
    go_wp2_with fail
    go_ret2
    exact sum_yes HC.out HR.out (by first | exact H4.out.below | exact H4.out.below')
end Go.Proofs.Ytoojiabdgaflgaa
