/-
  Contract: the tiles of programs for pixels, in the reference.
-/
import Derived.Test.YtnnpnljdefmmcaaPwTile
import Derived.Test.YtnnpnljdefmmcaaPw11
import Derived.Test.YtnnpnljdefmmcaaKE
namespace Go.Proofs.Ytnnpnljdefmmcaa
open Go.RowKit
attribute [local go_sem ↓] Go.wp_at_zero Go.wp_at_succ
set_option linter.unusedVariables false
set_option linter.unusedSimpArgs false

def pwCk (l : List (Int × Int)) (two : Bool) (mx qmx out : Int) : Int :=
  if vCode l two ≠ 0 then vCode l two else if ¬ valOk out = true then 2 else (ivR l mx (pwS two qmx)).2.2
theorem pwTC_eq (w h mx : Int) (zs : List Int) (qw qh qmx : Int) (qs : List Int) (two : Bool) (l : List (Int × Int)) (out r0 r1 r2 r3 : Int) : pwTC w h mx zs qw qh qmx qs two l out r0 r1 r2 r3 =
    if ¬ (pValid w h mx zs = true ∧ (two = true → pValid qw qh qmx qs = true)) then 1 else if pwCk l two mx qmx out ≠ 0 then pwCk l two mx qmx out else if (two = true ∧ ¬ (w = qw ∧ h = qh)) ∨ ¬ rIs r0 r1 r2 r3 w h = true then 8 else 0 := by
  unfold pwTC pwCk
  by_cases h1 : ¬ (pValid w h mx zs = true ∧ (two = true → pValid qw qh qmx qs = true))
  · rw [if_pos h1, if_pos h1]
  · rw [if_neg h1, if_neg h1]
    by_cases h2 : vCode l two ≠ 0
    · rw [if_pos h2, if_pos h2, if_pos h2]
    · rw [if_neg h2, if_neg h2]
      by_cases h3 : ¬ valOk out = true
      · rw [if_pos h3, if_pos h3, if_pos (by omega)]
      · rw [if_neg h3, if_neg h3]
theorem pwCk_zero {l : List (Int × Int)} {two : Bool} {mx qmx out : Int} (h : pwCk l two mx qmx out = 0) : vCode l two = 0 ∧ valOk out = true := by
  unfold pwCk at h
  by_cases h2 : vCode l two ≠ 0
  · rw [if_pos h2] at h; exact absurd h h2
  · rw [if_neg h2] at h
    by_cases h3 : ¬ valOk out = true
    · rw [if_pos h3] at h; omega
    · exact ⟨Decidable.not_not.1 h2, Decidable.not_not.1 h3⟩

set_option maxRecDepth 100000 in
set_option maxHeartbeats 1600000 in
theorem rcheck14_true (la : Option Addr) (lx lc : Nat) (ls : List (Int × Int)) (mx qmx out : Int) (W : World) (ho : Prs W la lx lc ls) : Calls Try.prog 85 #[.slice la lx lc, .bool true, .int .i64 mx, .int .i64 qmx, .int .i64 out] W fun e w' => e = .returned (.int .i64 (pwCk ls true mx qmx out)) ∧ Below W.heap.size W w' := by
  obtain ⟨B, hB⟩ : ∃ B, W.heap.size = B := ⟨_, rfl⟩
  have HI0 := hid (St.init hB)
  have HO := hid ho
  clear ho
  go_enter Try.func85, Try.ntmps85
  go_wp2_with fail
  refine (rvalid_any14 _ _ _ ls true _ (HI0.out.oldPrs HO.out)).mono ?_
  rintro e w1 ⟨rfl, hb⟩
  have H2 := hid (HI0.out.call hb)
  clear hb
  obtain ⟨c3, hc3⟩ : ∃ xx', vCode ls true = xx' := ⟨_, rfl⟩
  rw [hc3]
  have HNc3 := hid hc3
  clear hc3
  by_cases c4 : (c3 : Int) = 0
  · obtain ⟨c4c, c4d⟩ : (c3 : Int) ≤ 0 ∧ (0 : Int) ≤ c3 := by omega
    have c4a : ((c3 : Int) == (0)) = true := by simpa using c4
    have c4b : ((c3 : Int) != (0)) = false := by simpa using c4
    have c4h := hid c4
    clear c4
    go_wp2_with fail
    refine (rval14_any _ _).mono ?_
    rintro e w5 ⟨rfl, hsw⟩
    have hsw2 : w1 = w5 := by first | exact hsw | exact hsw.symm
    clear hsw
    subst hsw2
    obtain ⟨b6, hb6⟩ : ∃ xx', valOk out = xx' := ⟨_, rfl⟩
    rw [hb6]
    have HNb6 := hid hb6
    clear hb6
    cases b6 with
    | true =>
      go_wp2_with fail
      refine (rinterval_any _ _ _ ls _ _ _ (H2.out.oldPrs HO.out)).mono ?_
      rintro e w7 ⟨rfl, hb⟩
      have H8 := hid (H2.out.call hb)
      clear hb
      obtain ⟨n9, hn9⟩ : ∃ xx', (ivR ls mx qmx).1 = xx' := ⟨_, rfl⟩
      rw [hn9]
      have HNn9 := hid hn9
      clear hn9
      obtain ⟨n10, hn10⟩ : ∃ xx', (ivR ls mx qmx).2.1 = xx' := ⟨_, rfl⟩
      rw [hn10]
      have HNn10 := hid hn10
      clear hn10
      obtain ⟨c11, hc11⟩ : ∃ xx', (ivR ls mx qmx).2.2 = xx' := ⟨_, rfl⟩
      rw [hc11]
      have HNc11 := hid hc11
      clear hc11
      go_wp2_with fail
      go_ret
      exact ⟨ret_i (by unfold pwCk; rw [if_neg (show ¬ vCode ls true ≠ 0 from by rw [HNc3.out]; have := c4h.out; omega), if_neg (by rw [HNb6.out]; simp)]; exact HNc11.out.symm), by first | exact H8.out.below | exact H8.out.below'⟩
    | false =>
      go_wp2_with fail
      go_ret
      exact ⟨ret_i (by unfold pwCk; rw [if_neg (show ¬ vCode ls true ≠ 0 from by rw [HNc3.out]; have := c4h.out; omega), if_pos (by rw [HNb6.out]; simp)]), by first | exact H2.out.below | exact H2.out.below'⟩
  · have c4a : ((c3 : Int) == (0)) = false := by simpa using c4
    have c4b : ((c3 : Int) != (0)) = true := by simpa using c4
    have c4h := hid c4
    clear c4
    go_wp2_with fail
    go_ret
    exact ⟨ret_i (by unfold pwCk; rw [if_pos (by rw [HNc3.out]; have := c4h.out; omega), HNc3.out]), by first | exact H2.out.below | exact H2.out.below'⟩

set_option maxRecDepth 100000 in
set_option maxHeartbeats 1600000 in
theorem rcheck14_false (la : Option Addr) (lx lc : Nat) (ls : List (Int × Int)) (mx qmx out : Int) (W : World) (ho : Prs W la lx lc ls) : Calls Try.prog 85 #[.slice la lx lc, .bool false, .int .i64 mx, .int .i64 qmx, .int .i64 out] W fun e w' => e = .returned (.int .i64 (pwCk ls false mx qmx out)) ∧ Below W.heap.size W w' := by
  obtain ⟨B, hB⟩ : ∃ B, W.heap.size = B := ⟨_, rfl⟩
  have HI0 := hid (St.init hB)
  have HO := hid ho
  clear ho
  go_enter Try.func85, Try.ntmps85
  go_wp2_with fail
  refine (rvalid_any14 _ _ _ ls false _ (HI0.out.oldPrs HO.out)).mono ?_
  rintro e w12 ⟨rfl, hb⟩
  have H13 := hid (HI0.out.call hb)
  clear hb
  obtain ⟨c14, hc14⟩ : ∃ xx', vCode ls false = xx' := ⟨_, rfl⟩
  rw [hc14]
  have HNc14 := hid hc14
  clear hc14
  by_cases c15 : (c14 : Int) = 0
  · obtain ⟨c15c, c15d⟩ : (c14 : Int) ≤ 0 ∧ (0 : Int) ≤ c14 := by omega
    have c15a : ((c14 : Int) == (0)) = true := by simpa using c15
    have c15b : ((c14 : Int) != (0)) = false := by simpa using c15
    have c15h := hid c15
    clear c15
    go_wp2_with fail
    refine (rval14_any _ _).mono ?_
    rintro e w16 ⟨rfl, hsw⟩
    have hsw2 : w12 = w16 := by first | exact hsw | exact hsw.symm
    clear hsw
    subst hsw2
    obtain ⟨b17, hb17⟩ : ∃ xx', valOk out = xx' := ⟨_, rfl⟩
    rw [hb17]
    have HNb17 := hid hb17
    clear hb17
    cases b17 with
    | true =>
      go_wp2_with fail
      refine (rinterval_any _ _ _ ls _ _ _ (H13.out.oldPrs HO.out)).mono ?_
      rintro e w18 ⟨rfl, hb⟩
      have H19 := hid (H13.out.call hb)
      clear hb
      obtain ⟨n20, hn20⟩ : ∃ xx', (ivR ls mx 1).1 = xx' := ⟨_, rfl⟩
      rw [hn20]
      have HNn20 := hid hn20
      clear hn20
      obtain ⟨n21, hn21⟩ : ∃ xx', (ivR ls mx 1).2.1 = xx' := ⟨_, rfl⟩
      rw [hn21]
      have HNn21 := hid hn21
      clear hn21
      obtain ⟨c22, hc22⟩ : ∃ xx', (ivR ls mx 1).2.2 = xx' := ⟨_, rfl⟩
      rw [hc22]
      have HNc22 := hid hc22
      clear hc22
      go_wp2_with fail
      go_ret
      exact ⟨ret_i (by unfold pwCk; rw [if_neg (show ¬ vCode ls false ≠ 0 from by rw [HNc14.out]; have := c15h.out; omega), if_neg (by rw [HNb17.out]; simp)]; exact HNc22.out.symm), by first | exact H19.out.below | exact H19.out.below'⟩
    | false =>
      go_wp2_with fail
      go_ret
      exact ⟨ret_i (by unfold pwCk; rw [if_neg (show ¬ vCode ls false ≠ 0 from by rw [HNc14.out]; have := c15h.out; omega), if_pos (by rw [HNb17.out]; simp)]), by first | exact H13.out.below | exact H13.out.below'⟩
  · have c15a : ((c14 : Int) == (0)) = false := by simpa using c15
    have c15b : ((c14 : Int) != (0)) = true := by simpa using c15
    have c15h := hid c15
    clear c15
    go_wp2_with fail
    go_ret
    exact ⟨ret_i (by unfold pwCk; rw [if_pos (by rw [HNc14.out]; have := c15h.out; omega), HNc14.out]), by first | exact H13.out.below | exact H13.out.below'⟩

set_option maxRecDepth 100000 in
set_option maxHeartbeats 12800000 in
theorem rtile14_true (w h mx : Int) (a : Option Addr) (n c : Nat) (zs : List Int) (qw qh qmx : Int) (qa : Option Addr) (qn qc : Nat) (qs : List Int) (la : Option Addr) (lx lc : Nat) (ls : List (Int × Int)) (out r0 r1 r2 r3 : Int) (W : World) (hs : Slc W a n c zs) (hq : Slc W qa qn qc qs) (ho : Prs W la lx lc ls) :
    Calls Try.prog 47 #[.agg #[.int .i64 w, .int .i64 h, .int .i64 mx, .slice a n c], .agg #[.int .i64 qw, .int .i64 qh, .int .i64 qmx, .slice qa qn qc], .bool true, .slice la lx lc, .int .i64 out, .agg #[.int .i64 r0, .int .i64 r1, .int .i64 r2, .int .i64 r3]] W (TPost (pwTC w h mx zs qw qh qmx qs true ls out r0 r1 r2 r3) (r2 - r0) (r3 - r1) out (pwL w zs true qs ls out r0 r1 r2 r3) W) := by
  obtain ⟨B, hB⟩ : ∃ B, W.heap.size = B := ⟨_, rfl⟩
  have HI0 := hid (St.init hB)
  have HS := hid hs
  have HQ := hid hq
  have HO := hid ho
  have HLZ := hid hs.len
  have HLQ := hid hq.len
  clear hs hq ho
  go_enter Try.func47, Try.ntmps47
  go_upto_region 1 with fail
  have H23 := hid (show St B W [.cells (B + 1 + 1 + 1) #[.int .i64 0, .int .i64 0, .int .i64 0, .slice none 0 0] 66, .cells (B + 1 + 1) #[.int .i64 r0, .int .i64 r1, .int .i64 r2, .int .i64 r3] 24, .cells (B + 1) #[.int .i64 qw, .int .i64 qh, .int .i64 qmx, .slice qa qn qc] 66, .cells B #[.int .i64 w, .int .i64 h, .int .i64 mx, .slice a n c] 66] [] ((((W.alloc (.cells #[.int .i64 w, .int .i64 h, .int .i64 mx, .slice a n c] 66)).alloc (.cells #[.int .i64 qw, .int .i64 qh, .int .i64 qmx, .slice qa qn qc] 66)).alloc (.cells #[.int .i64 r0, .int .i64 r1, .int .i64 r2, .int .i64 r3] 24)).alloc (.cells #[.int .i64 0, .int .i64 0, .int .i64 0, .slice none 0 0] 66)) from ((((HI0.out.alloc #[.int .i64 w, .int .i64 h, .int .i64 mx, .slice a n c] 66 hB).alloc #[.int .i64 qw, .int .i64 qh, .int .i64 qmx, .slice qa qn qc] 66 (by first | exact hB | simp [hB])).alloc #[.int .i64 r0, .int .i64 r1, .int .i64 r2, .int .i64 r3] 24 (by first | exact hB | simp [hB])).alloc #[.int .i64 0, .int .i64 0, .int .i64 0, .slice none 0 0] 66 (by first | exact hB | simp [hB])))
  first | refine gen_code H23.out ?_ | refine gen_list H23.out ?_ | refine gen_calls H23.out ?_
  intro w24 hG
  clear H23
  have H23 := hid hG
  clear hG
  have z25 := H23.out.cell 3 rfl 0 rfl
  have z26 := H23.out.cell 3 rfl 1 rfl
  have z27 := H23.out.cell 3 rfl 2 rfl
  have z28 := H23.out.cell 3 rfl 3 rfl
  go_wp2_with fail
  clear z25 z26 z27 z28
  refine (qpvalid_any _ _ _ _ _ _ _ _ (by have := HS.out.nc; have := HS.out.cap; omega) (H23.out.old HS.out).row).mono ?_
  rintro e w29 ⟨rfl, hb⟩
  have H30 := hid (H23.out.call hb)
  clear hb
  obtain ⟨b31, hb31⟩ : ∃ xx', pValid w h mx zs = xx' := ⟨_, rfl⟩
  rw [hb31]
  have HNb31 := hid hb31
  clear hb31
  cases b31 with
  | true =>
    have z32 := H30.out.cell 2 rfl 0 rfl
    have z33 := H30.out.cell 2 rfl 1 rfl
    have z34 := H30.out.cell 2 rfl 2 rfl
    have z35 := H30.out.cell 2 rfl 3 rfl
    go_wp2_with fail
    clear z32 z33 z34 z35
    refine (qpvalid_any _ _ _ _ _ _ _ _ (by have := HQ.out.nc; have := HQ.out.cap; omega) (H30.out.old HQ.out).row).mono ?_
    rintro e w36 ⟨rfl, hb⟩
    have H37 := hid (H30.out.call hb)
    clear hb
    obtain ⟨b38, hb38⟩ : ∃ xx', pValid qw qh qmx qs = xx' := ⟨_, rfl⟩
    rw [hb38]
    have HNb38 := hid hb38
    clear hb38
    cases b38 with
    | true =>
      have z39 := H37.out.cell 3 rfl 0 rfl
      have z40 := H37.out.cell 3 rfl 1 rfl
      have z41 := H37.out.cell 3 rfl 2 rfl
      have z42 := H37.out.cell 3 rfl 3 rfl
      have z43 := H37.out.cell 2 rfl 0 rfl
      have z44 := H37.out.cell 2 rfl 1 rfl
      have z45 := H37.out.cell 2 rfl 2 rfl
      have z46 := H37.out.cell 2 rfl 3 rfl
      go_wp2_with fail
      clear z39 z40 z41 z42 z43 z44 z45 z46
      refine (rcheck14_true _ _ _ ls _ _ _ _ (H37.out.oldPrs HO.out)).mono ?_
      rintro e w47 ⟨rfl, hb⟩
      have H48 := hid (H37.out.call hb)
      clear hb
      obtain ⟨k49, hk49⟩ : ∃ xx', pwCk ls true mx qmx out = xx' := ⟨_, rfl⟩
      rw [hk49]
      have HNk49 := hid hk49
      clear hk49
      by_cases c50 : (k49 : Int) = 0
      · obtain ⟨c50c, c50d⟩ : (k49 : Int) ≤ 0 ∧ (0 : Int) ≤ k49 := by omega
        have c50a : ((k49 : Int) == (0)) = true := by simpa using c50
        have c50b : ((k49 : Int) != (0)) = false := by simpa using c50
        have c50h := hid c50
        clear c50
        go_upto_region 6 with fail
        by_cases c51 : (w : Int) = qw
        · obtain ⟨c51c, c51d⟩ : (w : Int) ≤ qw ∧ (qw : Int) ≤ w := by omega
          have c51a : ((w : Int) == (qw)) = true := by simpa using c51
          have c51b : ((w : Int) != (qw)) = false := by simpa using c51
          have c51h := hid c51
          clear c51
          by_cases c52 : (h : Int) = qh
          · obtain ⟨c52c, c52d⟩ : (h : Int) ≤ qh ∧ (qh : Int) ≤ h := by omega
            have c52a : ((h : Int) == (qh)) = true := by simpa using c52
            have c52b : ((h : Int) != (qh)) = false := by simpa using c52
            have c52h := hid c52
            clear c52
            cases hfu : rFull r0 r1 r2 r3 with
            | false =>
              have HFU := hid hfu
              have HX := hid (fullInside' (b0 := 0) (b1 := 0) (b2 := w) (b3 := h) (.inl hfu))
              clear hfu
              go_upto_region 6 with fail
              have H53 := hid H48.out.drew
              refine wp_region_held_drew (S := (fun w' => w'.cell? ⟨B, 0, none⟩ = some (.int .i64 w) ∧ w'.cell? ⟨B, 1, none⟩ = some (.int .i64 h) ∧ w'.cell? ⟨B, 2, none⟩ = some (.int .i64 mx) ∧ w'.cell? ⟨B, 3, none⟩ = some (.slice a n c) ∧ w'.cell? ⟨B + 1, 0, none⟩ = some (.int .i64 qw) ∧ w'.cell? ⟨B + 1, 1, none⟩ = some (.int .i64 qh) ∧ w'.cell? ⟨B + 1, 2, none⟩ = some (.int .i64 qmx) ∧ w'.cell? ⟨B + 1, 3, none⟩ = some (.slice qa qn qc) ∧ w'.cell? ⟨B + 1 + 1, 0, none⟩ = some (.int .i64 r0) ∧ w'.cell? ⟨B + 1 + 1, 1, none⟩ = some (.int .i64 r1) ∧ w'.cell? ⟨B + 1 + 1, 2, none⟩ = some (.int .i64 r2) ∧ w'.cell? ⟨B + 1 + 1, 3, none⟩ = some (.int .i64 r3))) (by kernel_rfl) ⟨H53.out.cell 3 rfl 0 rfl, H53.out.cell 3 rfl 1 rfl, H53.out.cell 3 rfl 2 rfl, H53.out.cell 3 rfl 3 rfl, H53.out.cell 2 rfl 0 rfl, H53.out.cell 2 rfl 1 rfl, H53.out.cell 2 rfl 2 rfl, H53.out.cell 2 rfl 3 rfl, H53.out.cell 1 rfl 0 rfl, H53.out.cell 1 rfl 1 rfl, H53.out.cell 1 rfl 2 rfl, H53.out.cell 1 rfl 3 rfl⟩ (fun hHeld => ?_)
              generalize w47.drew = k54 at *
              refine tkA 0 ?_
              try simp only [Act.put, p1, p2, p3, p4, p5, p6]
              refine tkA 1 ?_
              try simp only [Act.put, p1, p2, p3, p4, p5, p6]
              refine tkA 2 ?_
              try simp only [Act.put, p1, p2, p3, p4, p5, p6]
              refine tkA 3 ?_
              try simp only [Act.put, p1, p2, p3, p4, p5, p6]
              refine tkA 4 ?_
              try simp only [Act.put, p1, p2, p3, p4, p5, p6]
              refine tkA 5 ?_
              try simp only [Act.put, p1, p2, p3, p4, p5, p6]
              refine tkA 6 ?_
              try simp only [Act.put, p1, p2, p3, p4, p5, p6]
              refine tkA 7 ?_
              try simp only [Act.put, p1, p2, p3, p4, p5, p6]
              refine tkA 8 ?_
              try simp only [Act.put, p1, p2, p3, p4, p5, p6]
              refine tkA 9 ?_
              try simp only [Act.put, p1, p2, p3, p4, p5, p6]
              refine tkA 10 ?_
              try simp only [Act.put, p1, p2, p3, p4, p5, p6]
              refine tkA 11 ?_
              try simp only [Act.put, p1, p2, p3, p4, p5, p6]
              refine tkA 12 ?_
              try simp only [Act.put, p1, p2, p3, p4, p5, p6]
              refine tkA 13 ?_
              try simp only [Act.put, p1, p2, p3, p4, p5, p6]
              refine tkA 14 ?_
              try simp only [Act.put, p1, p2, p3, p4, p5, p6]
              refine tkA 15 ?_
              try simp only [Act.put, p1, p2, p3, p4, p5, p6]
              refine tkA 16 ?_
              try simp only [Act.put, p1, p2, p3, p4, p5, p6]
              refine wpAnyH_ready (rs := [17]) (by kernel_rfl) (by simp) (AllReadyH.cons (o := _) rfl (fun K hK => ?_) AllReadyH.nil)
              go_simp
              go_at_call 86
              refine (qfull_any _ _ _ _ _).mono ?_
              rintro e w55 ⟨rfl, hb⟩
              have H56 := hid (H53.out.call hb)
              clear hb
              rw [HFU.out]
              refine hK.out _ _ ?_ (fun hHeld2 => ?_)
              focus ((try dsimp only); (exact ⟨H56.out.cell 3 rfl 0 rfl, H56.out.cell 3 rfl 1 rfl, H56.out.cell 3 rfl 2 rfl, H56.out.cell 3 rfl 3 rfl, H56.out.cell 2 rfl 0 rfl, H56.out.cell 2 rfl 1 rfl, H56.out.cell 2 rfl 2 rfl, H56.out.cell 2 rfl 3 rfl, H56.out.cell 1 rfl 0 rfl, H56.out.cell 1 rfl 1 rfl, H56.out.cell 1 rfl 2 rfl, H56.out.cell 1 rfl 3 rfl⟩))
              clear hK K
              try simp only [Act.put, p1, p2, p3, p4, p5, p6]
              clear hHeld
              have hHeld := hHeld2
              clear hHeld2
              refine tkA 18 ?_
              try simp only [Act.put, p1, p2, p3, p4, p5, p6]
              refine tkA 19 ?_
              try simp only [Act.put, p1, p2, p3, p4, p5, p6]
              refine tkA 20 ?_
              try simp only [Act.put, p1, p2, p3, p4, p5, p6]
              refine tkU 21 ?_
              try simp only [Act.put, p1, p2, p3, p4, p5, p6]
              refine tkU 22 ?_
              try simp only [Act.put, p1, p2, p3, p4, p5, p6]
              refine tkU 23 ?_
              try simp only [Act.put, p1, p2, p3, p4, p5, p6]
              refine tkU 24 ?_
              try simp only [Act.put, p1, p2, p3, p4, p5, p6]
              refine tkU 25 ?_
              try simp only [Act.put, p1, p2, p3, p4, p5, p6]
              refine tkA 26 ?_
              try simp only [Act.put, p1, p2, p3, p4, p5, p6]
              refine wpAnyH_done (by kernel_rfl) ?_ _
              try clear hHeld
              have z57 := H56.out.cell 0 rfl 0 rfl
              have z58 := H56.out.free 0 rfl 0
              have z59 := H56.out.cell 0 rfl 1 rfl
              have z60 := H56.out.free 0 rfl 1
              have z61 := H56.out.cell 0 rfl 2 rfl
              have z62 := H56.out.free 0 rfl 2
              have z63 := H56.out.cell 0 rfl 3 rfl
              have z64 := H56.out.free 0 rfl 3
              go_wp2_with fail
              clear z57 z58 z59 z60 z61 z62 z63 z64
              have H65 := hid (show St B W [.cells (B + 1 + 1 + 1) #[.int .i64 0, .int .i64 0, .int .i64 0, .slice none 0 0] 66, .cells (B + 1 + 1) #[.int .i64 r0, .int .i64 r1, .int .i64 r2, .int .i64 r3] 24, .cells (B + 1) #[.int .i64 qw, .int .i64 qh, .int .i64 qmx, .slice qa qn qc] 66, .cells B #[.int .i64 w, .int .i64 h, .int .i64 mx, .slice a n c] 66] [] ((((w55.setCell ⟨B + 1 + 1 + 1, 0, none⟩ (.int .i64 0)).setCell ⟨B + 1 + 1 + 1, 1, none⟩ (.int .i64 0)).setCell ⟨B + 1 + 1 + 1, 2, none⟩ (.int .i64 0)).setCell ⟨B + 1 + 1 + 1, 3, none⟩ (.slice none 0 0)) from (H56.out.set4 0 rfl (.int .i64 0) (.int .i64 0) (.int .i64 0) (.slice none 0 0)))
              have q66 := H65.out.cell 0 rfl 0 rfl
              have q67 := H65.out.cell 0 rfl 1 rfl
              have q68 := H65.out.cell 0 rfl 2 rfl
              have q69 := H65.out.cell 0 rfl 3 rfl
              refine bodyPost_ret (v := .tuple #[.agg #[.int .i64 0, .int .i64 0, .int .i64 0, .slice none 0 0], .int .i64 8]) ?_ rfl (TPost.no (by rw [pwTC_eq]; rw [if_neg (fun hc => hc ⟨HNb31.out, fun _ => HNb38.out⟩), if_neg (show ¬ pwCk ls true mx qmx out ≠ 0 from by rw [HNk49.out]; have := c50h.out; have := c51h.out; have := c52h.out; omega), if_pos (by first | exact Or.inl ⟨rfl, by have := c50h.out; have := c51h.out; have := c52h.out; omega⟩ | exact Or.inr (by unfold rIs; rw [HX.out]; simp))]) (by have := c50h.out; have := c51h.out; have := c52h.out; omega) (by first | exact H65.out.below | exact H65.out.below'))
              simp [results, Try.results47, go_sem, q66, q67, q68, q69]
            | true =>
              have HFU := hid hfu
              cases hin : rInside r0 r1 r2 r3 0 0 w h with
              | false =>
                have HIN0 := hid hin
                have HX := hid (fullInside' (r0 := r0) (r1 := r1) (r2 := r2) (r3 := r3) (.inr hin))
                clear hfu hin
                go_upto_region 6 with fail
                have H70 := hid H48.out.drew
                refine wp_region_held_drew (S := (fun w' => w'.cell? ⟨B, 0, none⟩ = some (.int .i64 w) ∧ w'.cell? ⟨B, 1, none⟩ = some (.int .i64 h) ∧ w'.cell? ⟨B, 2, none⟩ = some (.int .i64 mx) ∧ w'.cell? ⟨B, 3, none⟩ = some (.slice a n c) ∧ w'.cell? ⟨B + 1, 0, none⟩ = some (.int .i64 qw) ∧ w'.cell? ⟨B + 1, 1, none⟩ = some (.int .i64 qh) ∧ w'.cell? ⟨B + 1, 2, none⟩ = some (.int .i64 qmx) ∧ w'.cell? ⟨B + 1, 3, none⟩ = some (.slice qa qn qc) ∧ w'.cell? ⟨B + 1 + 1, 0, none⟩ = some (.int .i64 r0) ∧ w'.cell? ⟨B + 1 + 1, 1, none⟩ = some (.int .i64 r1) ∧ w'.cell? ⟨B + 1 + 1, 2, none⟩ = some (.int .i64 r2) ∧ w'.cell? ⟨B + 1 + 1, 3, none⟩ = some (.int .i64 r3))) (by kernel_rfl) ⟨H70.out.cell 3 rfl 0 rfl, H70.out.cell 3 rfl 1 rfl, H70.out.cell 3 rfl 2 rfl, H70.out.cell 3 rfl 3 rfl, H70.out.cell 2 rfl 0 rfl, H70.out.cell 2 rfl 1 rfl, H70.out.cell 2 rfl 2 rfl, H70.out.cell 2 rfl 3 rfl, H70.out.cell 1 rfl 0 rfl, H70.out.cell 1 rfl 1 rfl, H70.out.cell 1 rfl 2 rfl, H70.out.cell 1 rfl 3 rfl⟩ (fun hHeld => ?_)
                generalize w47.drew = k71 at *
                refine tkA 0 ?_
                try simp only [Act.put, p1, p2, p3, p4, p5, p6]
                refine tkA 1 ?_
                try simp only [Act.put, p1, p2, p3, p4, p5, p6]
                refine tkA 2 ?_
                try simp only [Act.put, p1, p2, p3, p4, p5, p6]
                refine tkA 3 ?_
                try simp only [Act.put, p1, p2, p3, p4, p5, p6]
                refine tkA 4 ?_
                try simp only [Act.put, p1, p2, p3, p4, p5, p6]
                refine tkA 5 ?_
                try simp only [Act.put, p1, p2, p3, p4, p5, p6]
                refine tkA 6 ?_
                try simp only [Act.put, p1, p2, p3, p4, p5, p6]
                refine tkA 7 ?_
                try simp only [Act.put, p1, p2, p3, p4, p5, p6]
                refine tkA 8 ?_
                try simp only [Act.put, p1, p2, p3, p4, p5, p6]
                refine tkA 9 ?_
                try simp only [Act.put, p1, p2, p3, p4, p5, p6]
                refine tkA 10 ?_
                try simp only [Act.put, p1, p2, p3, p4, p5, p6]
                refine tkA 11 ?_
                try simp only [Act.put, p1, p2, p3, p4, p5, p6]
                refine tkA 12 ?_
                try simp only [Act.put, p1, p2, p3, p4, p5, p6]
                refine tkA 13 ?_
                try simp only [Act.put, p1, p2, p3, p4, p5, p6]
                refine tkA 14 ?_
                try simp only [Act.put, p1, p2, p3, p4, p5, p6]
                refine tkA 15 ?_
                try simp only [Act.put, p1, p2, p3, p4, p5, p6]
                refine tkA 16 ?_
                try simp only [Act.put, p1, p2, p3, p4, p5, p6]
                refine wpAnyH_ready (rs := [17]) (by kernel_rfl) (by simp) (AllReadyH.cons (o := _) rfl (fun K hK => ?_) AllReadyH.nil)
                go_simp
                go_at_call 86
                refine (qfull_any _ _ _ _ _).mono ?_
                rintro e w72 ⟨rfl, hb⟩
                have H73 := hid (H70.out.call hb)
                clear hb
                rw [HFU.out]
                refine hK.out _ _ ?_ (fun hHeld2 => ?_)
                focus ((try dsimp only); (exact ⟨H73.out.cell 3 rfl 0 rfl, H73.out.cell 3 rfl 1 rfl, H73.out.cell 3 rfl 2 rfl, H73.out.cell 3 rfl 3 rfl, H73.out.cell 2 rfl 0 rfl, H73.out.cell 2 rfl 1 rfl, H73.out.cell 2 rfl 2 rfl, H73.out.cell 2 rfl 3 rfl, H73.out.cell 1 rfl 0 rfl, H73.out.cell 1 rfl 1 rfl, H73.out.cell 1 rfl 2 rfl, H73.out.cell 1 rfl 3 rfl⟩))
                clear hK K
                try simp only [Act.put, p1, p2, p3, p4, p5, p6]
                clear hHeld
                have hHeld := hHeld2
                clear hHeld2
                refine tkA 18 ?_
                try simp only [Act.put, p1, p2, p3, p4, p5, p6]
                refine tkA 19 ?_
                try simp only [Act.put, p1, p2, p3, p4, p5, p6]
                refine tkA 20 ?_
                try simp only [Act.put, p1, p2, p3, p4, p5, p6]
                refine tkA 21 ?_
                try simp only [Act.put, p1, p2, p3, p4, p5, p6]
                refine tkA 22 ?_
                try simp only [Act.put, p1, p2, p3, p4, p5, p6]
                refine wpAnyH_ready (rs := [23]) (by kernel_rfl) (by simp) (AllReadyH.cons (o := _) rfl (fun K hK => ?_) AllReadyH.nil)
                go_simp
                go_at_call 88
                refine (qcover_any _ _ _ _ _ _ _).mono ?_
                rintro e w74 ⟨rfl, hb⟩
                have H75 := hid (H73.out.call hb)
                clear hb
                refine hK.out _ _ ?_ (fun hHeld2 => ?_)
                focus ((try dsimp only); (exact ⟨H75.out.cell 3 rfl 0 rfl, H75.out.cell 3 rfl 1 rfl, H75.out.cell 3 rfl 2 rfl, H75.out.cell 3 rfl 3 rfl, H75.out.cell 2 rfl 0 rfl, H75.out.cell 2 rfl 1 rfl, H75.out.cell 2 rfl 2 rfl, H75.out.cell 2 rfl 3 rfl, H75.out.cell 1 rfl 0 rfl, H75.out.cell 1 rfl 1 rfl, H75.out.cell 1 rfl 2 rfl, H75.out.cell 1 rfl 3 rfl⟩))
                clear hK K
                try simp only [Act.put, p1, p2, p3, p4, p5, p6]
                clear hHeld
                have hHeld := hHeld2
                clear hHeld2
                refine wpAnyH_ready (rs := [24]) (by kernel_rfl) (by simp) (AllReadyH.cons (o := _) rfl (fun K hK => ?_) AllReadyH.nil)
                go_simp
                go_at_call 87
                refine (qinside_any _ _ _ _ _ _ _ _ _).mono ?_
                rintro e w76 ⟨rfl, hb⟩
                have H77 := hid (H75.out.call hb)
                clear hb
                rw [HIN0.out]
                refine hK.out _ _ ?_ (fun hHeld2 => ?_)
                focus ((try dsimp only); (exact ⟨H77.out.cell 3 rfl 0 rfl, H77.out.cell 3 rfl 1 rfl, H77.out.cell 3 rfl 2 rfl, H77.out.cell 3 rfl 3 rfl, H77.out.cell 2 rfl 0 rfl, H77.out.cell 2 rfl 1 rfl, H77.out.cell 2 rfl 2 rfl, H77.out.cell 2 rfl 3 rfl, H77.out.cell 1 rfl 0 rfl, H77.out.cell 1 rfl 1 rfl, H77.out.cell 1 rfl 2 rfl, H77.out.cell 1 rfl 3 rfl⟩))
                clear hK K
                try simp only [Act.put, p1, p2, p3, p4, p5, p6]
                clear hHeld
                have hHeld := hHeld2
                clear hHeld2
                refine tkA 25 ?_
                try simp only [Act.put, p1, p2, p3, p4, p5, p6]
                refine tkA 26 ?_
                try simp only [Act.put, p1, p2, p3, p4, p5, p6]
                refine wpAnyH_done (by kernel_rfl) ?_ _
                try clear hHeld
                have z78 := H77.out.cell 0 rfl 0 rfl
                have z79 := H77.out.free 0 rfl 0
                have z80 := H77.out.cell 0 rfl 1 rfl
                have z81 := H77.out.free 0 rfl 1
                have z82 := H77.out.cell 0 rfl 2 rfl
                have z83 := H77.out.free 0 rfl 2
                have z84 := H77.out.cell 0 rfl 3 rfl
                have z85 := H77.out.free 0 rfl 3
                go_wp2_with fail
                clear z78 z79 z80 z81 z82 z83 z84 z85
                have H86 := hid (show St B W [.cells (B + 1 + 1 + 1) #[.int .i64 0, .int .i64 0, .int .i64 0, .slice none 0 0] 66, .cells (B + 1 + 1) #[.int .i64 r0, .int .i64 r1, .int .i64 r2, .int .i64 r3] 24, .cells (B + 1) #[.int .i64 qw, .int .i64 qh, .int .i64 qmx, .slice qa qn qc] 66, .cells B #[.int .i64 w, .int .i64 h, .int .i64 mx, .slice a n c] 66] [] ((((w76.setCell ⟨B + 1 + 1 + 1, 0, none⟩ (.int .i64 0)).setCell ⟨B + 1 + 1 + 1, 1, none⟩ (.int .i64 0)).setCell ⟨B + 1 + 1 + 1, 2, none⟩ (.int .i64 0)).setCell ⟨B + 1 + 1 + 1, 3, none⟩ (.slice none 0 0)) from (H77.out.set4 0 rfl (.int .i64 0) (.int .i64 0) (.int .i64 0) (.slice none 0 0)))
                have q87 := H86.out.cell 0 rfl 0 rfl
                have q88 := H86.out.cell 0 rfl 1 rfl
                have q89 := H86.out.cell 0 rfl 2 rfl
                have q90 := H86.out.cell 0 rfl 3 rfl
                refine bodyPost_ret (v := .tuple #[.agg #[.int .i64 0, .int .i64 0, .int .i64 0, .slice none 0 0], .int .i64 8]) ?_ rfl (TPost.no (by rw [pwTC_eq]; rw [if_neg (fun hc => hc ⟨HNb31.out, fun _ => HNb38.out⟩), if_neg (show ¬ pwCk ls true mx qmx out ≠ 0 from by rw [HNk49.out]; have := c50h.out; have := c51h.out; have := c52h.out; omega), if_pos (by first | exact Or.inl ⟨rfl, by have := c50h.out; have := c51h.out; have := c52h.out; omega⟩ | exact Or.inr (by unfold rIs; rw [HX.out]; simp))]) (by have := c50h.out; have := c51h.out; have := c52h.out; omega) (by first | exact H86.out.below | exact H86.out.below'))
                simp [results, Try.results47, go_sem, q87, q88, q89, q90]
              | true =>
                have HIN0 := hid hin
                have HX := hid (show (!rEmpty r0 r1 r2 r3 && rInside r0 r1 r2 r3 0 0 w h) = true by rw [← fullInside, hfu, hin]; rfl)
                clear hfu hin
                go_upto_region 6 with fail
                have H91 := hid H48.out.drew
                refine wp_region_held_drew (S := (fun w' => w'.cell? ⟨B, 0, none⟩ = some (.int .i64 w) ∧ w'.cell? ⟨B, 1, none⟩ = some (.int .i64 h) ∧ w'.cell? ⟨B, 2, none⟩ = some (.int .i64 mx) ∧ w'.cell? ⟨B, 3, none⟩ = some (.slice a n c) ∧ w'.cell? ⟨B + 1, 0, none⟩ = some (.int .i64 qw) ∧ w'.cell? ⟨B + 1, 1, none⟩ = some (.int .i64 qh) ∧ w'.cell? ⟨B + 1, 2, none⟩ = some (.int .i64 qmx) ∧ w'.cell? ⟨B + 1, 3, none⟩ = some (.slice qa qn qc) ∧ w'.cell? ⟨B + 1 + 1, 0, none⟩ = some (.int .i64 r0) ∧ w'.cell? ⟨B + 1 + 1, 1, none⟩ = some (.int .i64 r1) ∧ w'.cell? ⟨B + 1 + 1, 2, none⟩ = some (.int .i64 r2) ∧ w'.cell? ⟨B + 1 + 1, 3, none⟩ = some (.int .i64 r3))) (by kernel_rfl) ⟨H91.out.cell 3 rfl 0 rfl, H91.out.cell 3 rfl 1 rfl, H91.out.cell 3 rfl 2 rfl, H91.out.cell 3 rfl 3 rfl, H91.out.cell 2 rfl 0 rfl, H91.out.cell 2 rfl 1 rfl, H91.out.cell 2 rfl 2 rfl, H91.out.cell 2 rfl 3 rfl, H91.out.cell 1 rfl 0 rfl, H91.out.cell 1 rfl 1 rfl, H91.out.cell 1 rfl 2 rfl, H91.out.cell 1 rfl 3 rfl⟩ (fun hHeld => ?_)
                generalize w47.drew = k92 at *
                refine tkA 0 ?_
                try simp only [Act.put, p1, p2, p3, p4, p5, p6]
                refine tkA 1 ?_
                try simp only [Act.put, p1, p2, p3, p4, p5, p6]
                refine tkA 2 ?_
                try simp only [Act.put, p1, p2, p3, p4, p5, p6]
                refine tkA 3 ?_
                try simp only [Act.put, p1, p2, p3, p4, p5, p6]
                refine tkA 4 ?_
                try simp only [Act.put, p1, p2, p3, p4, p5, p6]
                refine tkA 5 ?_
                try simp only [Act.put, p1, p2, p3, p4, p5, p6]
                refine tkA 6 ?_
                try simp only [Act.put, p1, p2, p3, p4, p5, p6]
                refine tkA 7 ?_
                try simp only [Act.put, p1, p2, p3, p4, p5, p6]
                refine tkA 8 ?_
                try simp only [Act.put, p1, p2, p3, p4, p5, p6]
                refine tkA 9 ?_
                try simp only [Act.put, p1, p2, p3, p4, p5, p6]
                refine tkA 10 ?_
                try simp only [Act.put, p1, p2, p3, p4, p5, p6]
                refine tkA 11 ?_
                try simp only [Act.put, p1, p2, p3, p4, p5, p6]
                refine tkA 12 ?_
                try simp only [Act.put, p1, p2, p3, p4, p5, p6]
                refine tkA 13 ?_
                try simp only [Act.put, p1, p2, p3, p4, p5, p6]
                refine tkA 14 ?_
                try simp only [Act.put, p1, p2, p3, p4, p5, p6]
                refine tkA 15 ?_
                try simp only [Act.put, p1, p2, p3, p4, p5, p6]
                refine tkA 16 ?_
                try simp only [Act.put, p1, p2, p3, p4, p5, p6]
                refine wpAnyH_ready (rs := [17]) (by kernel_rfl) (by simp) (AllReadyH.cons (o := _) rfl (fun K hK => ?_) AllReadyH.nil)
                go_simp
                go_at_call 86
                refine (qfull_any _ _ _ _ _).mono ?_
                rintro e w93 ⟨rfl, hb⟩
                have H94 := hid (H91.out.call hb)
                clear hb
                rw [HFU.out]
                refine hK.out _ _ ?_ (fun hHeld2 => ?_)
                focus ((try dsimp only); (exact ⟨H94.out.cell 3 rfl 0 rfl, H94.out.cell 3 rfl 1 rfl, H94.out.cell 3 rfl 2 rfl, H94.out.cell 3 rfl 3 rfl, H94.out.cell 2 rfl 0 rfl, H94.out.cell 2 rfl 1 rfl, H94.out.cell 2 rfl 2 rfl, H94.out.cell 2 rfl 3 rfl, H94.out.cell 1 rfl 0 rfl, H94.out.cell 1 rfl 1 rfl, H94.out.cell 1 rfl 2 rfl, H94.out.cell 1 rfl 3 rfl⟩))
                clear hK K
                try simp only [Act.put, p1, p2, p3, p4, p5, p6]
                clear hHeld
                have hHeld := hHeld2
                clear hHeld2
                refine tkA 18 ?_
                try simp only [Act.put, p1, p2, p3, p4, p5, p6]
                refine tkA 19 ?_
                try simp only [Act.put, p1, p2, p3, p4, p5, p6]
                refine tkA 20 ?_
                try simp only [Act.put, p1, p2, p3, p4, p5, p6]
                refine tkA 21 ?_
                try simp only [Act.put, p1, p2, p3, p4, p5, p6]
                refine tkA 22 ?_
                try simp only [Act.put, p1, p2, p3, p4, p5, p6]
                refine wpAnyH_ready (rs := [23]) (by kernel_rfl) (by simp) (AllReadyH.cons (o := _) rfl (fun K hK => ?_) AllReadyH.nil)
                go_simp
                go_at_call 88
                refine (qcover_any _ _ _ _ _ _ _).mono ?_
                rintro e w95 ⟨rfl, hb⟩
                have H96 := hid (H94.out.call hb)
                clear hb
                refine hK.out _ _ ?_ (fun hHeld2 => ?_)
                focus ((try dsimp only); (exact ⟨H96.out.cell 3 rfl 0 rfl, H96.out.cell 3 rfl 1 rfl, H96.out.cell 3 rfl 2 rfl, H96.out.cell 3 rfl 3 rfl, H96.out.cell 2 rfl 0 rfl, H96.out.cell 2 rfl 1 rfl, H96.out.cell 2 rfl 2 rfl, H96.out.cell 2 rfl 3 rfl, H96.out.cell 1 rfl 0 rfl, H96.out.cell 1 rfl 1 rfl, H96.out.cell 1 rfl 2 rfl, H96.out.cell 1 rfl 3 rfl⟩))
                clear hK K
                try simp only [Act.put, p1, p2, p3, p4, p5, p6]
                clear hHeld
                have hHeld := hHeld2
                clear hHeld2
                refine wpAnyH_ready (rs := [24]) (by kernel_rfl) (by simp) (AllReadyH.cons (o := _) rfl (fun K hK => ?_) AllReadyH.nil)
                go_simp
                go_at_call 87
                refine (qinside_any _ _ _ _ _ _ _ _ _).mono ?_
                rintro e w97 ⟨rfl, hb⟩
                have H98 := hid (H96.out.call hb)
                clear hb
                rw [HIN0.out]
                refine hK.out _ _ ?_ (fun hHeld2 => ?_)
                focus ((try dsimp only); (exact ⟨H98.out.cell 3 rfl 0 rfl, H98.out.cell 3 rfl 1 rfl, H98.out.cell 3 rfl 2 rfl, H98.out.cell 3 rfl 3 rfl, H98.out.cell 2 rfl 0 rfl, H98.out.cell 2 rfl 1 rfl, H98.out.cell 2 rfl 2 rfl, H98.out.cell 2 rfl 3 rfl, H98.out.cell 1 rfl 0 rfl, H98.out.cell 1 rfl 1 rfl, H98.out.cell 1 rfl 2 rfl, H98.out.cell 1 rfl 3 rfl⟩))
                clear hK K
                try simp only [Act.put, p1, p2, p3, p4, p5, p6]
                clear hHeld
                have hHeld := hHeld2
                clear hHeld2
                refine tkA 25 ?_
                try simp only [Act.put, p1, p2, p3, p4, p5, p6]
                refine tkA 26 ?_
                try simp only [Act.put, p1, p2, p3, p4, p5, p6]
                refine wpAnyH_done (by kernel_rfl) ?_ _
                try clear hHeld
                have HV := hid HNb31.out
                obtain ⟨p1, p2, p3, p4, p5, p6, p7⟩ := pOk_iff.1 (pValid_iff.1 HNb31.out).1
                have HV2 := hid HNb38.out
                obtain ⟨e1, e2, e3, e4⟩ : w ≤ qw ∧ qw ≤ w ∧ h ≤ qh ∧ qh ≤ h := by have := c50h.out; have := c51h.out; have := c52h.out; omega
                have HCK0 := hid (pwCk_zero (show pwCk ls true mx qmx out = 0 from by rw [HNk49.out]; have := c50h.out; have := c51h.out; have := c52h.out; omega))
                have HVT := hid (vCode_two HCK0.out.1)
                have HIN := hid (show rIs r0 r1 r2 r3 w h = true from by unfold rIs; exact HX.out)
                obtain ⟨i1, i2, i3, i4, i5, i6⟩ := (rIs_iff p1 p2 p3 p4).1 HIN.out
                obtain ⟨o1, o2⟩ := valOk_iff'.1 HCK0.out.2
                have HTC := hid (show pwTC w h mx zs qw qh qmx qs true ls out r0 r1 r2 r3 = 0 from by rw [pwTC_eq]; rw [if_neg (fun hc => hc ⟨HNb31.out, fun _ => HNb38.out⟩), if_neg (show ¬ pwCk ls true mx qmx out ≠ 0 from by rw [HNk49.out]; have := c50h.out; have := c51h.out; have := c52h.out; omega), if_neg (by rintro (hc | hc); exact hc.2 ⟨by omega, by omega⟩; exact hc HIN.out)])
                obtain ⟨wd, hwd⟩ : ∃ m : Nat, r2 - r0 = m := ⟨(r2 - r0).toNat, by omega⟩
                obtain ⟨ht, hht⟩ : ∃ m : Nat, r3 - r1 = m := ⟨(r3 - r1).toNat, by omega⟩
                have HWD := hid hwd
                have HHT := hid hht
                obtain ⟨wd1, wd2, ht1, ht2⟩ : (wd : Int) ≤ r2 - r0 ∧ r2 - r0 ≤ wd ∧ (ht : Int) ≤ r3 - r1 ∧ r3 - r1 ≤ ht := by omega
                have pq0 := Int.mul_nonneg (a := r2 - r0) (b := r3 - r1) (by omega) (by omega)
                have pq1 := Int.mul_le_mul (a := r2 - r0) (c := w) (b := r3 - r1) (d := h) (by omega) (by omega) (by omega) (by omega)
                obtain ⟨NN, hNN⟩ : ∃ N : Nat, (r2 - r0) * (r3 - r1) = N := ⟨((r2 - r0) * (r3 - r1)).toNat, by omega⟩
                rw [hNN] at pq0 pq1
                have HNN := hid (show ht * wd = NN from by have := hNN; rw [hwd, hht, ← Int.natCast_mul, Nat.mul_comm] at this; omega)
                clear hwd hht
                obtain ⟨F, hF⟩ : ∃ F : Nat → Nat → Int, (fun (k j : Nat) => pwP w zs true qs ls out (r0 + (j : Int)) (r1 + (k : Int))) = F := ⟨_, rfl⟩
                have HFV := hid (show ∀ k j : Nat, pwP w zs true qs ls out (r0 + (j : Int)) (r1 + (k : Int)) = F k j from fun k j => by rw [← hF])
                have HFF := hid hF
                clear hF
                have hNP : pOk (r2 - r0) (r3 - r1) out = true := pOk_iff.2 ⟨by omega, by omega, by omega, by omega, by rw [hNN]; omega, o1, o2⟩
                have HNP := hid hNP
                have HNI := hid (show ∀ x, nIf (r2 - r0) (r3 - r1) out x = x from fun x => by unfold nIf; rw [if_pos hNP])
                have HNL := hid (show nList (r2 - r0) (r3 - r1) out = List.replicate NN 0 from by unfold nList; rw [if_pos hNP, hNN]; rfl)
                clear hNP hNN
                have z99 := H98.out.cell 1 rfl 0 rfl
                have z100 := H98.out.cell 1 rfl 1 rfl
                have z101 := H98.out.cell 1 rfl 2 rfl
                have z102 := H98.out.cell 1 rfl 3 rfl
                go_wp2_with fail
                clear z99 z100 z101 z102
                refine (qnew_any _ _ _ _).mono ?_
                rintro e w103 ⟨v104, rfl, ho, hb⟩
                have H105 := hid (H98.out.grow hb ho)
                obtain ⟨v104a, v104c, rfl, _⟩ := ho.slc
                clear ho hb
                have hnl := HNL.out
                rw [hnl] at H105 ⊢
                simp only [List.length_replicate] at H105 ⊢
                rw [HNI.out, HNI.out, HNI.out, HNP.out]
                clear hnl
                obtain ⟨g0, g1, hg0⟩ := (H105.out.own 0 rfl).pos (by rw [List.length_replicate]; have h1 := HNN.out; have h2 := Nat.mul_le_mul (show 1 ≤ ht by omega) (show 1 ≤ wd by omega); omega)
                simp only [List.length_replicate] at hg0
                injection hg0 with f1 f2 f3
                subst f1
                clear f2 f3
                obtain ⟨D106, hD106⟩ : ∃ D, w103.heap.size = D := ⟨_, rfl⟩
                go_upto_region 9 with fail
                have H107 := hid (show St B W [.cells D106 #[.int .i64 (r2 - r0), .int .i64 (r3 - r1), .int .i64 out, .slice (some ⟨g0, 0, none⟩) NN v104c] 66, .own (.slice (some ⟨g0, 0, none⟩) NN v104c) (List.replicate NN 0), .cells (B + 1 + 1 + 1) #[.int .i64 0, .int .i64 0, .int .i64 0, .slice none 0 0] 66, .cells (B + 1 + 1) #[.int .i64 r0, .int .i64 r1, .int .i64 r2, .int .i64 r3] 24, .cells (B + 1) #[.int .i64 qw, .int .i64 qh, .int .i64 qmx, .slice qa qn qc] 66, .cells B #[.int .i64 w, .int .i64 h, .int .i64 mx, .slice a n c] 66] [] (w103.alloc (.cells #[.int .i64 (r2 - r0), .int .i64 (r3 - r1), .int .i64 out, .slice (some ⟨g0, 0, none⟩) NN v104c] 66)) from (H105.out.alloc #[.int .i64 (r2 - r0), .int .i64 (r3 - r1), .int .i64 out, .slice (some ⟨g0, 0, none⟩) NN v104c] 66 hD106))
                first | refine gen_code H107.out ?_ | refine gen_list H107.out ?_ | refine gen_calls H107.out ?_
                intro w108 hG
                clear H107
                have H107 := hid hG
                clear hG
                clear hD106
                have z109 := H107.out.cell 3 rfl 0 rfl
                have z110 := H107.out.cell 3 rfl 1 rfl
                have z111 := H107.out.cell 3 rfl 2 rfl
                have z112 := H107.out.cell 3 rfl 3 rfl
                go_wp2_with fail
                clear z109 z110 z111 z112
                go_loopw [17] (fun i wr => ∃ (y : Int) (k : Nat), k ≤ ht ∧ y ≤ r1 + k ∧ r1 + k ≤ y ∧ i = .int .i64 y ∧ St B W [.own (.slice (some ⟨g0, 0, none⟩) NN v104c) (fillL F wd k 0 NN), .cells D106 #[.int .i64 (r2 - r0), .int .i64 (r3 - r1), .int .i64 out, .slice (some ⟨g0, 0, none⟩) NN v104c] 66, .cells (B + 1 + 1 + 1) #[.int .i64 0, .int .i64 0, .int .i64 0, .slice none 0 0] 66, .cells (B + 1 + 1) #[.int .i64 r0, .int .i64 r1, .int .i64 r2, .int .i64 r3] 24, .cells (B + 1) #[.int .i64 qw, .int .i64 qh, .int .i64 qmx, .slice qa qn qc] 66, .cells B #[.int .i64 w, .int .i64 h, .int .i64 mx, .slice a n c] 66] [] wr) (fun i _ => (r3 - intOf i).toNat)
                case atStart => exact ⟨r1, 0, by omega, by omega, by omega, rfl, by rw [fillL_zero]; exact H107.out.pick [1, 0, 2, 3, 4, 5] rfl (by decide)⟩
                case round =>
                  obtain ⟨y, k, hk, hy1, hy2, rfl, hst⟩ := hrel
                  obtain ⟨u113, rfl⟩ : ∃ u113 : World, u113 = wr := ⟨_, rfl⟩
                  have H114 := hid hst
                  clear hst
                  by_cases hkn : k < ht
                  · skip
                    have hkn' : (y : Int) < r3 := by omega
                    obtain ⟨PW, hPW⟩ : ∃ P, y * w = P := ⟨_, rfl⟩
                    have pw0 := Int.mul_nonneg (a := y) (b := w) (by omega) (by omega)
                    have pw1 := Int.mul_le_mul (a := y + 1) (c := h) (b := w) (d := w) (by omega) (by omega) (by omega) (by omega)
                    rw [Int.add_mul, Int.one_mul, hPW, Int.mul_comm h w] at pw1
                    rw [hPW] at pw0
                    have HPW := hid hPW
                    have hPQ : y * qw = PW := by rw [show qw = w by omega]; exact hPW
                    have z115 := H114.out.cell 3 rfl 0 rfl
                    have z116 := H114.out.cell 3 rfl 1 rfl
                    have z117 := H114.out.cell 3 rfl 2 rfl
                    have z118 := H114.out.cell 3 rfl 3 rfl
                    go_wp2_with fail
                    clear z115 z116 z117 z118
                    go_loopw [18] (fun i wr => ∃ (x : Int) (j : Nat), j ≤ wd ∧ x ≤ r0 + j ∧ r0 + j ≤ x ∧ i = .int .i64 x ∧ St B W [.own (.slice (some ⟨g0, 0, none⟩) NN v104c) (fillL F wd k j NN), .cells D106 #[.int .i64 (r2 - r0), .int .i64 (r3 - r1), .int .i64 out, .slice (some ⟨g0, 0, none⟩) NN v104c] 66, .cells (B + 1 + 1 + 1) #[.int .i64 0, .int .i64 0, .int .i64 0, .slice none 0 0] 66, .cells (B + 1 + 1) #[.int .i64 r0, .int .i64 r1, .int .i64 r2, .int .i64 r3] 24, .cells (B + 1) #[.int .i64 qw, .int .i64 qh, .int .i64 qmx, .slice qa qn qc] 66, .cells B #[.int .i64 w, .int .i64 h, .int .i64 mx, .slice a n c] 66] [] wr) (fun i _ => (r2 - intOf i).toNat)
                    case atStart => exact ⟨r0, 0, by omega, by omega, by omega, rfl, H114.out⟩
                    case round =>
                      obtain ⟨x, j, hj, hx1, hx2, rfl, hst⟩ := hrel
                      obtain ⟨u119, rfl⟩ : ∃ u119 : World, u119 = wr := ⟨_, rfl⟩
                      have H120 := hid hst
                      clear hst
                      by_cases hjn : j < wd
                      · skip
                        have hjn' : (x : Int) < r2 := by omega
                        have hwh := (pValid_iff.1 HV.out).2.1
                        rw [HLZ.out] at hwh
                        have hlt : PW + x < n := by omega
                        clear hwh
                        obtain ⟨pbk, po, hpa⟩ := row_at (H120.out.old HS.out).row (by omega)
                        have cz := row_cell (by rw [← hpa]; exact (H120.out.old HS.out).row) (j := (PW + x).toNat) (by omega)
                        obtain ⟨pz, hpz⟩ : ∃ z, zs.getD (PW + x).toNat 0 = z := ⟨_, rfl⟩
                        have HPO := hid (show pixOk pz = true from by rw [← hpz]; exact pix_ok HV.out (by rw [HLZ.out]; omega))
                        rw [hpz] at cz
                        have HPZ := hid hpz
                        clear hpz
                        subst hpa
                        have hwq := (pValid_iff.1 HV2.out).2.1
                        rw [HLQ.out, show qw = w by omega, show qh = h by omega] at hwq
                        have hlq : PW + x < qn := by have hwh := (pValid_iff.1 HV.out).2.1; rw [HLZ.out] at hwh; omega
                        clear hwq
                        obtain ⟨qbk, qo, hqa⟩ := row_at (H120.out.old HQ.out).row (by omega)
                        have cq := row_cell (by rw [← hqa]; exact (H120.out.old HQ.out).row) (j := (PW + x).toNat) (by omega)
                        obtain ⟨qz, hqz⟩ : ∃ z, qs.getD (PW + x).toNat 0 = z := ⟨_, rfl⟩
                        have HQO := hid (show pixOk qz = true from by rw [← hqz]; exact pix_ok HV2.out (by rw [HLQ.out]; omega))
                        rw [hqz] at cq
                        have HQZ := hid hqz
                        clear hqz
                        subst hqa
                        have HFX := hid (show clV (eGo ls [] pz qz).1 out = F k j from by rw [← HFV.out]; unfold pwP; rw [show (r1 + (k : Int)) * w + (r0 + (j : Int)) = PW + x from by rw [show r1 + (k : Int) = y by omega, HPW.out]; omega]; show _ = clV (eGo ls [] (zs.getD (PW + x).toNat 0) (qs.getD (PW + x).toNat 0)).1 out; rw [HPZ.out, HQZ.out])
                        have z121 := H120.out.cell 3 rfl 0 rfl
                        have z122 := H120.out.cell 3 rfl 1 rfl
                        have z123 := H120.out.cell 3 rfl 2 rfl
                        have z124 := H120.out.cell 3 rfl 3 rfl
                        have z125 := H120.out.cell 4 rfl 0 rfl
                        have z126 := H120.out.cell 4 rfl 1 rfl
                        have z127 := H120.out.cell 4 rfl 2 rfl
                        have z128 := H120.out.cell 4 rfl 3 rfl
                        have z129 := H120.out.cell 5 rfl 0 rfl
                        have z130 := H120.out.cell 5 rfl 1 rfl
                        have z131 := H120.out.cell 5 rfl 2 rfl
                        have z132 := H120.out.cell 5 rfl 3 rfl
                        go_wp2_with fail
                        clear z121 z122 z123 z124 z125 z126 z127 z128 z129 z130 z131 z132
                        refine (reval_any _ _ _ ls _ _ _ (H120.out.oldPrs HO.out)).mono ?_
                        rintro e w133 ⟨rfl, hb⟩
                        have H134 := hid (H120.out.call hb)
                        clear hb
                        rw [evR_go HVT.out HPO.out HQO.out]
                        obtain ⟨n135, hn135⟩ : ∃ xx', (eGo ls [] pz qz).1 = xx' := ⟨_, rfl⟩
                        rw [hn135]
                        have HNn135 := hid hn135
                        clear hn135
                        obtain ⟨n136, hn136⟩ : ∃ xx', (eGo ls [] pz qz).2 = xx' := ⟨_, rfl⟩
                        rw [hn136]
                        have HNn136 := hid hn136
                        clear hn136
                        go_upto_region 19 with fail
                        obtain ⟨fv, hfv⟩ : ∃ z, F k j = z := ⟨_, rfl⟩
                        rw [hfv] at HFX
                        obtain ⟨KN, hKN⟩ : ∃ K : Nat, k * wd = K := ⟨_, rfl⟩
                        have kn1 : KN + wd ≤ NN := by
                          have e1 := Nat.mul_le_mul_right wd (show k + 1 ≤ ht by omega)
                          rw [HNN.out, Nat.add_mul, Nat.one_mul, hKN] at e1
                          exact e1
                        obtain ⟨JX, hJX⟩ : ∃ K : Nat, KN + j = K := ⟨_, rfl⟩
                        have HNX := hid (show (fillL F wd k j NN).set JX fv = fillL F wd k (j + 1) NN from by rw [← hfv, ← hJX, ← hKN]; exact fillL_next (by omega))
                        have hyk : y - r1 = (k : Int) := by omega
                        have hkm : (k : Int) * (r2 - r0) = (KN : Int) := by rw [HWD.out, ← hKN]; simp
                        have hxj : (KN : Int) + x - r0 = (JX : Int) := by omega
                        have jx1 : JX < NN := by omega
                        have HFL := hid (show (fillL F wd k j NN).length = NN from fillL_len (by omega))
                        have wk1 : IntKind.i64.wrap (k : Int) = k := IntWalk.i64_in _ (by omega)
                        have wk2 : IntKind.i64.wrap (KN : Int) = KN := IntWalk.i64_in _ (by omega)
                        have wk3 : IntKind.i64.wrap ((KN : Int) + x) = (KN : Int) + x := IntWalk.i64_in _ (by omega)
                        have wk4 : IntKind.i64.wrap (JX : Int) = JX := IntWalk.i64_in _ (by omega)
                        have jx2 : (JX : Int) < NN := by omega
                        clear hfv hKN hJX
                        have H137 := hid H134.out.drew
                        refine wp_region_held_drew (S := (fun w' => w'.cell? ⟨D106, 0, none⟩ = some (.int .i64 (r2 - r0)) ∧ w'.cell? ⟨D106, 1, none⟩ = some (.int .i64 (r3 - r1)) ∧ w'.cell? ⟨D106, 2, none⟩ = some (.int .i64 out) ∧ w'.cell? ⟨D106, 3, none⟩ = some (.slice (some ⟨g0, 0, none⟩) NN v104c) ∧ w'.cell? ⟨B + 1 + 1, 0, none⟩ = some (.int .i64 r0) ∧ w'.cell? ⟨B + 1 + 1, 1, none⟩ = some (.int .i64 r1) ∧ w'.cell? ⟨B + 1 + 1, 2, none⟩ = some (.int .i64 r2) ∧ w'.cell? ⟨B + 1 + 1, 3, none⟩ = some (.int .i64 r3))) (by kernel_rfl) ⟨H137.out.cell 1 rfl 0 rfl, H137.out.cell 1 rfl 1 rfl, H137.out.cell 1 rfl 2 rfl, H137.out.cell 1 rfl 3 rfl, H137.out.cell 3 rfl 0 rfl, H137.out.cell 3 rfl 1 rfl, H137.out.cell 3 rfl 2 rfl, H137.out.cell 3 rfl 3 rfl⟩ (fun hHeld => ?_)
                        generalize w133.drew = k138 at *
                        refine tkA 0 ?_
                        try simp only [Act.put, p1, p2, p3, p4, p5, p6]
                        refine tkA 1 ?_
                        try simp only [Act.put, p1, p2, p3, p4, p5, p6]
                        refine tkA 2 ?_
                        try simp only [Act.put, p1, p2, p3, p4, p5, p6]
                        refine tkA 3 ?_
                        try simp only [Act.put, p1, p2, p3, p4, p5, p6]
                        refine tkA 4 ?_
                        try simp only [Act.put, p1, p2, p3, p4, p5, p6]
                        refine tkA 5 ?_
                        try simp only [Act.put, p1, p2, p3, p4, p5, p6]
                        refine tkA 6 ?_
                        try simp only [Act.put, p1, p2, p3, p4, p5, p6]
                        refine tkA 7 ?_
                        try simp only [Act.put, p1, p2, p3, p4, p5, p6]
                        refine tkA 8 ?_
                        try simp only [Act.put, p1, p2, p3, p4, p5, p6]
                        refine tkA 9 ?_
                        try simp only [Act.put, p1, p2, p3, p4, p5, p6]
                        refine tkA 10 ?_
                        try simp only [Act.put, p1, p2, p3, p4, p5, p6]
                        refine tkA 11 ?_
                        try simp only [Act.put, p1, p2, p3, p4, p5, p6]
                        refine tkA 12 ?_
                        try simp only [Act.put, p1, p2, p3, p4, p5, p6]
                        refine tkA 13 ?_
                        try simp only [Act.put, p1, p2, p3, p4, p5, p6]
                        refine tkA 14 ?_
                        try simp only [Act.put, p1, p2, p3, p4, p5, p6]
                        refine tkA 15 ?_
                        try simp only [Act.put, p1, p2, p3, p4, p5, p6]
                        refine wpAnyH_ready (rs := [16]) (by kernel_rfl) (by simp) (AllReadyH.cons (o := _) rfl (fun K hK => ?_) AllReadyH.nil)
                        go_simp
                        go_at_call 90
                        refine (rclamp_any _ _ _).mono ?_
                        rintro e w139 ⟨rfl, hsw⟩
                        have hsw2 : k138 = w139 := by first | exact hsw | exact hsw.symm
                        clear hsw
                        subst hsw2
                        rw [show clV n135 out = fv from by rw [← HNn135.out]; exact HFX.out]
                        refine hK.out _ _ ?_ (fun hHeld2 => ?_)
                        focus ((try dsimp only); (exact ⟨H137.out.cell 1 rfl 0 rfl, H137.out.cell 1 rfl 1 rfl, H137.out.cell 1 rfl 2 rfl, H137.out.cell 1 rfl 3 rfl, H137.out.cell 3 rfl 0 rfl, H137.out.cell 3 rfl 1 rfl, H137.out.cell 3 rfl 2 rfl, H137.out.cell 3 rfl 3 rfl⟩))
                        clear hK K
                        try simp only [Act.put, p1, p2, p3, p4, p5, p6]
                        clear hHeld
                        have hHeld := hHeld2
                        clear hHeld2
                        refine tkA 17 ?_
                        try simp only [Act.put, p1, p2, p3, p4, p5, p6]
                        refine wpAnyH_ready (rs := [18]) (by kernel_rfl) (by simp) (AllReadyH.cons (o := _) rfl (fun K hK => ?_) AllReadyH.nil)
                        obtain ⟨s140, s141⟩ := H137.out.get 0 rfl (j := JX) (by rw [HFL.out]; exact jx1)
                        have H142 := hid (show St B W [.own (.slice (some ⟨g0, 0, none⟩) NN v104c) ((fillL F wd k j NN).set JX fv), .cells D106 #[.int .i64 (r2 - r0), .int .i64 (r3 - r1), .int .i64 out, .slice (some ⟨g0, 0, none⟩) NN v104c] 66, .cells (B + 1 + 1 + 1) #[.int .i64 0, .int .i64 0, .int .i64 0, .slice none 0 0] 66, .cells (B + 1 + 1) #[.int .i64 r0, .int .i64 r1, .int .i64 r2, .int .i64 r3] 24, .cells (B + 1) #[.int .i64 qw, .int .i64 qh, .int .i64 qmx, .slice (some ⟨qbk, qo, none⟩) qn qc] 66, .cells B #[.int .i64 w, .int .i64 h, .int .i64 mx, .slice (some ⟨pbk, po, none⟩) n c] 66] [] (k138.setCell ⟨g0, JX, none⟩ (.int .i64 fv)) from (H137.out.store 0 rfl JX fv))
                        go_simp
                        refine hK.out _ _ ?_ (fun hHeld2 => ?_)
                        focus ((try dsimp only); (exact ⟨H142.out.cell 1 rfl 0 rfl, H142.out.cell 1 rfl 1 rfl, H142.out.cell 1 rfl 2 rfl, H142.out.cell 1 rfl 3 rfl, H142.out.cell 3 rfl 0 rfl, H142.out.cell 3 rfl 1 rfl, H142.out.cell 3 rfl 2 rfl, H142.out.cell 3 rfl 3 rfl⟩))
                        clear hK K hHeld
                        try simp only [Act.put, p1, p2, p3, p4, p5, p6]
                        clear s140 s141
                        generalize (k138.setCell ⟨g0, JX, none⟩ (.int .i64 fv)) = k143 at *
                        have hHeld := hHeld2
                        clear hHeld2
                        refine wpAnyH_done (by kernel_rfl) ?_ _
                        try clear hHeld
                        clear hyk hkm hxj wk1 wk2 wk3 wk4
                        go_wp2_with fail
                        go_roundw
                        case rel => exact ⟨x + 1, j + 1, by omega, by omega, by omega, by go_num, by rw [← HNX.out]; exact H142.out⟩
                        case measure => first | (simp [intOf]; omega) | (simp [intOf]; done)
                      · skip
                        have hjn' : ¬ ((x : Int) < r2) := by omega
                        have Hhjn := hid (show j = wd by omega)
                        have z144 := H120.out.cell 3 rfl 0 rfl
                        have z145 := H120.out.cell 3 rfl 1 rfl
                        have z146 := H120.out.cell 3 rfl 2 rfl
                        have z147 := H120.out.cell 3 rfl 3 rfl
                        go_wp2_with fail
                        clear z144 z145 z146 z147
                        go_roundw
                        case rel => exact ⟨y + 1, k + 1, by omega, by omega, by omega, by go_num, by rw [show fillL F wd (k + 1) 0 NN = fillL F wd k j NN by rw [← fillL_row, Hhjn.out]]; exact H120.out⟩
                        case measure => first | (simp [intOf]; omega) | (simp [intOf]; done)
                  · skip
                    have hkn' : ¬ ((y : Int) < r3) := by omega
                    have Hhkn := hid (show k = ht by omega)
                    have HKE := hid (show k = ht by omega)
                    have z148 := H114.out.cell 3 rfl 0 rfl
                    have z149 := H114.out.cell 3 rfl 1 rfl
                    have z150 := H114.out.cell 3 rfl 2 rfl
                    have z151 := H114.out.cell 3 rfl 3 rfl
                    have z152 := H114.out.cell 1 rfl 0 rfl
                    have z153 := H114.out.cell 1 rfl 1 rfl
                    have z154 := H114.out.cell 1 rfl 2 rfl
                    have z155 := H114.out.cell 1 rfl 3 rfl
                    have z156 := H114.out.cell 2 rfl 0 rfl
                    have z157 := H114.out.free 2 rfl 0
                    have z158 := H114.out.cell 2 rfl 1 rfl
                    have z159 := H114.out.free 2 rfl 1
                    have z160 := H114.out.cell 2 rfl 2 rfl
                    have z161 := H114.out.free 2 rfl 2
                    have z162 := H114.out.cell 2 rfl 3 rfl
                    have z163 := H114.out.free 2 rfl 3
                    go_wp2_with fail
                    clear z148 z149 z150 z151 z152 z153 z154 z155 z156 z157 z158 z159 z160 z161 z162 z163
                    have H164 := hid (show St B W [.own (.slice (some ⟨g0, 0, none⟩) NN v104c) (fillL F wd k 0 NN), .cells D106 #[.int .i64 (r2 - r0), .int .i64 (r3 - r1), .int .i64 out, .slice (some ⟨g0, 0, none⟩) NN v104c] 66, .cells (B + 1 + 1 + 1) #[.int .i64 (r2 - r0), .int .i64 (r3 - r1), .int .i64 out, .slice (some ⟨g0, 0, none⟩) NN v104c] 66, .cells (B + 1 + 1) #[.int .i64 r0, .int .i64 r1, .int .i64 r2, .int .i64 r3] 24, .cells (B + 1) #[.int .i64 qw, .int .i64 qh, .int .i64 qmx, .slice qa qn qc] 66, .cells B #[.int .i64 w, .int .i64 h, .int .i64 mx, .slice a n c] 66] [] ((((u113.setCell ⟨B + 1 + 1 + 1, 0, none⟩ (.int .i64 (r2 - r0))).setCell ⟨B + 1 + 1 + 1, 1, none⟩ (.int .i64 (r3 - r1))).setCell ⟨B + 1 + 1 + 1, 2, none⟩ (.int .i64 out)).setCell ⟨B + 1 + 1 + 1, 3, none⟩ (.slice (some ⟨g0, 0, none⟩) NN v104c)) from (H114.out.set4 2 rfl (.int .i64 (r2 - r0)) (.int .i64 (r3 - r1)) (.int .i64 out) (.slice (some ⟨g0, 0, none⟩) NN v104c)))
                    have HFLL := hid (show fillL F wd k 0 NN = gridL F wd k 0 from by rw [← HNN.out, ← HKE.out]; exact fillL_all F wd k)
                    have HRES := hid (show pwL w zs true qs ls out r0 r1 r2 r3 = fillL F wd k 0 NN from by rw [HFLL.out]; unfold pwL rG; rw [HFF.out, HWD.out, HHT.out, Int.toNat_natCast, Int.toNat_natCast, ← HKE.out])
                    have q165 := H164.out.cell 2 rfl 0 rfl
                    have q166 := H164.out.cell 2 rfl 1 rfl
                    have q167 := H164.out.cell 2 rfl 2 rfl
                    have q168 := H164.out.cell 2 rfl 3 rfl
                    refine bodyPost_ret (v := .tuple #[.agg #[.int .i64 (r2 - r0), .int .i64 (r3 - r1), .int .i64 out, .slice (some ⟨g0, 0, none⟩) NN v104c], .int .i64 0]) ?_ rfl (TPost.yes HTC.out (by rw [hB, HRES.out]; exact H164.out.own 0 rfl) (by first | exact H164.out.below | exact H164.out.below'))
                    simp [results, Try.results47, go_sem, q165, q166, q167, q168]
          · have c52a : ((h : Int) == (qh)) = false := by simpa using c52
            have c52b : ((h : Int) != (qh)) = true := by simpa using c52
            have c52h := hid c52
            clear c52
            go_upto_region 6 with fail
            have H169 := hid H48.out.drew
            refine wp_region_held_drew (S := (fun w' => w'.cell? ⟨B, 0, none⟩ = some (.int .i64 w) ∧ w'.cell? ⟨B, 1, none⟩ = some (.int .i64 h) ∧ w'.cell? ⟨B, 2, none⟩ = some (.int .i64 mx) ∧ w'.cell? ⟨B, 3, none⟩ = some (.slice a n c) ∧ w'.cell? ⟨B + 1, 0, none⟩ = some (.int .i64 qw) ∧ w'.cell? ⟨B + 1, 1, none⟩ = some (.int .i64 qh) ∧ w'.cell? ⟨B + 1, 2, none⟩ = some (.int .i64 qmx) ∧ w'.cell? ⟨B + 1, 3, none⟩ = some (.slice qa qn qc) ∧ w'.cell? ⟨B + 1 + 1, 0, none⟩ = some (.int .i64 r0) ∧ w'.cell? ⟨B + 1 + 1, 1, none⟩ = some (.int .i64 r1) ∧ w'.cell? ⟨B + 1 + 1, 2, none⟩ = some (.int .i64 r2) ∧ w'.cell? ⟨B + 1 + 1, 3, none⟩ = some (.int .i64 r3))) (by kernel_rfl) ⟨H169.out.cell 3 rfl 0 rfl, H169.out.cell 3 rfl 1 rfl, H169.out.cell 3 rfl 2 rfl, H169.out.cell 3 rfl 3 rfl, H169.out.cell 2 rfl 0 rfl, H169.out.cell 2 rfl 1 rfl, H169.out.cell 2 rfl 2 rfl, H169.out.cell 2 rfl 3 rfl, H169.out.cell 1 rfl 0 rfl, H169.out.cell 1 rfl 1 rfl, H169.out.cell 1 rfl 2 rfl, H169.out.cell 1 rfl 3 rfl⟩ (fun hHeld => ?_)
            generalize w47.drew = k170 at *
            refine tkA 0 ?_
            try simp only [Act.put, p1, p2, p3, p4, p5, p6]
            refine tkA 1 ?_
            try simp only [Act.put, p1, p2, p3, p4, p5, p6]
            refine tkA 2 ?_
            try simp only [Act.put, p1, p2, p3, p4, p5, p6]
            refine tkA 3 ?_
            try simp only [Act.put, p1, p2, p3, p4, p5, p6]
            refine tkA 4 ?_
            try simp only [Act.put, p1, p2, p3, p4, p5, p6]
            refine tkA 5 ?_
            try simp only [Act.put, p1, p2, p3, p4, p5, p6]
            refine tkA 6 ?_
            try simp only [Act.put, p1, p2, p3, p4, p5, p6]
            refine tkA 7 ?_
            try simp only [Act.put, p1, p2, p3, p4, p5, p6]
            refine tkA 8 ?_
            try simp only [Act.put, p1, p2, p3, p4, p5, p6]
            refine tkA 9 ?_
            try simp only [Act.put, p1, p2, p3, p4, p5, p6]
            refine tkA 10 ?_
            try simp only [Act.put, p1, p2, p3, p4, p5, p6]
            refine tkA 11 ?_
            try simp only [Act.put, p1, p2, p3, p4, p5, p6]
            refine tkA 12 ?_
            try simp only [Act.put, p1, p2, p3, p4, p5, p6]
            refine tkA 13 ?_
            try simp only [Act.put, p1, p2, p3, p4, p5, p6]
            refine tkA 14 ?_
            try simp only [Act.put, p1, p2, p3, p4, p5, p6]
            refine tkA 15 ?_
            try simp only [Act.put, p1, p2, p3, p4, p5, p6]
            refine tkU 16 ?_
            try simp only [Act.put, p1, p2, p3, p4, p5, p6]
            refine tkU 17 ?_
            try simp only [Act.put, p1, p2, p3, p4, p5, p6]
            refine tkU 18 ?_
            try simp only [Act.put, p1, p2, p3, p4, p5, p6]
            refine tkA 19 ?_
            try simp only [Act.put, p1, p2, p3, p4, p5, p6]
            refine tkA 20 ?_
            try simp only [Act.put, p1, p2, p3, p4, p5, p6]
            refine tkU 21 ?_
            try simp only [Act.put, p1, p2, p3, p4, p5, p6]
            refine tkU 22 ?_
            try simp only [Act.put, p1, p2, p3, p4, p5, p6]
            refine tkU 23 ?_
            try simp only [Act.put, p1, p2, p3, p4, p5, p6]
            refine tkU 24 ?_
            try simp only [Act.put, p1, p2, p3, p4, p5, p6]
            refine tkU 25 ?_
            try simp only [Act.put, p1, p2, p3, p4, p5, p6]
            refine tkA 26 ?_
            try simp only [Act.put, p1, p2, p3, p4, p5, p6]
            refine wpAnyH_done (by kernel_rfl) ?_ _
            try clear hHeld
            have z171 := H169.out.cell 0 rfl 0 rfl
            have z172 := H169.out.free 0 rfl 0
            have z173 := H169.out.cell 0 rfl 1 rfl
            have z174 := H169.out.free 0 rfl 1
            have z175 := H169.out.cell 0 rfl 2 rfl
            have z176 := H169.out.free 0 rfl 2
            have z177 := H169.out.cell 0 rfl 3 rfl
            have z178 := H169.out.free 0 rfl 3
            go_wp2_with fail
            clear z171 z172 z173 z174 z175 z176 z177 z178
            have H179 := hid (show St B W [.cells (B + 1 + 1 + 1) #[.int .i64 0, .int .i64 0, .int .i64 0, .slice none 0 0] 66, .cells (B + 1 + 1) #[.int .i64 r0, .int .i64 r1, .int .i64 r2, .int .i64 r3] 24, .cells (B + 1) #[.int .i64 qw, .int .i64 qh, .int .i64 qmx, .slice qa qn qc] 66, .cells B #[.int .i64 w, .int .i64 h, .int .i64 mx, .slice a n c] 66] [] ((((k170.setCell ⟨B + 1 + 1 + 1, 0, none⟩ (.int .i64 0)).setCell ⟨B + 1 + 1 + 1, 1, none⟩ (.int .i64 0)).setCell ⟨B + 1 + 1 + 1, 2, none⟩ (.int .i64 0)).setCell ⟨B + 1 + 1 + 1, 3, none⟩ (.slice none 0 0)) from (H169.out.set4 0 rfl (.int .i64 0) (.int .i64 0) (.int .i64 0) (.slice none 0 0)))
            have q180 := H179.out.cell 0 rfl 0 rfl
            have q181 := H179.out.cell 0 rfl 1 rfl
            have q182 := H179.out.cell 0 rfl 2 rfl
            have q183 := H179.out.cell 0 rfl 3 rfl
            refine bodyPost_ret (v := .tuple #[.agg #[.int .i64 0, .int .i64 0, .int .i64 0, .slice none 0 0], .int .i64 8]) ?_ rfl (TPost.no (by rw [pwTC_eq]; rw [if_neg (fun hc => hc ⟨HNb31.out, fun _ => HNb38.out⟩), if_neg (show ¬ pwCk ls true mx qmx out ≠ 0 from by rw [HNk49.out]; have := c50h.out; have := c51h.out; have := c52h.out; omega), if_pos (by first | exact Or.inl ⟨rfl, by have := c50h.out; have := c51h.out; have := c52h.out; omega⟩ | exact Or.inr (by unfold rIs; rw [HX.out]; simp))]) (by have := c50h.out; have := c51h.out; have := c52h.out; omega) (by first | exact H179.out.below | exact H179.out.below'))
            simp [results, Try.results47, go_sem, q180, q181, q182, q183]
        · have c51a : ((w : Int) == (qw)) = false := by simpa using c51
          have c51b : ((w : Int) != (qw)) = true := by simpa using c51
          have c51h := hid c51
          clear c51
          go_upto_region 6 with fail
          have H184 := hid H48.out.drew
          refine wp_region_held_drew (S := (fun w' => w'.cell? ⟨B, 0, none⟩ = some (.int .i64 w) ∧ w'.cell? ⟨B, 1, none⟩ = some (.int .i64 h) ∧ w'.cell? ⟨B, 2, none⟩ = some (.int .i64 mx) ∧ w'.cell? ⟨B, 3, none⟩ = some (.slice a n c) ∧ w'.cell? ⟨B + 1, 0, none⟩ = some (.int .i64 qw) ∧ w'.cell? ⟨B + 1, 1, none⟩ = some (.int .i64 qh) ∧ w'.cell? ⟨B + 1, 2, none⟩ = some (.int .i64 qmx) ∧ w'.cell? ⟨B + 1, 3, none⟩ = some (.slice qa qn qc) ∧ w'.cell? ⟨B + 1 + 1, 0, none⟩ = some (.int .i64 r0) ∧ w'.cell? ⟨B + 1 + 1, 1, none⟩ = some (.int .i64 r1) ∧ w'.cell? ⟨B + 1 + 1, 2, none⟩ = some (.int .i64 r2) ∧ w'.cell? ⟨B + 1 + 1, 3, none⟩ = some (.int .i64 r3))) (by kernel_rfl) ⟨H184.out.cell 3 rfl 0 rfl, H184.out.cell 3 rfl 1 rfl, H184.out.cell 3 rfl 2 rfl, H184.out.cell 3 rfl 3 rfl, H184.out.cell 2 rfl 0 rfl, H184.out.cell 2 rfl 1 rfl, H184.out.cell 2 rfl 2 rfl, H184.out.cell 2 rfl 3 rfl, H184.out.cell 1 rfl 0 rfl, H184.out.cell 1 rfl 1 rfl, H184.out.cell 1 rfl 2 rfl, H184.out.cell 1 rfl 3 rfl⟩ (fun hHeld => ?_)
          generalize w47.drew = k185 at *
          refine tkA 0 ?_
          try simp only [Act.put, p1, p2, p3, p4, p5, p6]
          refine tkA 1 ?_
          try simp only [Act.put, p1, p2, p3, p4, p5, p6]
          refine tkA 2 ?_
          try simp only [Act.put, p1, p2, p3, p4, p5, p6]
          refine tkA 3 ?_
          try simp only [Act.put, p1, p2, p3, p4, p5, p6]
          refine tkA 4 ?_
          try simp only [Act.put, p1, p2, p3, p4, p5, p6]
          refine tkA 5 ?_
          try simp only [Act.put, p1, p2, p3, p4, p5, p6]
          refine tkA 6 ?_
          try simp only [Act.put, p1, p2, p3, p4, p5, p6]
          refine tkA 7 ?_
          try simp only [Act.put, p1, p2, p3, p4, p5, p6]
          refine tkU 8 ?_
          try simp only [Act.put, p1, p2, p3, p4, p5, p6]
          refine tkU 9 ?_
          try simp only [Act.put, p1, p2, p3, p4, p5, p6]
          refine tkU 10 ?_
          try simp only [Act.put, p1, p2, p3, p4, p5, p6]
          refine tkU 11 ?_
          try simp only [Act.put, p1, p2, p3, p4, p5, p6]
          refine tkU 12 ?_
          try simp only [Act.put, p1, p2, p3, p4, p5, p6]
          refine tkA 13 ?_
          try simp only [Act.put, p1, p2, p3, p4, p5, p6]
          refine tkA 14 ?_
          try simp only [Act.put, p1, p2, p3, p4, p5, p6]
          refine tkA 15 ?_
          try simp only [Act.put, p1, p2, p3, p4, p5, p6]
          refine tkU 16 ?_
          try simp only [Act.put, p1, p2, p3, p4, p5, p6]
          refine tkU 17 ?_
          try simp only [Act.put, p1, p2, p3, p4, p5, p6]
          refine tkU 18 ?_
          try simp only [Act.put, p1, p2, p3, p4, p5, p6]
          refine tkA 19 ?_
          try simp only [Act.put, p1, p2, p3, p4, p5, p6]
          refine tkA 20 ?_
          try simp only [Act.put, p1, p2, p3, p4, p5, p6]
          refine tkU 21 ?_
          try simp only [Act.put, p1, p2, p3, p4, p5, p6]
          refine tkU 22 ?_
          try simp only [Act.put, p1, p2, p3, p4, p5, p6]
          refine tkU 23 ?_
          try simp only [Act.put, p1, p2, p3, p4, p5, p6]
          refine tkU 24 ?_
          try simp only [Act.put, p1, p2, p3, p4, p5, p6]
          refine tkU 25 ?_
          try simp only [Act.put, p1, p2, p3, p4, p5, p6]
          refine tkA 26 ?_
          try simp only [Act.put, p1, p2, p3, p4, p5, p6]
          refine wpAnyH_done (by kernel_rfl) ?_ _
          try clear hHeld
          have z186 := H184.out.cell 0 rfl 0 rfl
          have z187 := H184.out.free 0 rfl 0
          have z188 := H184.out.cell 0 rfl 1 rfl
          have z189 := H184.out.free 0 rfl 1
          have z190 := H184.out.cell 0 rfl 2 rfl
          have z191 := H184.out.free 0 rfl 2
          have z192 := H184.out.cell 0 rfl 3 rfl
          have z193 := H184.out.free 0 rfl 3
          go_wp2_with fail
          clear z186 z187 z188 z189 z190 z191 z192 z193
          have H194 := hid (show St B W [.cells (B + 1 + 1 + 1) #[.int .i64 0, .int .i64 0, .int .i64 0, .slice none 0 0] 66, .cells (B + 1 + 1) #[.int .i64 r0, .int .i64 r1, .int .i64 r2, .int .i64 r3] 24, .cells (B + 1) #[.int .i64 qw, .int .i64 qh, .int .i64 qmx, .slice qa qn qc] 66, .cells B #[.int .i64 w, .int .i64 h, .int .i64 mx, .slice a n c] 66] [] ((((k185.setCell ⟨B + 1 + 1 + 1, 0, none⟩ (.int .i64 0)).setCell ⟨B + 1 + 1 + 1, 1, none⟩ (.int .i64 0)).setCell ⟨B + 1 + 1 + 1, 2, none⟩ (.int .i64 0)).setCell ⟨B + 1 + 1 + 1, 3, none⟩ (.slice none 0 0)) from (H184.out.set4 0 rfl (.int .i64 0) (.int .i64 0) (.int .i64 0) (.slice none 0 0)))
          have q195 := H194.out.cell 0 rfl 0 rfl
          have q196 := H194.out.cell 0 rfl 1 rfl
          have q197 := H194.out.cell 0 rfl 2 rfl
          have q198 := H194.out.cell 0 rfl 3 rfl
          refine bodyPost_ret (v := .tuple #[.agg #[.int .i64 0, .int .i64 0, .int .i64 0, .slice none 0 0], .int .i64 8]) ?_ rfl (TPost.no (by rw [pwTC_eq]; rw [if_neg (fun hc => hc ⟨HNb31.out, fun _ => HNb38.out⟩), if_neg (show ¬ pwCk ls true mx qmx out ≠ 0 from by rw [HNk49.out]; have := c50h.out; have := c51h.out; omega), if_pos (by first | exact Or.inl ⟨rfl, by have := c50h.out; have := c51h.out; omega⟩ | exact Or.inr (by unfold rIs; rw [HX.out]; simp))]) (by have := c50h.out; have := c51h.out; omega) (by first | exact H194.out.below | exact H194.out.below'))
          simp [results, Try.results47, go_sem, q195, q196, q197, q198]
      · have c50a : ((k49 : Int) == (0)) = false := by simpa using c50
        have c50b : ((k49 : Int) != (0)) = true := by simpa using c50
        have c50h := hid c50
        clear c50
        have z199 := H48.out.cell 0 rfl 0 rfl
        have z200 := H48.out.free 0 rfl 0
        have z201 := H48.out.cell 0 rfl 1 rfl
        have z202 := H48.out.free 0 rfl 1
        have z203 := H48.out.cell 0 rfl 2 rfl
        have z204 := H48.out.free 0 rfl 2
        have z205 := H48.out.cell 0 rfl 3 rfl
        have z206 := H48.out.free 0 rfl 3
        go_wp2_with fail
        clear z199 z200 z201 z202 z203 z204 z205 z206
        have H207 := hid (show St B W [.cells (B + 1 + 1 + 1) #[.int .i64 0, .int .i64 0, .int .i64 0, .slice none 0 0] 66, .cells (B + 1 + 1) #[.int .i64 r0, .int .i64 r1, .int .i64 r2, .int .i64 r3] 24, .cells (B + 1) #[.int .i64 qw, .int .i64 qh, .int .i64 qmx, .slice qa qn qc] 66, .cells B #[.int .i64 w, .int .i64 h, .int .i64 mx, .slice a n c] 66] [] ((((w47.setCell ⟨B + 1 + 1 + 1, 0, none⟩ (.int .i64 0)).setCell ⟨B + 1 + 1 + 1, 1, none⟩ (.int .i64 0)).setCell ⟨B + 1 + 1 + 1, 2, none⟩ (.int .i64 0)).setCell ⟨B + 1 + 1 + 1, 3, none⟩ (.slice none 0 0)) from (H48.out.set4 0 rfl (.int .i64 0) (.int .i64 0) (.int .i64 0) (.slice none 0 0)))
        have q208 := H207.out.cell 0 rfl 0 rfl
        have q209 := H207.out.cell 0 rfl 1 rfl
        have q210 := H207.out.cell 0 rfl 2 rfl
        have q211 := H207.out.cell 0 rfl 3 rfl
        refine bodyPost_ret (v := .tuple #[.agg #[.int .i64 0, .int .i64 0, .int .i64 0, .slice none 0 0], .int .i64 k49]) ?_ rfl (TPost.no (by rw [pwTC_eq]; rw [if_neg (fun hc => hc ⟨HNb31.out, fun _ => HNb38.out⟩), if_pos (show pwCk ls true mx qmx out ≠ 0 from by rw [HNk49.out]; have := c50h.out; omega), HNk49.out]) (by have := c50h.out; omega) (by first | exact H207.out.below | exact H207.out.below'))
        simp [results, Try.results47, go_sem, q208, q209, q210, q211]
    | false =>
      have z212 := H37.out.cell 0 rfl 0 rfl
      have z213 := H37.out.free 0 rfl 0
      have z214 := H37.out.cell 0 rfl 1 rfl
      have z215 := H37.out.free 0 rfl 1
      have z216 := H37.out.cell 0 rfl 2 rfl
      have z217 := H37.out.free 0 rfl 2
      have z218 := H37.out.cell 0 rfl 3 rfl
      have z219 := H37.out.free 0 rfl 3
      go_wp2_with fail
      clear z212 z213 z214 z215 z216 z217 z218 z219
      have H220 := hid (show St B W [.cells (B + 1 + 1 + 1) #[.int .i64 0, .int .i64 0, .int .i64 0, .slice none 0 0] 66, .cells (B + 1 + 1) #[.int .i64 r0, .int .i64 r1, .int .i64 r2, .int .i64 r3] 24, .cells (B + 1) #[.int .i64 qw, .int .i64 qh, .int .i64 qmx, .slice qa qn qc] 66, .cells B #[.int .i64 w, .int .i64 h, .int .i64 mx, .slice a n c] 66] [] ((((w36.setCell ⟨B + 1 + 1 + 1, 0, none⟩ (.int .i64 0)).setCell ⟨B + 1 + 1 + 1, 1, none⟩ (.int .i64 0)).setCell ⟨B + 1 + 1 + 1, 2, none⟩ (.int .i64 0)).setCell ⟨B + 1 + 1 + 1, 3, none⟩ (.slice none 0 0)) from (H37.out.set4 0 rfl (.int .i64 0) (.int .i64 0) (.int .i64 0) (.slice none 0 0)))
      have q221 := H220.out.cell 0 rfl 0 rfl
      have q222 := H220.out.cell 0 rfl 1 rfl
      have q223 := H220.out.cell 0 rfl 2 rfl
      have q224 := H220.out.cell 0 rfl 3 rfl
      refine bodyPost_ret (v := .tuple #[.agg #[.int .i64 0, .int .i64 0, .int .i64 0, .slice none 0 0], .int .i64 1]) ?_ rfl (TPost.no (by rw [pwTC_eq]; rw [if_pos (by intro hc; have h1 := hc.1; have h2 := hc.2; first | (rw [HNb38.out] at h1; cases h1) | (have h3 := h2 rfl; rw [HNb38.out] at h3; cases h3))]) (by omega) (by first | exact H220.out.below | exact H220.out.below'))
      simp [results, Try.results47, go_sem, q221, q222, q223, q224]
  | false =>
    have z225 := H30.out.cell 0 rfl 0 rfl
    have z226 := H30.out.free 0 rfl 0
    have z227 := H30.out.cell 0 rfl 1 rfl
    have z228 := H30.out.free 0 rfl 1
    have z229 := H30.out.cell 0 rfl 2 rfl
    have z230 := H30.out.free 0 rfl 2
    have z231 := H30.out.cell 0 rfl 3 rfl
    have z232 := H30.out.free 0 rfl 3
    go_wp2_with fail
    clear z225 z226 z227 z228 z229 z230 z231 z232
    have H233 := hid (show St B W [.cells (B + 1 + 1 + 1) #[.int .i64 0, .int .i64 0, .int .i64 0, .slice none 0 0] 66, .cells (B + 1 + 1) #[.int .i64 r0, .int .i64 r1, .int .i64 r2, .int .i64 r3] 24, .cells (B + 1) #[.int .i64 qw, .int .i64 qh, .int .i64 qmx, .slice qa qn qc] 66, .cells B #[.int .i64 w, .int .i64 h, .int .i64 mx, .slice a n c] 66] [] ((((w29.setCell ⟨B + 1 + 1 + 1, 0, none⟩ (.int .i64 0)).setCell ⟨B + 1 + 1 + 1, 1, none⟩ (.int .i64 0)).setCell ⟨B + 1 + 1 + 1, 2, none⟩ (.int .i64 0)).setCell ⟨B + 1 + 1 + 1, 3, none⟩ (.slice none 0 0)) from (H30.out.set4 0 rfl (.int .i64 0) (.int .i64 0) (.int .i64 0) (.slice none 0 0)))
    have q234 := H233.out.cell 0 rfl 0 rfl
    have q235 := H233.out.cell 0 rfl 1 rfl
    have q236 := H233.out.cell 0 rfl 2 rfl
    have q237 := H233.out.cell 0 rfl 3 rfl
    refine bodyPost_ret (v := .tuple #[.agg #[.int .i64 0, .int .i64 0, .int .i64 0, .slice none 0 0], .int .i64 1]) ?_ rfl (TPost.no (by rw [pwTC_eq]; rw [if_pos (by intro hc; have h1 := hc.1; have h2 := hc.2; first | (rw [HNb31.out] at h1; cases h1) | (have h3 := h2 rfl; rw [HNb31.out] at h3; cases h3))]) (by omega) (by first | exact H233.out.below | exact H233.out.below'))
    simp [results, Try.results47, go_sem, q234, q235, q236, q237]

set_option maxRecDepth 100000 in
set_option maxHeartbeats 12800000 in
theorem rtile14_false (w h mx : Int) (a : Option Addr) (n c : Nat) (zs : List Int) (qw qh qmx : Int) (qa : Option Addr) (qn qc : Nat) (qs : List Int) (la : Option Addr) (lx lc : Nat) (ls : List (Int × Int)) (out r0 r1 r2 r3 : Int) (W : World) (hs : Slc W a n c zs) (hq : Slc W qa qn qc qs) (ho : Prs W la lx lc ls) :
    Calls Try.prog 47 #[.agg #[.int .i64 w, .int .i64 h, .int .i64 mx, .slice a n c], .agg #[.int .i64 qw, .int .i64 qh, .int .i64 qmx, .slice qa qn qc], .bool false, .slice la lx lc, .int .i64 out, .agg #[.int .i64 r0, .int .i64 r1, .int .i64 r2, .int .i64 r3]] W (TPost (pwTC w h mx zs qw qh qmx qs false ls out r0 r1 r2 r3) (r2 - r0) (r3 - r1) out (pwL w zs false qs ls out r0 r1 r2 r3) W) := by
  obtain ⟨B, hB⟩ : ∃ B, W.heap.size = B := ⟨_, rfl⟩
  have HI0 := hid (St.init hB)
  have HS := hid hs
  have HQ := hid hq
  have HO := hid ho
  have HLZ := hid hs.len
  have HLQ := hid hq.len
  clear hs hq ho
  go_enter Try.func47, Try.ntmps47
  go_upto_region 1 with fail
  have H238 := hid (show St B W [.cells (B + 1 + 1 + 1) #[.int .i64 0, .int .i64 0, .int .i64 0, .slice none 0 0] 66, .cells (B + 1 + 1) #[.int .i64 r0, .int .i64 r1, .int .i64 r2, .int .i64 r3] 24, .cells (B + 1) #[.int .i64 qw, .int .i64 qh, .int .i64 qmx, .slice qa qn qc] 66, .cells B #[.int .i64 w, .int .i64 h, .int .i64 mx, .slice a n c] 66] [] ((((W.alloc (.cells #[.int .i64 w, .int .i64 h, .int .i64 mx, .slice a n c] 66)).alloc (.cells #[.int .i64 qw, .int .i64 qh, .int .i64 qmx, .slice qa qn qc] 66)).alloc (.cells #[.int .i64 r0, .int .i64 r1, .int .i64 r2, .int .i64 r3] 24)).alloc (.cells #[.int .i64 0, .int .i64 0, .int .i64 0, .slice none 0 0] 66)) from ((((HI0.out.alloc #[.int .i64 w, .int .i64 h, .int .i64 mx, .slice a n c] 66 hB).alloc #[.int .i64 qw, .int .i64 qh, .int .i64 qmx, .slice qa qn qc] 66 (by first | exact hB | simp [hB])).alloc #[.int .i64 r0, .int .i64 r1, .int .i64 r2, .int .i64 r3] 24 (by first | exact hB | simp [hB])).alloc #[.int .i64 0, .int .i64 0, .int .i64 0, .slice none 0 0] 66 (by first | exact hB | simp [hB])))
  first | refine gen_code H238.out ?_ | refine gen_list H238.out ?_ | refine gen_calls H238.out ?_
  intro w239 hG
  clear H238
  have H238 := hid hG
  clear hG
  have z240 := H238.out.cell 3 rfl 0 rfl
  have z241 := H238.out.cell 3 rfl 1 rfl
  have z242 := H238.out.cell 3 rfl 2 rfl
  have z243 := H238.out.cell 3 rfl 3 rfl
  go_wp2_with fail
  clear z240 z241 z242 z243
  refine (qpvalid_any _ _ _ _ _ _ _ _ (by have := HS.out.nc; have := HS.out.cap; omega) (H238.out.old HS.out).row).mono ?_
  rintro e w244 ⟨rfl, hb⟩
  have H245 := hid (H238.out.call hb)
  clear hb
  obtain ⟨b246, hb246⟩ : ∃ xx', pValid w h mx zs = xx' := ⟨_, rfl⟩
  rw [hb246]
  have HNb246 := hid hb246
  clear hb246
  cases b246 with
  | true =>
    have z247 := H245.out.cell 3 rfl 0 rfl
    have z248 := H245.out.cell 3 rfl 1 rfl
    have z249 := H245.out.cell 3 rfl 2 rfl
    have z250 := H245.out.cell 3 rfl 3 rfl
    have z251 := H245.out.cell 2 rfl 0 rfl
    have z252 := H245.out.cell 2 rfl 1 rfl
    have z253 := H245.out.cell 2 rfl 2 rfl
    have z254 := H245.out.cell 2 rfl 3 rfl
    go_wp2_with fail
    clear z247 z248 z249 z250 z251 z252 z253 z254
    refine (rcheck14_false _ _ _ ls _ _ _ _ (H245.out.oldPrs HO.out)).mono ?_
    rintro e w255 ⟨rfl, hb⟩
    have H256 := hid (H245.out.call hb)
    clear hb
    obtain ⟨k257, hk257⟩ : ∃ xx', pwCk ls false mx qmx out = xx' := ⟨_, rfl⟩
    rw [hk257]
    have HNk257 := hid hk257
    clear hk257
    by_cases c258 : (k257 : Int) = 0
    · obtain ⟨c258c, c258d⟩ : (k257 : Int) ≤ 0 ∧ (0 : Int) ≤ k257 := by omega
      have c258a : ((k257 : Int) == (0)) = true := by simpa using c258
      have c258b : ((k257 : Int) != (0)) = false := by simpa using c258
      have c258h := hid c258
      clear c258
      go_upto_region 6 with fail
      cases hfu : rFull r0 r1 r2 r3 with
      | false =>
        have HFU := hid hfu
        have HX := hid (fullInside' (b0 := 0) (b1 := 0) (b2 := w) (b3 := h) (.inl hfu))
        clear hfu
        go_upto_region 6 with fail
        have H259 := hid H256.out.drew
        refine wp_region_held_drew (S := (fun w' => w'.cell? ⟨B, 0, none⟩ = some (.int .i64 w) ∧ w'.cell? ⟨B, 1, none⟩ = some (.int .i64 h) ∧ w'.cell? ⟨B, 2, none⟩ = some (.int .i64 mx) ∧ w'.cell? ⟨B, 3, none⟩ = some (.slice a n c) ∧ w'.cell? ⟨B + 1, 0, none⟩ = some (.int .i64 qw) ∧ w'.cell? ⟨B + 1, 1, none⟩ = some (.int .i64 qh) ∧ w'.cell? ⟨B + 1, 2, none⟩ = some (.int .i64 qmx) ∧ w'.cell? ⟨B + 1, 3, none⟩ = some (.slice qa qn qc) ∧ w'.cell? ⟨B + 1 + 1, 0, none⟩ = some (.int .i64 r0) ∧ w'.cell? ⟨B + 1 + 1, 1, none⟩ = some (.int .i64 r1) ∧ w'.cell? ⟨B + 1 + 1, 2, none⟩ = some (.int .i64 r2) ∧ w'.cell? ⟨B + 1 + 1, 3, none⟩ = some (.int .i64 r3))) (by kernel_rfl) ⟨H259.out.cell 3 rfl 0 rfl, H259.out.cell 3 rfl 1 rfl, H259.out.cell 3 rfl 2 rfl, H259.out.cell 3 rfl 3 rfl, H259.out.cell 2 rfl 0 rfl, H259.out.cell 2 rfl 1 rfl, H259.out.cell 2 rfl 2 rfl, H259.out.cell 2 rfl 3 rfl, H259.out.cell 1 rfl 0 rfl, H259.out.cell 1 rfl 1 rfl, H259.out.cell 1 rfl 2 rfl, H259.out.cell 1 rfl 3 rfl⟩ (fun hHeld => ?_)
        generalize w255.drew = k260 at *
        refine tkA 0 ?_
        try simp only [Act.put, p1, p2, p3, p4, p5, p6]
        refine tkA 1 ?_
        try simp only [Act.put, p1, p2, p3, p4, p5, p6]
        refine tkU 2 ?_
        try simp only [Act.put, p1, p2, p3, p4, p5, p6]
        refine tkU 3 ?_
        try simp only [Act.put, p1, p2, p3, p4, p5, p6]
        refine tkU 4 ?_
        try simp only [Act.put, p1, p2, p3, p4, p5, p6]
        refine tkU 5 ?_
        try simp only [Act.put, p1, p2, p3, p4, p5, p6]
        refine tkU 6 ?_
        try simp only [Act.put, p1, p2, p3, p4, p5, p6]
        refine tkU 7 ?_
        try simp only [Act.put, p1, p2, p3, p4, p5, p6]
        refine tkU 8 ?_
        try simp only [Act.put, p1, p2, p3, p4, p5, p6]
        refine tkU 9 ?_
        try simp only [Act.put, p1, p2, p3, p4, p5, p6]
        refine tkU 10 ?_
        try simp only [Act.put, p1, p2, p3, p4, p5, p6]
        refine tkU 11 ?_
        try simp only [Act.put, p1, p2, p3, p4, p5, p6]
        refine tkU 12 ?_
        try simp only [Act.put, p1, p2, p3, p4, p5, p6]
        refine tkU 13 ?_
        try simp only [Act.put, p1, p2, p3, p4, p5, p6]
        refine tkA 14 ?_
        try simp only [Act.put, p1, p2, p3, p4, p5, p6]
        refine tkA 15 ?_
        try simp only [Act.put, p1, p2, p3, p4, p5, p6]
        refine tkA 16 ?_
        try simp only [Act.put, p1, p2, p3, p4, p5, p6]
        refine wpAnyH_ready (rs := [17]) (by kernel_rfl) (by simp) (AllReadyH.cons (o := _) rfl (fun K hK => ?_) AllReadyH.nil)
        go_simp
        go_at_call 86
        refine (qfull_any _ _ _ _ _).mono ?_
        rintro e w261 ⟨rfl, hb⟩
        have H262 := hid (H259.out.call hb)
        clear hb
        rw [HFU.out]
        refine hK.out _ _ ?_ (fun hHeld2 => ?_)
        focus ((try dsimp only); (exact ⟨H262.out.cell 3 rfl 0 rfl, H262.out.cell 3 rfl 1 rfl, H262.out.cell 3 rfl 2 rfl, H262.out.cell 3 rfl 3 rfl, H262.out.cell 2 rfl 0 rfl, H262.out.cell 2 rfl 1 rfl, H262.out.cell 2 rfl 2 rfl, H262.out.cell 2 rfl 3 rfl, H262.out.cell 1 rfl 0 rfl, H262.out.cell 1 rfl 1 rfl, H262.out.cell 1 rfl 2 rfl, H262.out.cell 1 rfl 3 rfl⟩))
        clear hK K
        try simp only [Act.put, p1, p2, p3, p4, p5, p6]
        clear hHeld
        have hHeld := hHeld2
        clear hHeld2
        refine tkA 18 ?_
        try simp only [Act.put, p1, p2, p3, p4, p5, p6]
        refine tkA 19 ?_
        try simp only [Act.put, p1, p2, p3, p4, p5, p6]
        refine tkA 20 ?_
        try simp only [Act.put, p1, p2, p3, p4, p5, p6]
        refine tkU 21 ?_
        try simp only [Act.put, p1, p2, p3, p4, p5, p6]
        refine tkU 22 ?_
        try simp only [Act.put, p1, p2, p3, p4, p5, p6]
        refine tkU 23 ?_
        try simp only [Act.put, p1, p2, p3, p4, p5, p6]
        refine tkU 24 ?_
        try simp only [Act.put, p1, p2, p3, p4, p5, p6]
        refine tkU 25 ?_
        try simp only [Act.put, p1, p2, p3, p4, p5, p6]
        refine tkA 26 ?_
        try simp only [Act.put, p1, p2, p3, p4, p5, p6]
        refine wpAnyH_done (by kernel_rfl) ?_ _
        try clear hHeld
        have z263 := H262.out.cell 0 rfl 0 rfl
        have z264 := H262.out.free 0 rfl 0
        have z265 := H262.out.cell 0 rfl 1 rfl
        have z266 := H262.out.free 0 rfl 1
        have z267 := H262.out.cell 0 rfl 2 rfl
        have z268 := H262.out.free 0 rfl 2
        have z269 := H262.out.cell 0 rfl 3 rfl
        have z270 := H262.out.free 0 rfl 3
        go_wp2_with fail
        clear z263 z264 z265 z266 z267 z268 z269 z270
        have H271 := hid (show St B W [.cells (B + 1 + 1 + 1) #[.int .i64 0, .int .i64 0, .int .i64 0, .slice none 0 0] 66, .cells (B + 1 + 1) #[.int .i64 r0, .int .i64 r1, .int .i64 r2, .int .i64 r3] 24, .cells (B + 1) #[.int .i64 qw, .int .i64 qh, .int .i64 qmx, .slice qa qn qc] 66, .cells B #[.int .i64 w, .int .i64 h, .int .i64 mx, .slice a n c] 66] [] ((((w261.setCell ⟨B + 1 + 1 + 1, 0, none⟩ (.int .i64 0)).setCell ⟨B + 1 + 1 + 1, 1, none⟩ (.int .i64 0)).setCell ⟨B + 1 + 1 + 1, 2, none⟩ (.int .i64 0)).setCell ⟨B + 1 + 1 + 1, 3, none⟩ (.slice none 0 0)) from (H262.out.set4 0 rfl (.int .i64 0) (.int .i64 0) (.int .i64 0) (.slice none 0 0)))
        have q272 := H271.out.cell 0 rfl 0 rfl
        have q273 := H271.out.cell 0 rfl 1 rfl
        have q274 := H271.out.cell 0 rfl 2 rfl
        have q275 := H271.out.cell 0 rfl 3 rfl
        refine bodyPost_ret (v := .tuple #[.agg #[.int .i64 0, .int .i64 0, .int .i64 0, .slice none 0 0], .int .i64 8]) ?_ rfl (TPost.no (by rw [pwTC_eq]; rw [if_neg (fun hc => hc ⟨HNb246.out, fun e => by cases e⟩), if_neg (show ¬ pwCk ls false mx qmx out ≠ 0 from by rw [HNk257.out]; have := c258h.out; omega), if_pos (by first | exact Or.inl ⟨rfl, by have := c258h.out; omega⟩ | exact Or.inr (by unfold rIs; rw [HX.out]; simp))]) (by have := c258h.out; omega) (by first | exact H271.out.below | exact H271.out.below'))
        simp [results, Try.results47, go_sem, q272, q273, q274, q275]
      | true =>
        have HFU := hid hfu
        cases hin : rInside r0 r1 r2 r3 0 0 w h with
        | false =>
          have HIN0 := hid hin
          have HX := hid (fullInside' (r0 := r0) (r1 := r1) (r2 := r2) (r3 := r3) (.inr hin))
          clear hfu hin
          go_upto_region 6 with fail
          have H276 := hid H256.out.drew
          refine wp_region_held_drew (S := (fun w' => w'.cell? ⟨B, 0, none⟩ = some (.int .i64 w) ∧ w'.cell? ⟨B, 1, none⟩ = some (.int .i64 h) ∧ w'.cell? ⟨B, 2, none⟩ = some (.int .i64 mx) ∧ w'.cell? ⟨B, 3, none⟩ = some (.slice a n c) ∧ w'.cell? ⟨B + 1, 0, none⟩ = some (.int .i64 qw) ∧ w'.cell? ⟨B + 1, 1, none⟩ = some (.int .i64 qh) ∧ w'.cell? ⟨B + 1, 2, none⟩ = some (.int .i64 qmx) ∧ w'.cell? ⟨B + 1, 3, none⟩ = some (.slice qa qn qc) ∧ w'.cell? ⟨B + 1 + 1, 0, none⟩ = some (.int .i64 r0) ∧ w'.cell? ⟨B + 1 + 1, 1, none⟩ = some (.int .i64 r1) ∧ w'.cell? ⟨B + 1 + 1, 2, none⟩ = some (.int .i64 r2) ∧ w'.cell? ⟨B + 1 + 1, 3, none⟩ = some (.int .i64 r3))) (by kernel_rfl) ⟨H276.out.cell 3 rfl 0 rfl, H276.out.cell 3 rfl 1 rfl, H276.out.cell 3 rfl 2 rfl, H276.out.cell 3 rfl 3 rfl, H276.out.cell 2 rfl 0 rfl, H276.out.cell 2 rfl 1 rfl, H276.out.cell 2 rfl 2 rfl, H276.out.cell 2 rfl 3 rfl, H276.out.cell 1 rfl 0 rfl, H276.out.cell 1 rfl 1 rfl, H276.out.cell 1 rfl 2 rfl, H276.out.cell 1 rfl 3 rfl⟩ (fun hHeld => ?_)
          generalize w255.drew = k277 at *
          refine tkA 0 ?_
          try simp only [Act.put, p1, p2, p3, p4, p5, p6]
          refine tkA 1 ?_
          try simp only [Act.put, p1, p2, p3, p4, p5, p6]
          refine tkU 2 ?_
          try simp only [Act.put, p1, p2, p3, p4, p5, p6]
          refine tkU 3 ?_
          try simp only [Act.put, p1, p2, p3, p4, p5, p6]
          refine tkU 4 ?_
          try simp only [Act.put, p1, p2, p3, p4, p5, p6]
          refine tkU 5 ?_
          try simp only [Act.put, p1, p2, p3, p4, p5, p6]
          refine tkU 6 ?_
          try simp only [Act.put, p1, p2, p3, p4, p5, p6]
          refine tkU 7 ?_
          try simp only [Act.put, p1, p2, p3, p4, p5, p6]
          refine tkU 8 ?_
          try simp only [Act.put, p1, p2, p3, p4, p5, p6]
          refine tkU 9 ?_
          try simp only [Act.put, p1, p2, p3, p4, p5, p6]
          refine tkU 10 ?_
          try simp only [Act.put, p1, p2, p3, p4, p5, p6]
          refine tkU 11 ?_
          try simp only [Act.put, p1, p2, p3, p4, p5, p6]
          refine tkU 12 ?_
          try simp only [Act.put, p1, p2, p3, p4, p5, p6]
          refine tkU 13 ?_
          try simp only [Act.put, p1, p2, p3, p4, p5, p6]
          refine tkA 14 ?_
          try simp only [Act.put, p1, p2, p3, p4, p5, p6]
          refine tkA 15 ?_
          try simp only [Act.put, p1, p2, p3, p4, p5, p6]
          refine tkA 16 ?_
          try simp only [Act.put, p1, p2, p3, p4, p5, p6]
          refine wpAnyH_ready (rs := [17]) (by kernel_rfl) (by simp) (AllReadyH.cons (o := _) rfl (fun K hK => ?_) AllReadyH.nil)
          go_simp
          go_at_call 86
          refine (qfull_any _ _ _ _ _).mono ?_
          rintro e w278 ⟨rfl, hb⟩
          have H279 := hid (H276.out.call hb)
          clear hb
          rw [HFU.out]
          refine hK.out _ _ ?_ (fun hHeld2 => ?_)
          focus ((try dsimp only); (exact ⟨H279.out.cell 3 rfl 0 rfl, H279.out.cell 3 rfl 1 rfl, H279.out.cell 3 rfl 2 rfl, H279.out.cell 3 rfl 3 rfl, H279.out.cell 2 rfl 0 rfl, H279.out.cell 2 rfl 1 rfl, H279.out.cell 2 rfl 2 rfl, H279.out.cell 2 rfl 3 rfl, H279.out.cell 1 rfl 0 rfl, H279.out.cell 1 rfl 1 rfl, H279.out.cell 1 rfl 2 rfl, H279.out.cell 1 rfl 3 rfl⟩))
          clear hK K
          try simp only [Act.put, p1, p2, p3, p4, p5, p6]
          clear hHeld
          have hHeld := hHeld2
          clear hHeld2
          refine tkA 18 ?_
          try simp only [Act.put, p1, p2, p3, p4, p5, p6]
          refine tkA 19 ?_
          try simp only [Act.put, p1, p2, p3, p4, p5, p6]
          refine tkA 20 ?_
          try simp only [Act.put, p1, p2, p3, p4, p5, p6]
          refine tkA 21 ?_
          try simp only [Act.put, p1, p2, p3, p4, p5, p6]
          refine tkA 22 ?_
          try simp only [Act.put, p1, p2, p3, p4, p5, p6]
          refine wpAnyH_ready (rs := [23]) (by kernel_rfl) (by simp) (AllReadyH.cons (o := _) rfl (fun K hK => ?_) AllReadyH.nil)
          go_simp
          go_at_call 88
          refine (qcover_any _ _ _ _ _ _ _).mono ?_
          rintro e w280 ⟨rfl, hb⟩
          have H281 := hid (H279.out.call hb)
          clear hb
          refine hK.out _ _ ?_ (fun hHeld2 => ?_)
          focus ((try dsimp only); (exact ⟨H281.out.cell 3 rfl 0 rfl, H281.out.cell 3 rfl 1 rfl, H281.out.cell 3 rfl 2 rfl, H281.out.cell 3 rfl 3 rfl, H281.out.cell 2 rfl 0 rfl, H281.out.cell 2 rfl 1 rfl, H281.out.cell 2 rfl 2 rfl, H281.out.cell 2 rfl 3 rfl, H281.out.cell 1 rfl 0 rfl, H281.out.cell 1 rfl 1 rfl, H281.out.cell 1 rfl 2 rfl, H281.out.cell 1 rfl 3 rfl⟩))
          clear hK K
          try simp only [Act.put, p1, p2, p3, p4, p5, p6]
          clear hHeld
          have hHeld := hHeld2
          clear hHeld2
          refine wpAnyH_ready (rs := [24]) (by kernel_rfl) (by simp) (AllReadyH.cons (o := _) rfl (fun K hK => ?_) AllReadyH.nil)
          go_simp
          go_at_call 87
          refine (qinside_any _ _ _ _ _ _ _ _ _).mono ?_
          rintro e w282 ⟨rfl, hb⟩
          have H283 := hid (H281.out.call hb)
          clear hb
          rw [HIN0.out]
          refine hK.out _ _ ?_ (fun hHeld2 => ?_)
          focus ((try dsimp only); (exact ⟨H283.out.cell 3 rfl 0 rfl, H283.out.cell 3 rfl 1 rfl, H283.out.cell 3 rfl 2 rfl, H283.out.cell 3 rfl 3 rfl, H283.out.cell 2 rfl 0 rfl, H283.out.cell 2 rfl 1 rfl, H283.out.cell 2 rfl 2 rfl, H283.out.cell 2 rfl 3 rfl, H283.out.cell 1 rfl 0 rfl, H283.out.cell 1 rfl 1 rfl, H283.out.cell 1 rfl 2 rfl, H283.out.cell 1 rfl 3 rfl⟩))
          clear hK K
          try simp only [Act.put, p1, p2, p3, p4, p5, p6]
          clear hHeld
          have hHeld := hHeld2
          clear hHeld2
          refine tkA 25 ?_
          try simp only [Act.put, p1, p2, p3, p4, p5, p6]
          refine tkA 26 ?_
          try simp only [Act.put, p1, p2, p3, p4, p5, p6]
          refine wpAnyH_done (by kernel_rfl) ?_ _
          try clear hHeld
          have z284 := H283.out.cell 0 rfl 0 rfl
          have z285 := H283.out.free 0 rfl 0
          have z286 := H283.out.cell 0 rfl 1 rfl
          have z287 := H283.out.free 0 rfl 1
          have z288 := H283.out.cell 0 rfl 2 rfl
          have z289 := H283.out.free 0 rfl 2
          have z290 := H283.out.cell 0 rfl 3 rfl
          have z291 := H283.out.free 0 rfl 3
          go_wp2_with fail
          clear z284 z285 z286 z287 z288 z289 z290 z291
          have H292 := hid (show St B W [.cells (B + 1 + 1 + 1) #[.int .i64 0, .int .i64 0, .int .i64 0, .slice none 0 0] 66, .cells (B + 1 + 1) #[.int .i64 r0, .int .i64 r1, .int .i64 r2, .int .i64 r3] 24, .cells (B + 1) #[.int .i64 qw, .int .i64 qh, .int .i64 qmx, .slice qa qn qc] 66, .cells B #[.int .i64 w, .int .i64 h, .int .i64 mx, .slice a n c] 66] [] ((((w282.setCell ⟨B + 1 + 1 + 1, 0, none⟩ (.int .i64 0)).setCell ⟨B + 1 + 1 + 1, 1, none⟩ (.int .i64 0)).setCell ⟨B + 1 + 1 + 1, 2, none⟩ (.int .i64 0)).setCell ⟨B + 1 + 1 + 1, 3, none⟩ (.slice none 0 0)) from (H283.out.set4 0 rfl (.int .i64 0) (.int .i64 0) (.int .i64 0) (.slice none 0 0)))
          have q293 := H292.out.cell 0 rfl 0 rfl
          have q294 := H292.out.cell 0 rfl 1 rfl
          have q295 := H292.out.cell 0 rfl 2 rfl
          have q296 := H292.out.cell 0 rfl 3 rfl
          refine bodyPost_ret (v := .tuple #[.agg #[.int .i64 0, .int .i64 0, .int .i64 0, .slice none 0 0], .int .i64 8]) ?_ rfl (TPost.no (by rw [pwTC_eq]; rw [if_neg (fun hc => hc ⟨HNb246.out, fun e => by cases e⟩), if_neg (show ¬ pwCk ls false mx qmx out ≠ 0 from by rw [HNk257.out]; have := c258h.out; omega), if_pos (by first | exact Or.inl ⟨rfl, by have := c258h.out; omega⟩ | exact Or.inr (by unfold rIs; rw [HX.out]; simp))]) (by have := c258h.out; omega) (by first | exact H292.out.below | exact H292.out.below'))
          simp [results, Try.results47, go_sem, q293, q294, q295, q296]
        | true =>
          have HIN0 := hid hin
          have HX := hid (show (!rEmpty r0 r1 r2 r3 && rInside r0 r1 r2 r3 0 0 w h) = true by rw [← fullInside, hfu, hin]; rfl)
          clear hfu hin
          go_upto_region 6 with fail
          have H297 := hid H256.out.drew
          refine wp_region_held_drew (S := (fun w' => w'.cell? ⟨B, 0, none⟩ = some (.int .i64 w) ∧ w'.cell? ⟨B, 1, none⟩ = some (.int .i64 h) ∧ w'.cell? ⟨B, 2, none⟩ = some (.int .i64 mx) ∧ w'.cell? ⟨B, 3, none⟩ = some (.slice a n c) ∧ w'.cell? ⟨B + 1, 0, none⟩ = some (.int .i64 qw) ∧ w'.cell? ⟨B + 1, 1, none⟩ = some (.int .i64 qh) ∧ w'.cell? ⟨B + 1, 2, none⟩ = some (.int .i64 qmx) ∧ w'.cell? ⟨B + 1, 3, none⟩ = some (.slice qa qn qc) ∧ w'.cell? ⟨B + 1 + 1, 0, none⟩ = some (.int .i64 r0) ∧ w'.cell? ⟨B + 1 + 1, 1, none⟩ = some (.int .i64 r1) ∧ w'.cell? ⟨B + 1 + 1, 2, none⟩ = some (.int .i64 r2) ∧ w'.cell? ⟨B + 1 + 1, 3, none⟩ = some (.int .i64 r3))) (by kernel_rfl) ⟨H297.out.cell 3 rfl 0 rfl, H297.out.cell 3 rfl 1 rfl, H297.out.cell 3 rfl 2 rfl, H297.out.cell 3 rfl 3 rfl, H297.out.cell 2 rfl 0 rfl, H297.out.cell 2 rfl 1 rfl, H297.out.cell 2 rfl 2 rfl, H297.out.cell 2 rfl 3 rfl, H297.out.cell 1 rfl 0 rfl, H297.out.cell 1 rfl 1 rfl, H297.out.cell 1 rfl 2 rfl, H297.out.cell 1 rfl 3 rfl⟩ (fun hHeld => ?_)
          generalize w255.drew = k298 at *
          refine tkA 0 ?_
          try simp only [Act.put, p1, p2, p3, p4, p5, p6]
          refine tkA 1 ?_
          try simp only [Act.put, p1, p2, p3, p4, p5, p6]
          refine tkU 2 ?_
          try simp only [Act.put, p1, p2, p3, p4, p5, p6]
          refine tkU 3 ?_
          try simp only [Act.put, p1, p2, p3, p4, p5, p6]
          refine tkU 4 ?_
          try simp only [Act.put, p1, p2, p3, p4, p5, p6]
          refine tkU 5 ?_
          try simp only [Act.put, p1, p2, p3, p4, p5, p6]
          refine tkU 6 ?_
          try simp only [Act.put, p1, p2, p3, p4, p5, p6]
          refine tkU 7 ?_
          try simp only [Act.put, p1, p2, p3, p4, p5, p6]
          refine tkU 8 ?_
          try simp only [Act.put, p1, p2, p3, p4, p5, p6]
          refine tkU 9 ?_
          try simp only [Act.put, p1, p2, p3, p4, p5, p6]
          refine tkU 10 ?_
          try simp only [Act.put, p1, p2, p3, p4, p5, p6]
          refine tkU 11 ?_
          try simp only [Act.put, p1, p2, p3, p4, p5, p6]
          refine tkU 12 ?_
          try simp only [Act.put, p1, p2, p3, p4, p5, p6]
          refine tkU 13 ?_
          try simp only [Act.put, p1, p2, p3, p4, p5, p6]
          refine tkA 14 ?_
          try simp only [Act.put, p1, p2, p3, p4, p5, p6]
          refine tkA 15 ?_
          try simp only [Act.put, p1, p2, p3, p4, p5, p6]
          refine tkA 16 ?_
          try simp only [Act.put, p1, p2, p3, p4, p5, p6]
          refine wpAnyH_ready (rs := [17]) (by kernel_rfl) (by simp) (AllReadyH.cons (o := _) rfl (fun K hK => ?_) AllReadyH.nil)
          go_simp
          go_at_call 86
          refine (qfull_any _ _ _ _ _).mono ?_
          rintro e w299 ⟨rfl, hb⟩
          have H300 := hid (H297.out.call hb)
          clear hb
          rw [HFU.out]
          refine hK.out _ _ ?_ (fun hHeld2 => ?_)
          focus ((try dsimp only); (exact ⟨H300.out.cell 3 rfl 0 rfl, H300.out.cell 3 rfl 1 rfl, H300.out.cell 3 rfl 2 rfl, H300.out.cell 3 rfl 3 rfl, H300.out.cell 2 rfl 0 rfl, H300.out.cell 2 rfl 1 rfl, H300.out.cell 2 rfl 2 rfl, H300.out.cell 2 rfl 3 rfl, H300.out.cell 1 rfl 0 rfl, H300.out.cell 1 rfl 1 rfl, H300.out.cell 1 rfl 2 rfl, H300.out.cell 1 rfl 3 rfl⟩))
          clear hK K
          try simp only [Act.put, p1, p2, p3, p4, p5, p6]
          clear hHeld
          have hHeld := hHeld2
          clear hHeld2
          refine tkA 18 ?_
          try simp only [Act.put, p1, p2, p3, p4, p5, p6]
          refine tkA 19 ?_
          try simp only [Act.put, p1, p2, p3, p4, p5, p6]
          refine tkA 20 ?_
          try simp only [Act.put, p1, p2, p3, p4, p5, p6]
          refine tkA 21 ?_
          try simp only [Act.put, p1, p2, p3, p4, p5, p6]
          refine tkA 22 ?_
          try simp only [Act.put, p1, p2, p3, p4, p5, p6]
          refine wpAnyH_ready (rs := [23]) (by kernel_rfl) (by simp) (AllReadyH.cons (o := _) rfl (fun K hK => ?_) AllReadyH.nil)
          go_simp
          go_at_call 88
          refine (qcover_any _ _ _ _ _ _ _).mono ?_
          rintro e w301 ⟨rfl, hb⟩
          have H302 := hid (H300.out.call hb)
          clear hb
          refine hK.out _ _ ?_ (fun hHeld2 => ?_)
          focus ((try dsimp only); (exact ⟨H302.out.cell 3 rfl 0 rfl, H302.out.cell 3 rfl 1 rfl, H302.out.cell 3 rfl 2 rfl, H302.out.cell 3 rfl 3 rfl, H302.out.cell 2 rfl 0 rfl, H302.out.cell 2 rfl 1 rfl, H302.out.cell 2 rfl 2 rfl, H302.out.cell 2 rfl 3 rfl, H302.out.cell 1 rfl 0 rfl, H302.out.cell 1 rfl 1 rfl, H302.out.cell 1 rfl 2 rfl, H302.out.cell 1 rfl 3 rfl⟩))
          clear hK K
          try simp only [Act.put, p1, p2, p3, p4, p5, p6]
          clear hHeld
          have hHeld := hHeld2
          clear hHeld2
          refine wpAnyH_ready (rs := [24]) (by kernel_rfl) (by simp) (AllReadyH.cons (o := _) rfl (fun K hK => ?_) AllReadyH.nil)
          go_simp
          go_at_call 87
          refine (qinside_any _ _ _ _ _ _ _ _ _).mono ?_
          rintro e w303 ⟨rfl, hb⟩
          have H304 := hid (H302.out.call hb)
          clear hb
          rw [HIN0.out]
          refine hK.out _ _ ?_ (fun hHeld2 => ?_)
          focus ((try dsimp only); (exact ⟨H304.out.cell 3 rfl 0 rfl, H304.out.cell 3 rfl 1 rfl, H304.out.cell 3 rfl 2 rfl, H304.out.cell 3 rfl 3 rfl, H304.out.cell 2 rfl 0 rfl, H304.out.cell 2 rfl 1 rfl, H304.out.cell 2 rfl 2 rfl, H304.out.cell 2 rfl 3 rfl, H304.out.cell 1 rfl 0 rfl, H304.out.cell 1 rfl 1 rfl, H304.out.cell 1 rfl 2 rfl, H304.out.cell 1 rfl 3 rfl⟩))
          clear hK K
          try simp only [Act.put, p1, p2, p3, p4, p5, p6]
          clear hHeld
          have hHeld := hHeld2
          clear hHeld2
          refine tkA 25 ?_
          try simp only [Act.put, p1, p2, p3, p4, p5, p6]
          refine tkA 26 ?_
          try simp only [Act.put, p1, p2, p3, p4, p5, p6]
          refine wpAnyH_done (by kernel_rfl) ?_ _
          try clear hHeld
          have HV := hid HNb246.out
          obtain ⟨p1, p2, p3, p4, p5, p6, p7⟩ := pOk_iff.1 (pValid_iff.1 HNb246.out).1
          have HCK0 := hid (pwCk_zero (show pwCk ls false mx qmx out = 0 from by rw [HNk257.out]; have := c258h.out; omega))
          have HVT := hid (vCode_two HCK0.out.1)
          have HIN := hid (show rIs r0 r1 r2 r3 w h = true from by unfold rIs; exact HX.out)
          obtain ⟨i1, i2, i3, i4, i5, i6⟩ := (rIs_iff p1 p2 p3 p4).1 HIN.out
          obtain ⟨o1, o2⟩ := valOk_iff'.1 HCK0.out.2
          have HTC := hid (show pwTC w h mx zs qw qh qmx qs false ls out r0 r1 r2 r3 = 0 from by rw [pwTC_eq]; rw [if_neg (fun hc => hc ⟨HNb246.out, fun e => by cases e⟩), if_neg (show ¬ pwCk ls false mx qmx out ≠ 0 from by rw [HNk257.out]; have := c258h.out; omega), if_neg (by rintro (hc | hc); exact absurd hc.1 (by simp); exact hc HIN.out)])
          obtain ⟨wd, hwd⟩ : ∃ m : Nat, r2 - r0 = m := ⟨(r2 - r0).toNat, by omega⟩
          obtain ⟨ht, hht⟩ : ∃ m : Nat, r3 - r1 = m := ⟨(r3 - r1).toNat, by omega⟩
          have HWD := hid hwd
          have HHT := hid hht
          obtain ⟨wd1, wd2, ht1, ht2⟩ : (wd : Int) ≤ r2 - r0 ∧ r2 - r0 ≤ wd ∧ (ht : Int) ≤ r3 - r1 ∧ r3 - r1 ≤ ht := by omega
          have pq0 := Int.mul_nonneg (a := r2 - r0) (b := r3 - r1) (by omega) (by omega)
          have pq1 := Int.mul_le_mul (a := r2 - r0) (c := w) (b := r3 - r1) (d := h) (by omega) (by omega) (by omega) (by omega)
          obtain ⟨NN, hNN⟩ : ∃ N : Nat, (r2 - r0) * (r3 - r1) = N := ⟨((r2 - r0) * (r3 - r1)).toNat, by omega⟩
          rw [hNN] at pq0 pq1
          have HNN := hid (show ht * wd = NN from by have := hNN; rw [hwd, hht, ← Int.natCast_mul, Nat.mul_comm] at this; omega)
          clear hwd hht
          obtain ⟨F, hF⟩ : ∃ F : Nat → Nat → Int, (fun (k j : Nat) => pwP w zs false qs ls out (r0 + (j : Int)) (r1 + (k : Int))) = F := ⟨_, rfl⟩
          have HFV := hid (show ∀ k j : Nat, pwP w zs false qs ls out (r0 + (j : Int)) (r1 + (k : Int)) = F k j from fun k j => by rw [← hF])
          have HFF := hid hF
          clear hF
          have hNP : pOk (r2 - r0) (r3 - r1) out = true := pOk_iff.2 ⟨by omega, by omega, by omega, by omega, by rw [hNN]; omega, o1, o2⟩
          have HNP := hid hNP
          have HNI := hid (show ∀ x, nIf (r2 - r0) (r3 - r1) out x = x from fun x => by unfold nIf; rw [if_pos hNP])
          have HNL := hid (show nList (r2 - r0) (r3 - r1) out = List.replicate NN 0 from by unfold nList; rw [if_pos hNP, hNN]; rfl)
          clear hNP hNN
          have z305 := H304.out.cell 1 rfl 0 rfl
          have z306 := H304.out.cell 1 rfl 1 rfl
          have z307 := H304.out.cell 1 rfl 2 rfl
          have z308 := H304.out.cell 1 rfl 3 rfl
          go_wp2_with fail
          clear z305 z306 z307 z308
          refine (qnew_any _ _ _ _).mono ?_
          rintro e w309 ⟨v310, rfl, ho, hb⟩
          have H311 := hid (H304.out.grow hb ho)
          obtain ⟨v310a, v310c, rfl, _⟩ := ho.slc
          clear ho hb
          have hnl := HNL.out
          rw [hnl] at H311 ⊢
          simp only [List.length_replicate] at H311 ⊢
          rw [HNI.out, HNI.out, HNI.out, HNP.out]
          clear hnl
          obtain ⟨g0, g1, hg0⟩ := (H311.out.own 0 rfl).pos (by rw [List.length_replicate]; have h1 := HNN.out; have h2 := Nat.mul_le_mul (show 1 ≤ ht by omega) (show 1 ≤ wd by omega); omega)
          simp only [List.length_replicate] at hg0
          injection hg0 with e1 e2 e3
          subst e1
          clear e2 e3
          obtain ⟨D312, hD312⟩ : ∃ D, w309.heap.size = D := ⟨_, rfl⟩
          go_upto_region 9 with fail
          have H313 := hid (show St B W [.cells D312 #[.int .i64 (r2 - r0), .int .i64 (r3 - r1), .int .i64 out, .slice (some ⟨g0, 0, none⟩) NN v310c] 66, .own (.slice (some ⟨g0, 0, none⟩) NN v310c) (List.replicate NN 0), .cells (B + 1 + 1 + 1) #[.int .i64 0, .int .i64 0, .int .i64 0, .slice none 0 0] 66, .cells (B + 1 + 1) #[.int .i64 r0, .int .i64 r1, .int .i64 r2, .int .i64 r3] 24, .cells (B + 1) #[.int .i64 qw, .int .i64 qh, .int .i64 qmx, .slice qa qn qc] 66, .cells B #[.int .i64 w, .int .i64 h, .int .i64 mx, .slice a n c] 66] [] (w309.alloc (.cells #[.int .i64 (r2 - r0), .int .i64 (r3 - r1), .int .i64 out, .slice (some ⟨g0, 0, none⟩) NN v310c] 66)) from (H311.out.alloc #[.int .i64 (r2 - r0), .int .i64 (r3 - r1), .int .i64 out, .slice (some ⟨g0, 0, none⟩) NN v310c] 66 hD312))
          first | refine gen_code H313.out ?_ | refine gen_list H313.out ?_ | refine gen_calls H313.out ?_
          intro w314 hG
          clear H313
          have H313 := hid hG
          clear hG
          clear hD312
          have z315 := H313.out.cell 3 rfl 0 rfl
          have z316 := H313.out.cell 3 rfl 1 rfl
          have z317 := H313.out.cell 3 rfl 2 rfl
          have z318 := H313.out.cell 3 rfl 3 rfl
          go_wp2_with fail
          clear z315 z316 z317 z318
          go_loopw [17] (fun i wr => ∃ (y : Int) (k : Nat), k ≤ ht ∧ y ≤ r1 + k ∧ r1 + k ≤ y ∧ i = .int .i64 y ∧ St B W [.own (.slice (some ⟨g0, 0, none⟩) NN v310c) (fillL F wd k 0 NN), .cells D312 #[.int .i64 (r2 - r0), .int .i64 (r3 - r1), .int .i64 out, .slice (some ⟨g0, 0, none⟩) NN v310c] 66, .cells (B + 1 + 1 + 1) #[.int .i64 0, .int .i64 0, .int .i64 0, .slice none 0 0] 66, .cells (B + 1 + 1) #[.int .i64 r0, .int .i64 r1, .int .i64 r2, .int .i64 r3] 24, .cells (B + 1) #[.int .i64 qw, .int .i64 qh, .int .i64 qmx, .slice qa qn qc] 66, .cells B #[.int .i64 w, .int .i64 h, .int .i64 mx, .slice a n c] 66] [] wr) (fun i _ => (r3 - intOf i).toNat)
          case atStart => exact ⟨r1, 0, by omega, by omega, by omega, rfl, by rw [fillL_zero]; exact H313.out.pick [1, 0, 2, 3, 4, 5] rfl (by decide)⟩
          case round =>
            obtain ⟨y, k, hk, hy1, hy2, rfl, hst⟩ := hrel
            obtain ⟨u319, rfl⟩ : ∃ u319 : World, u319 = wr := ⟨_, rfl⟩
            have H320 := hid hst
            clear hst
            by_cases hkn : k < ht
            · skip
              have hkn' : (y : Int) < r3 := by omega
              obtain ⟨PW, hPW⟩ : ∃ P, y * w = P := ⟨_, rfl⟩
              have pw0 := Int.mul_nonneg (a := y) (b := w) (by omega) (by omega)
              have pw1 := Int.mul_le_mul (a := y + 1) (c := h) (b := w) (d := w) (by omega) (by omega) (by omega) (by omega)
              rw [Int.add_mul, Int.one_mul, hPW, Int.mul_comm h w] at pw1
              rw [hPW] at pw0
              have HPW := hid hPW
              have z321 := H320.out.cell 3 rfl 0 rfl
              have z322 := H320.out.cell 3 rfl 1 rfl
              have z323 := H320.out.cell 3 rfl 2 rfl
              have z324 := H320.out.cell 3 rfl 3 rfl
              go_wp2_with fail
              clear z321 z322 z323 z324
              go_loopw [18] (fun i wr => ∃ (x : Int) (j : Nat), j ≤ wd ∧ x ≤ r0 + j ∧ r0 + j ≤ x ∧ i = .int .i64 x ∧ St B W [.own (.slice (some ⟨g0, 0, none⟩) NN v310c) (fillL F wd k j NN), .cells D312 #[.int .i64 (r2 - r0), .int .i64 (r3 - r1), .int .i64 out, .slice (some ⟨g0, 0, none⟩) NN v310c] 66, .cells (B + 1 + 1 + 1) #[.int .i64 0, .int .i64 0, .int .i64 0, .slice none 0 0] 66, .cells (B + 1 + 1) #[.int .i64 r0, .int .i64 r1, .int .i64 r2, .int .i64 r3] 24, .cells (B + 1) #[.int .i64 qw, .int .i64 qh, .int .i64 qmx, .slice qa qn qc] 66, .cells B #[.int .i64 w, .int .i64 h, .int .i64 mx, .slice a n c] 66] [] wr) (fun i _ => (r2 - intOf i).toNat)
              case atStart => exact ⟨r0, 0, by omega, by omega, by omega, rfl, H320.out⟩
              case round =>
                obtain ⟨x, j, hj, hx1, hx2, rfl, hst⟩ := hrel
                obtain ⟨u325, rfl⟩ : ∃ u325 : World, u325 = wr := ⟨_, rfl⟩
                have H326 := hid hst
                clear hst
                by_cases hjn : j < wd
                · skip
                  have hjn' : (x : Int) < r2 := by omega
                  have hwh := (pValid_iff.1 HV.out).2.1
                  rw [HLZ.out] at hwh
                  have hlt : PW + x < n := by omega
                  clear hwh
                  obtain ⟨pbk, po, hpa⟩ := row_at (H326.out.old HS.out).row (by omega)
                  have cz := row_cell (by rw [← hpa]; exact (H326.out.old HS.out).row) (j := (PW + x).toNat) (by omega)
                  obtain ⟨pz, hpz⟩ : ∃ z, zs.getD (PW + x).toNat 0 = z := ⟨_, rfl⟩
                  have HPO := hid (show pixOk pz = true from by rw [← hpz]; exact pix_ok HV.out (by rw [HLZ.out]; omega))
                  rw [hpz] at cz
                  have HPZ := hid hpz
                  clear hpz
                  subst hpa
                  have HFX := hid (show clV (eGo ls [] pz 0).1 out = F k j from by rw [← HFV.out]; unfold pwP; rw [show (r1 + (k : Int)) * w + (r0 + (j : Int)) = PW + x from by rw [show r1 + (k : Int) = y by omega, HPW.out]; omega]; show _ = clV (eGo ls [] (zs.getD (PW + x).toNat 0) 0).1 out; rw [HPZ.out])
                  have z327 := H326.out.cell 3 rfl 0 rfl
                  have z328 := H326.out.cell 3 rfl 1 rfl
                  have z329 := H326.out.cell 3 rfl 2 rfl
                  have z330 := H326.out.cell 3 rfl 3 rfl
                  have z331 := H326.out.cell 5 rfl 0 rfl
                  have z332 := H326.out.cell 5 rfl 1 rfl
                  have z333 := H326.out.cell 5 rfl 2 rfl
                  have z334 := H326.out.cell 5 rfl 3 rfl
                  go_wp2_with fail
                  clear z327 z328 z329 z330 z331 z332 z333 z334
                  refine (reval_any _ _ _ ls _ _ _ (H326.out.oldPrs HO.out)).mono ?_
                  rintro e w335 ⟨rfl, hb⟩
                  have H336 := hid (H326.out.call hb)
                  clear hb
                  rw [evR_go HVT.out HPO.out (by decide)]
                  obtain ⟨n337, hn337⟩ : ∃ xx', (eGo ls [] pz 0).1 = xx' := ⟨_, rfl⟩
                  rw [hn337]
                  have HNn337 := hid hn337
                  clear hn337
                  obtain ⟨n338, hn338⟩ : ∃ xx', (eGo ls [] pz 0).2 = xx' := ⟨_, rfl⟩
                  rw [hn338]
                  have HNn338 := hid hn338
                  clear hn338
                  go_upto_region 19 with fail
                  obtain ⟨fv, hfv⟩ : ∃ z, F k j = z := ⟨_, rfl⟩
                  rw [hfv] at HFX
                  obtain ⟨KN, hKN⟩ : ∃ K : Nat, k * wd = K := ⟨_, rfl⟩
                  have kn1 : KN + wd ≤ NN := by
                    have e1 := Nat.mul_le_mul_right wd (show k + 1 ≤ ht by omega)
                    rw [HNN.out, Nat.add_mul, Nat.one_mul, hKN] at e1
                    exact e1
                  obtain ⟨JX, hJX⟩ : ∃ K : Nat, KN + j = K := ⟨_, rfl⟩
                  have HNX := hid (show (fillL F wd k j NN).set JX fv = fillL F wd k (j + 1) NN from by rw [← hfv, ← hJX, ← hKN]; exact fillL_next (by omega))
                  have hyk : y - r1 = (k : Int) := by omega
                  have hkm : (k : Int) * (r2 - r0) = (KN : Int) := by rw [HWD.out, ← hKN]; simp
                  have hxj : (KN : Int) + x - r0 = (JX : Int) := by omega
                  have jx1 : JX < NN := by omega
                  have HFL := hid (show (fillL F wd k j NN).length = NN from fillL_len (by omega))
                  have wk1 : IntKind.i64.wrap (k : Int) = k := IntWalk.i64_in _ (by omega)
                  have wk2 : IntKind.i64.wrap (KN : Int) = KN := IntWalk.i64_in _ (by omega)
                  have wk3 : IntKind.i64.wrap ((KN : Int) + x) = (KN : Int) + x := IntWalk.i64_in _ (by omega)
                  have wk4 : IntKind.i64.wrap (JX : Int) = JX := IntWalk.i64_in _ (by omega)
                  have jx2 : (JX : Int) < NN := by omega
                  clear hfv hKN hJX
                  have H339 := hid H336.out.drew
                  refine wp_region_held_drew (S := (fun w' => w'.cell? ⟨D312, 0, none⟩ = some (.int .i64 (r2 - r0)) ∧ w'.cell? ⟨D312, 1, none⟩ = some (.int .i64 (r3 - r1)) ∧ w'.cell? ⟨D312, 2, none⟩ = some (.int .i64 out) ∧ w'.cell? ⟨D312, 3, none⟩ = some (.slice (some ⟨g0, 0, none⟩) NN v310c) ∧ w'.cell? ⟨B + 1 + 1, 0, none⟩ = some (.int .i64 r0) ∧ w'.cell? ⟨B + 1 + 1, 1, none⟩ = some (.int .i64 r1) ∧ w'.cell? ⟨B + 1 + 1, 2, none⟩ = some (.int .i64 r2) ∧ w'.cell? ⟨B + 1 + 1, 3, none⟩ = some (.int .i64 r3))) (by kernel_rfl) ⟨H339.out.cell 1 rfl 0 rfl, H339.out.cell 1 rfl 1 rfl, H339.out.cell 1 rfl 2 rfl, H339.out.cell 1 rfl 3 rfl, H339.out.cell 3 rfl 0 rfl, H339.out.cell 3 rfl 1 rfl, H339.out.cell 3 rfl 2 rfl, H339.out.cell 3 rfl 3 rfl⟩ (fun hHeld => ?_)
                  generalize w335.drew = k340 at *
                  refine tkA 0 ?_
                  try simp only [Act.put, p1, p2, p3, p4, p5, p6]
                  refine tkA 1 ?_
                  try simp only [Act.put, p1, p2, p3, p4, p5, p6]
                  refine tkA 2 ?_
                  try simp only [Act.put, p1, p2, p3, p4, p5, p6]
                  refine tkA 3 ?_
                  try simp only [Act.put, p1, p2, p3, p4, p5, p6]
                  refine tkA 4 ?_
                  try simp only [Act.put, p1, p2, p3, p4, p5, p6]
                  refine tkA 5 ?_
                  try simp only [Act.put, p1, p2, p3, p4, p5, p6]
                  refine tkA 6 ?_
                  try simp only [Act.put, p1, p2, p3, p4, p5, p6]
                  refine tkA 7 ?_
                  try simp only [Act.put, p1, p2, p3, p4, p5, p6]
                  refine tkA 8 ?_
                  try simp only [Act.put, p1, p2, p3, p4, p5, p6]
                  refine tkA 9 ?_
                  try simp only [Act.put, p1, p2, p3, p4, p5, p6]
                  refine tkA 10 ?_
                  try simp only [Act.put, p1, p2, p3, p4, p5, p6]
                  refine tkA 11 ?_
                  try simp only [Act.put, p1, p2, p3, p4, p5, p6]
                  refine tkA 12 ?_
                  try simp only [Act.put, p1, p2, p3, p4, p5, p6]
                  refine tkA 13 ?_
                  try simp only [Act.put, p1, p2, p3, p4, p5, p6]
                  refine tkA 14 ?_
                  try simp only [Act.put, p1, p2, p3, p4, p5, p6]
                  refine tkA 15 ?_
                  try simp only [Act.put, p1, p2, p3, p4, p5, p6]
                  refine wpAnyH_ready (rs := [16]) (by kernel_rfl) (by simp) (AllReadyH.cons (o := _) rfl (fun K hK => ?_) AllReadyH.nil)
                  go_simp
                  go_at_call 90
                  refine (rclamp_any _ _ _).mono ?_
                  rintro e w341 ⟨rfl, hsw⟩
                  have hsw2 : k340 = w341 := by first | exact hsw | exact hsw.symm
                  clear hsw
                  subst hsw2
                  rw [show clV n337 out = fv from by rw [← HNn337.out]; exact HFX.out]
                  refine hK.out _ _ ?_ (fun hHeld2 => ?_)
                  focus ((try dsimp only); (exact ⟨H339.out.cell 1 rfl 0 rfl, H339.out.cell 1 rfl 1 rfl, H339.out.cell 1 rfl 2 rfl, H339.out.cell 1 rfl 3 rfl, H339.out.cell 3 rfl 0 rfl, H339.out.cell 3 rfl 1 rfl, H339.out.cell 3 rfl 2 rfl, H339.out.cell 3 rfl 3 rfl⟩))
                  clear hK K
                  try simp only [Act.put, p1, p2, p3, p4, p5, p6]
                  clear hHeld
                  have hHeld := hHeld2
                  clear hHeld2
                  refine tkA 17 ?_
                  try simp only [Act.put, p1, p2, p3, p4, p5, p6]
                  refine wpAnyH_ready (rs := [18]) (by kernel_rfl) (by simp) (AllReadyH.cons (o := _) rfl (fun K hK => ?_) AllReadyH.nil)
                  obtain ⟨s342, s343⟩ := H339.out.get 0 rfl (j := JX) (by rw [HFL.out]; exact jx1)
                  have H344 := hid (show St B W [.own (.slice (some ⟨g0, 0, none⟩) NN v310c) ((fillL F wd k j NN).set JX fv), .cells D312 #[.int .i64 (r2 - r0), .int .i64 (r3 - r1), .int .i64 out, .slice (some ⟨g0, 0, none⟩) NN v310c] 66, .cells (B + 1 + 1 + 1) #[.int .i64 0, .int .i64 0, .int .i64 0, .slice none 0 0] 66, .cells (B + 1 + 1) #[.int .i64 r0, .int .i64 r1, .int .i64 r2, .int .i64 r3] 24, .cells (B + 1) #[.int .i64 qw, .int .i64 qh, .int .i64 qmx, .slice qa qn qc] 66, .cells B #[.int .i64 w, .int .i64 h, .int .i64 mx, .slice (some ⟨pbk, po, none⟩) n c] 66] [] (k340.setCell ⟨g0, JX, none⟩ (.int .i64 fv)) from (H339.out.store 0 rfl JX fv))
                  go_simp
                  refine hK.out _ _ ?_ (fun hHeld2 => ?_)
                  focus ((try dsimp only); (exact ⟨H344.out.cell 1 rfl 0 rfl, H344.out.cell 1 rfl 1 rfl, H344.out.cell 1 rfl 2 rfl, H344.out.cell 1 rfl 3 rfl, H344.out.cell 3 rfl 0 rfl, H344.out.cell 3 rfl 1 rfl, H344.out.cell 3 rfl 2 rfl, H344.out.cell 3 rfl 3 rfl⟩))
                  clear hK K hHeld
                  try simp only [Act.put, p1, p2, p3, p4, p5, p6]
                  clear s342 s343
                  generalize (k340.setCell ⟨g0, JX, none⟩ (.int .i64 fv)) = k345 at *
                  have hHeld := hHeld2
                  clear hHeld2
                  refine wpAnyH_done (by kernel_rfl) ?_ _
                  try clear hHeld
                  clear hyk hkm hxj wk1 wk2 wk3 wk4
                  go_wp2_with fail
                  go_roundw
                  case rel => exact ⟨x + 1, j + 1, by omega, by omega, by omega, by go_num, by rw [← HNX.out]; exact H344.out⟩
                  case measure => first | (simp [intOf]; omega) | (simp [intOf]; done)
                · skip
                  have hjn' : ¬ ((x : Int) < r2) := by omega
                  have Hhjn := hid (show j = wd by omega)
                  have z346 := H326.out.cell 3 rfl 0 rfl
                  have z347 := H326.out.cell 3 rfl 1 rfl
                  have z348 := H326.out.cell 3 rfl 2 rfl
                  have z349 := H326.out.cell 3 rfl 3 rfl
                  go_wp2_with fail
                  clear z346 z347 z348 z349
                  go_roundw
                  case rel => exact ⟨y + 1, k + 1, by omega, by omega, by omega, by go_num, by rw [show fillL F wd (k + 1) 0 NN = fillL F wd k j NN by rw [← fillL_row, Hhjn.out]]; exact H326.out⟩
                  case measure => first | (simp [intOf]; omega) | (simp [intOf]; done)
            · skip
              have hkn' : ¬ ((y : Int) < r3) := by omega
              have Hhkn := hid (show k = ht by omega)
              have HKE := hid (show k = ht by omega)
              have z350 := H320.out.cell 3 rfl 0 rfl
              have z351 := H320.out.cell 3 rfl 1 rfl
              have z352 := H320.out.cell 3 rfl 2 rfl
              have z353 := H320.out.cell 3 rfl 3 rfl
              have z354 := H320.out.cell 1 rfl 0 rfl
              have z355 := H320.out.cell 1 rfl 1 rfl
              have z356 := H320.out.cell 1 rfl 2 rfl
              have z357 := H320.out.cell 1 rfl 3 rfl
              have z358 := H320.out.cell 2 rfl 0 rfl
              have z359 := H320.out.free 2 rfl 0
              have z360 := H320.out.cell 2 rfl 1 rfl
              have z361 := H320.out.free 2 rfl 1
              have z362 := H320.out.cell 2 rfl 2 rfl
              have z363 := H320.out.free 2 rfl 2
              have z364 := H320.out.cell 2 rfl 3 rfl
              have z365 := H320.out.free 2 rfl 3
              go_wp2_with fail
              clear z350 z351 z352 z353 z354 z355 z356 z357 z358 z359 z360 z361 z362 z363 z364 z365
              have H366 := hid (show St B W [.own (.slice (some ⟨g0, 0, none⟩) NN v310c) (fillL F wd k 0 NN), .cells D312 #[.int .i64 (r2 - r0), .int .i64 (r3 - r1), .int .i64 out, .slice (some ⟨g0, 0, none⟩) NN v310c] 66, .cells (B + 1 + 1 + 1) #[.int .i64 (r2 - r0), .int .i64 (r3 - r1), .int .i64 out, .slice (some ⟨g0, 0, none⟩) NN v310c] 66, .cells (B + 1 + 1) #[.int .i64 r0, .int .i64 r1, .int .i64 r2, .int .i64 r3] 24, .cells (B + 1) #[.int .i64 qw, .int .i64 qh, .int .i64 qmx, .slice qa qn qc] 66, .cells B #[.int .i64 w, .int .i64 h, .int .i64 mx, .slice a n c] 66] [] ((((u319.setCell ⟨B + 1 + 1 + 1, 0, none⟩ (.int .i64 (r2 - r0))).setCell ⟨B + 1 + 1 + 1, 1, none⟩ (.int .i64 (r3 - r1))).setCell ⟨B + 1 + 1 + 1, 2, none⟩ (.int .i64 out)).setCell ⟨B + 1 + 1 + 1, 3, none⟩ (.slice (some ⟨g0, 0, none⟩) NN v310c)) from (H320.out.set4 2 rfl (.int .i64 (r2 - r0)) (.int .i64 (r3 - r1)) (.int .i64 out) (.slice (some ⟨g0, 0, none⟩) NN v310c)))
              have HFLL := hid (show fillL F wd k 0 NN = gridL F wd k 0 from by rw [← HNN.out, ← HKE.out]; exact fillL_all F wd k)
              have HRES := hid (show pwL w zs false qs ls out r0 r1 r2 r3 = fillL F wd k 0 NN from by rw [HFLL.out]; unfold pwL rG; rw [HFF.out, HWD.out, HHT.out, Int.toNat_natCast, Int.toNat_natCast, ← HKE.out])
              have q367 := H366.out.cell 2 rfl 0 rfl
              have q368 := H366.out.cell 2 rfl 1 rfl
              have q369 := H366.out.cell 2 rfl 2 rfl
              have q370 := H366.out.cell 2 rfl 3 rfl
              refine bodyPost_ret (v := .tuple #[.agg #[.int .i64 (r2 - r0), .int .i64 (r3 - r1), .int .i64 out, .slice (some ⟨g0, 0, none⟩) NN v310c], .int .i64 0]) ?_ rfl (TPost.yes HTC.out (by rw [hB, HRES.out]; exact H366.out.own 0 rfl) (by first | exact H366.out.below | exact H366.out.below'))
              simp [results, Try.results47, go_sem, q367, q368, q369, q370]
    · have c258a : ((k257 : Int) == (0)) = false := by simpa using c258
      have c258b : ((k257 : Int) != (0)) = true := by simpa using c258
      have c258h := hid c258
      clear c258
      have z371 := H256.out.cell 0 rfl 0 rfl
      have z372 := H256.out.free 0 rfl 0
      have z373 := H256.out.cell 0 rfl 1 rfl
      have z374 := H256.out.free 0 rfl 1
      have z375 := H256.out.cell 0 rfl 2 rfl
      have z376 := H256.out.free 0 rfl 2
      have z377 := H256.out.cell 0 rfl 3 rfl
      have z378 := H256.out.free 0 rfl 3
      go_wp2_with fail
      clear z371 z372 z373 z374 z375 z376 z377 z378
      have H379 := hid (show St B W [.cells (B + 1 + 1 + 1) #[.int .i64 0, .int .i64 0, .int .i64 0, .slice none 0 0] 66, .cells (B + 1 + 1) #[.int .i64 r0, .int .i64 r1, .int .i64 r2, .int .i64 r3] 24, .cells (B + 1) #[.int .i64 qw, .int .i64 qh, .int .i64 qmx, .slice qa qn qc] 66, .cells B #[.int .i64 w, .int .i64 h, .int .i64 mx, .slice a n c] 66] [] ((((w255.setCell ⟨B + 1 + 1 + 1, 0, none⟩ (.int .i64 0)).setCell ⟨B + 1 + 1 + 1, 1, none⟩ (.int .i64 0)).setCell ⟨B + 1 + 1 + 1, 2, none⟩ (.int .i64 0)).setCell ⟨B + 1 + 1 + 1, 3, none⟩ (.slice none 0 0)) from (H256.out.set4 0 rfl (.int .i64 0) (.int .i64 0) (.int .i64 0) (.slice none 0 0)))
      have q380 := H379.out.cell 0 rfl 0 rfl
      have q381 := H379.out.cell 0 rfl 1 rfl
      have q382 := H379.out.cell 0 rfl 2 rfl
      have q383 := H379.out.cell 0 rfl 3 rfl
      refine bodyPost_ret (v := .tuple #[.agg #[.int .i64 0, .int .i64 0, .int .i64 0, .slice none 0 0], .int .i64 k257]) ?_ rfl (TPost.no (by rw [pwTC_eq]; rw [if_neg (fun hc => hc ⟨HNb246.out, fun e => by cases e⟩), if_pos (show pwCk ls false mx qmx out ≠ 0 from by rw [HNk257.out]; have := c258h.out; omega), HNk257.out]) (by have := c258h.out; omega) (by first | exact H379.out.below | exact H379.out.below'))
      simp [results, Try.results47, go_sem, q380, q381, q382, q383]
  | false =>
    have z384 := H245.out.cell 0 rfl 0 rfl
    have z385 := H245.out.free 0 rfl 0
    have z386 := H245.out.cell 0 rfl 1 rfl
    have z387 := H245.out.free 0 rfl 1
    have z388 := H245.out.cell 0 rfl 2 rfl
    have z389 := H245.out.free 0 rfl 2
    have z390 := H245.out.cell 0 rfl 3 rfl
    have z391 := H245.out.free 0 rfl 3
    go_wp2_with fail
    clear z384 z385 z386 z387 z388 z389 z390 z391
    have H392 := hid (show St B W [.cells (B + 1 + 1 + 1) #[.int .i64 0, .int .i64 0, .int .i64 0, .slice none 0 0] 66, .cells (B + 1 + 1) #[.int .i64 r0, .int .i64 r1, .int .i64 r2, .int .i64 r3] 24, .cells (B + 1) #[.int .i64 qw, .int .i64 qh, .int .i64 qmx, .slice qa qn qc] 66, .cells B #[.int .i64 w, .int .i64 h, .int .i64 mx, .slice a n c] 66] [] ((((w244.setCell ⟨B + 1 + 1 + 1, 0, none⟩ (.int .i64 0)).setCell ⟨B + 1 + 1 + 1, 1, none⟩ (.int .i64 0)).setCell ⟨B + 1 + 1 + 1, 2, none⟩ (.int .i64 0)).setCell ⟨B + 1 + 1 + 1, 3, none⟩ (.slice none 0 0)) from (H245.out.set4 0 rfl (.int .i64 0) (.int .i64 0) (.int .i64 0) (.slice none 0 0)))
    have q393 := H392.out.cell 0 rfl 0 rfl
    have q394 := H392.out.cell 0 rfl 1 rfl
    have q395 := H392.out.cell 0 rfl 2 rfl
    have q396 := H392.out.cell 0 rfl 3 rfl
    refine bodyPost_ret (v := .tuple #[.agg #[.int .i64 0, .int .i64 0, .int .i64 0, .slice none 0 0], .int .i64 1]) ?_ rfl (TPost.no (by rw [pwTC_eq]; rw [if_pos (by intro hc; have h1 := hc.1; have h2 := hc.2; first | (rw [HNb246.out] at h1; cases h1) | (have h3 := h2 rfl; rw [HNb246.out] at h3; cases h3))]) (by omega) (by first | exact H392.out.below | exact H392.out.below'))
    simp [results, Try.results47, go_sem, q393, q394, q395, q396]
theorem rtile14 (w h mx : Int) (a : Option Addr) (n c : Nat) (zs : List Int) (qw qh qmx : Int) (qa : Option Addr) (qn qc : Nat) (qs : List Int) (two : Bool) (la : Option Addr) (lx lc : Nat) (ls : List (Int × Int)) (out r0 r1 r2 r3 : Int) (W : World) (hs : Slc W a n c zs) (hq : Slc W qa qn qc qs) (ho : Prs W la lx lc ls) :
    Calls Try.prog 47 #[.agg #[.int .i64 w, .int .i64 h, .int .i64 mx, .slice a n c], .agg #[.int .i64 qw, .int .i64 qh, .int .i64 qmx, .slice qa qn qc], .bool two, .slice la lx lc, .int .i64 out, .agg #[.int .i64 r0, .int .i64 r1, .int .i64 r2, .int .i64 r3]] W (TPost (pwTC w h mx zs qw qh qmx qs two ls out r0 r1 r2 r3) (r2 - r0) (r3 - r1) out (pwL w zs two qs ls out r0 r1 r2 r3) W) := by
  cases two with
  | true => exact rtile14_true w h mx a n c zs qw qh qmx qa qn qc qs la lx lc ls out r0 r1 r2 r3 W hs hq ho
  | false => exact rtile14_false w h mx a n c zs qw qh qmx qa qn qc qs la lx lc ls out r0 r1 r2 r3 W hs hq ho
end Go.Proofs.Ytnnpnljdefmmcaa
