/-
  Contracts: the needed columns and rows of a stage, in the program.
-/
import Derived.Test.YtlidacfokgdlgaaStNd2
namespace Go.Proofs.Ytlidacfokgdlgaa
open Go.RowKit
attribute [local go_sem ↓] Go.wp_at_zero Go.wp_at_succ
set_option linter.unusedVariables false
set_option linter.unusedSimpArgs false

theorem fine_side {kd sb ep ef kw kh : Int} {wn rn cn : Nat} {sh sh2 : Int} {xn yn : Nat} {bins : Int} {on : Nat} {mx : Int} {X Y : Tbl} {n f t : Int} (h : stFine kd sb ep ef kw kh wn rn cn sh sh2 xn yn bins on mx X Y n f t = true) : (kd = 1 → 1 ≤ kw ∧ kw ≤ 9 ∧ 1 ≤ kh ∧ kh ≤ 9) ∧ (kd = 2 → 1 ≤ (rn : Int) ∧ (rn : Int) ≤ 9 ∧ 1 ≤ (cn : Int) ∧ (cn : Int) ≤ 9) ∧ (kd = 3 → tapsOk X = true ∧ tapsOk Y = true) := by
  unfold stFine at h
  simp only [Bool.and_eq_true] at h
  obtain ⟨_, _, h⟩ := h
  refine ⟨fun k => ?_, fun k => ?_, fun k => ?_⟩
  · subst k; unfold stAcc sideOk at h; rw [if_pos rfl] at h; simp at h; omega
  · subst k; unfold stAcc sideOk at h; rw [if_neg (by decide), if_pos rfl] at h; simp at h; omega
  · subst k; unfold stAcc at h; rw [if_neg (by decide), if_neg (by decide), if_pos rfl] at h; simpa using h
def stCol (kd sb ep ef kw kh : Int) (wn rn cn : Nat) (sh sh2 : Int) (xn yn : Nat) (bins : Int) (on : Nat) (mx : Int) (X Y : Tbl) (n f t : Int) : List Int := ndL (stFine kd sb ep ef kw kh wn rn cn sh sh2 xn yn bins on mx X Y n f t) kd ep (if kd = 2 then (rn : Int) else kw) n X f t
def stRow (kd sb ep ef kw kh : Int) (wn rn cn : Nat) (sh sh2 : Int) (xn yn : Nat) (bins : Int) (on : Nat) (mx : Int) (X Y : Tbl) (n f t : Int) : List Int := ndL (stFine kd sb ep ef kw kh wn rn cn sh sh2 xn yn bins on mx X Y n f t) kd ep (if kd = 2 then (cn : Int) else kh) n Y f t

set_option maxRecDepth 100000 in
set_option maxHeartbeats 1600000 in
theorem columns_A {kd sa sb : Int} {bar : Bool} {ep ef kw kh : Int} {wa : Option Addr} {wn wc : Nat} {ra : Option Addr} {rn rc : Nat} {ca : Option Addr} {cn cc : Nat} {sh sh2 : Int} {xa : Option Addr} {xn xc : Nat} {ya : Option Addr} {yn yc : Nat} {bins : Int} {oa : Option Addr} {on oc : Nat} {mx : Int} {A : Array Value} (hA : A = #[.int .i64 kd, .int .i64 sa, .int .i64 sb, .bool bar, .int .i64 ep, .int .i64 ef, .int .i64 kw, .int .i64 kh, .slice wa wn wc, .slice ra rn rc, .slice ca cn cc, .int .i64 sh, .int .i64 sh2, .slice xa xn xc, .slice ya yn yc, .int .i64 bins, .slice oa on oc, .int .i64 mx]) (X Y : Tbl) (n from' to' : Int) (W : World) (hx : Tps W xa xn xc X) (hy : Tps W ya yn yc Y) :
    Calls Try.prog 12 #[.agg A, .int .i64 n, .int .i64 from', .int .i64 to'] W fun e w' => ∃ v, e = .returned v ∧ Own W.heap.size w' v (stCol kd sb ep ef kw kh wn rn cn sh sh2 xn yn bins on mx X Y n from' to') ∧ Below W.heap.size W w' := by
  obtain ⟨B, hB⟩ : ∃ B, W.heap.size = B := ⟨_, rfl⟩
  have HI0 := hid (St.init hB)
  have HX := hid hx
  have HY := hid hy
  have HA := hid hA
  clear hx hy hA
  go_enter Try.func12, Try.ntmps12
  go_upto_region 1 with fail
  have H1 := hid (show St B W [.cells B A 33] [] (W.alloc (.cells A 33)) from (HI0.out.alloc A 33 hB))
  first | refine gen_code H1.out ?_ | refine gen_list H1.out ?_ | refine gen_calls H1.out ?_
  intro w2 hG
  clear H1
  have H1 := hid hG
  clear hG
  by_cases c3 : (kd : Int) = 2
  · obtain ⟨c3c, c3d⟩ : (kd : Int) ≤ 2 ∧ (2 : Int) ≤ kd := by omega
    have c3a : ((kd : Int) == (2)) = true := by simpa using c3
    have c3b : ((kd : Int) != (2)) = false := by simpa using c3
    have c3h := hid c3
    clear c3
    have z4 := H1.out.cell 0 rfl 6 (show A[6]? = some (.int .i64 kw) from by rw [HA.out]; rfl)
    have z5 := H1.out.cell 0 rfl 0 (show A[0]? = some (.int .i64 kd) from by rw [HA.out]; rfl)
    have z6 := H1.out.cell 0 rfl 9 (show A[9]? = some (.slice ra rn rc) from by rw [HA.out]; rfl)
    have z7 := H1.out.loadStg 0 rfl (by rw [HA.out]; rfl)
    have z8 := H1.out.cell 0 rfl 13 (show A[13]? = some (.slice xa xn xc) from by rw [HA.out]; rfl)
    go_wp2_with (refine loadArm z7 (by rfl) (by rfl) ?_)
    clear z4 z5 z6 z7 z8
    refine (needed_any HA.out X Y _ _ _ _ xa xn xc X _ (H1.out.oldTps HX.out) (H1.out.oldTps HY.out) (H1.out.oldTps HX.out) (fun hf hk => by have h9 := fine_side hf; have := c3h.out; have h1 := h9.1; have h2 := h9.2.1; omega) (fun hf hk => ((fine_side hf).2.2 hk).1)).mono ?_
    rintro e w9 ⟨v10, rfl, ho, hb⟩
    have H11 := hid (H1.out.grow hb ho)
    obtain ⟨v10a, v10c, rfl, _⟩ := ho.slc
    clear ho hb
    obtain ⟨L9, hL9⟩ : ∃ xx', ndL (stFine kd sb ep ef kw kh wn rn cn sh sh2 xn yn bins on mx X Y n from' to') kd ep (rn : Int) n X from' to' = xx' := ⟨_, rfl⟩
    rw [hL9] at H11 ⊢
    have HLL9 := hid hL9
    clear hL9
    go_wp2_with fail
    go_ret
    exact ⟨_, rfl, by (try rw [hB]); rw [show stCol kd sb ep ef kw kh wn rn cn sh sh2 xn yn bins on mx X Y n from' to' = L9 from by rw [← HLL9.out]; unfold stCol; have := c3h.out; first | (rw [if_pos (by omega)]; done) | (rw [if_neg (by omega)]; done)]; exact H11.out.own 0 rfl, by first | exact H11.out.below | exact H11.out.below'⟩
  · have c3a : ((kd : Int) == (2)) = false := by simpa using c3
    have c3b : ((kd : Int) != (2)) = true := by simpa using c3
    have c3h := hid c3
    clear c3
    have z12 := H1.out.cell 0 rfl 6 (show A[6]? = some (.int .i64 kw) from by rw [HA.out]; rfl)
    have z13 := H1.out.cell 0 rfl 0 (show A[0]? = some (.int .i64 kd) from by rw [HA.out]; rfl)
    have z14 := H1.out.loadStg 0 rfl (by rw [HA.out]; rfl)
    have z15 := H1.out.cell 0 rfl 13 (show A[13]? = some (.slice xa xn xc) from by rw [HA.out]; rfl)
    go_wp2_with (refine loadArm z14 (by rfl) (by rfl) ?_)
    clear z12 z13 z14 z15
    refine (needed_any HA.out X Y _ _ _ _ xa xn xc X _ (H1.out.oldTps HX.out) (H1.out.oldTps HY.out) (H1.out.oldTps HX.out) (fun hf hk => by have h9 := fine_side hf; have := c3h.out; have h1 := h9.1; have h2 := h9.2.1; omega) (fun hf hk => ((fine_side hf).2.2 hk).1)).mono ?_
    rintro e w16 ⟨v17, rfl, ho, hb⟩
    have H18 := hid (H1.out.grow hb ho)
    obtain ⟨v17a, v17c, rfl, _⟩ := ho.slc
    clear ho hb
    obtain ⟨L9, hL9⟩ : ∃ xx', ndL (stFine kd sb ep ef kw kh wn rn cn sh sh2 xn yn bins on mx X Y n from' to') kd ep kw n X from' to' = xx' := ⟨_, rfl⟩
    rw [hL9] at H18 ⊢
    have HLL9 := hid hL9
    clear hL9
    go_wp2_with fail
    go_ret
    exact ⟨_, rfl, by (try rw [hB]); rw [show stCol kd sb ep ef kw kh wn rn cn sh sh2 xn yn bins on mx X Y n from' to' = L9 from by rw [← HLL9.out]; unfold stCol; have := c3h.out; first | (rw [if_pos (by omega)]; done) | (rw [if_neg (by omega)]; done)]; exact H18.out.own 0 rfl, by first | exact H18.out.below | exact H18.out.below'⟩

set_option maxRecDepth 100000 in
set_option maxHeartbeats 1600000 in
theorem rows_A {kd sa sb : Int} {bar : Bool} {ep ef kw kh : Int} {wa : Option Addr} {wn wc : Nat} {ra : Option Addr} {rn rc : Nat} {ca : Option Addr} {cn cc : Nat} {sh sh2 : Int} {xa : Option Addr} {xn xc : Nat} {ya : Option Addr} {yn yc : Nat} {bins : Int} {oa : Option Addr} {on oc : Nat} {mx : Int} {A : Array Value} (hA : A = #[.int .i64 kd, .int .i64 sa, .int .i64 sb, .bool bar, .int .i64 ep, .int .i64 ef, .int .i64 kw, .int .i64 kh, .slice wa wn wc, .slice ra rn rc, .slice ca cn cc, .int .i64 sh, .int .i64 sh2, .slice xa xn xc, .slice ya yn yc, .int .i64 bins, .slice oa on oc, .int .i64 mx]) (X Y : Tbl) (n from' to' : Int) (W : World) (hx : Tps W xa xn xc X) (hy : Tps W ya yn yc Y) :
    Calls Try.prog 14 #[.agg A, .int .i64 n, .int .i64 from', .int .i64 to'] W fun e w' => ∃ v, e = .returned v ∧ Own W.heap.size w' v (stRow kd sb ep ef kw kh wn rn cn sh sh2 xn yn bins on mx X Y n from' to') ∧ Below W.heap.size W w' := by
  obtain ⟨B, hB⟩ : ∃ B, W.heap.size = B := ⟨_, rfl⟩
  have HI0 := hid (St.init hB)
  have HX := hid hx
  have HY := hid hy
  have HA := hid hA
  clear hx hy hA
  go_enter Try.func14, Try.ntmps14
  go_upto_region 1 with fail
  have H19 := hid (show St B W [.cells B A 33] [] (W.alloc (.cells A 33)) from (HI0.out.alloc A 33 hB))
  first | refine gen_code H19.out ?_ | refine gen_list H19.out ?_ | refine gen_calls H19.out ?_
  intro w20 hG
  clear H19
  have H19 := hid hG
  clear hG
  by_cases c21 : (kd : Int) = 2
  · obtain ⟨c21c, c21d⟩ : (kd : Int) ≤ 2 ∧ (2 : Int) ≤ kd := by omega
    have c21a : ((kd : Int) == (2)) = true := by simpa using c21
    have c21b : ((kd : Int) != (2)) = false := by simpa using c21
    have c21h := hid c21
    clear c21
    have z22 := H19.out.cell 0 rfl 7 (show A[7]? = some (.int .i64 kh) from by rw [HA.out]; rfl)
    have z23 := H19.out.cell 0 rfl 0 (show A[0]? = some (.int .i64 kd) from by rw [HA.out]; rfl)
    have z24 := H19.out.cell 0 rfl 10 (show A[10]? = some (.slice ca cn cc) from by rw [HA.out]; rfl)
    have z25 := H19.out.loadStg 0 rfl (by rw [HA.out]; rfl)
    have z26 := H19.out.cell 0 rfl 14 (show A[14]? = some (.slice ya yn yc) from by rw [HA.out]; rfl)
    go_wp2_with (refine loadArm z25 (by rfl) (by rfl) ?_)
    clear z22 z23 z24 z25 z26
    refine (needed_any HA.out X Y _ _ _ _ ya yn yc Y _ (H19.out.oldTps HX.out) (H19.out.oldTps HY.out) (H19.out.oldTps HY.out) (fun hf hk => by have h9 := fine_side hf; have := c21h.out; have h1 := h9.1; have h2 := h9.2.1; omega) (fun hf hk => ((fine_side hf).2.2 hk).2)).mono ?_
    rintro e w27 ⟨v28, rfl, ho, hb⟩
    have H29 := hid (H19.out.grow hb ho)
    obtain ⟨v28a, v28c, rfl, _⟩ := ho.slc
    clear ho hb
    obtain ⟨L9, hL9⟩ : ∃ xx', ndL (stFine kd sb ep ef kw kh wn rn cn sh sh2 xn yn bins on mx X Y n from' to') kd ep (cn : Int) n Y from' to' = xx' := ⟨_, rfl⟩
    rw [hL9] at H29 ⊢
    have HLL9 := hid hL9
    clear hL9
    go_wp2_with fail
    go_ret
    exact ⟨_, rfl, by (try rw [hB]); rw [show stRow kd sb ep ef kw kh wn rn cn sh sh2 xn yn bins on mx X Y n from' to' = L9 from by rw [← HLL9.out]; unfold stRow; have := c21h.out; first | (rw [if_pos (by omega)]; done) | (rw [if_neg (by omega)]; done)]; exact H29.out.own 0 rfl, by first | exact H29.out.below | exact H29.out.below'⟩
  · have c21a : ((kd : Int) == (2)) = false := by simpa using c21
    have c21b : ((kd : Int) != (2)) = true := by simpa using c21
    have c21h := hid c21
    clear c21
    have z30 := H19.out.cell 0 rfl 7 (show A[7]? = some (.int .i64 kh) from by rw [HA.out]; rfl)
    have z31 := H19.out.cell 0 rfl 0 (show A[0]? = some (.int .i64 kd) from by rw [HA.out]; rfl)
    have z32 := H19.out.loadStg 0 rfl (by rw [HA.out]; rfl)
    have z33 := H19.out.cell 0 rfl 14 (show A[14]? = some (.slice ya yn yc) from by rw [HA.out]; rfl)
    go_wp2_with (refine loadArm z32 (by rfl) (by rfl) ?_)
    clear z30 z31 z32 z33
    refine (needed_any HA.out X Y _ _ _ _ ya yn yc Y _ (H19.out.oldTps HX.out) (H19.out.oldTps HY.out) (H19.out.oldTps HY.out) (fun hf hk => by have h9 := fine_side hf; have := c21h.out; have h1 := h9.1; have h2 := h9.2.1; omega) (fun hf hk => ((fine_side hf).2.2 hk).2)).mono ?_
    rintro e w34 ⟨v35, rfl, ho, hb⟩
    have H36 := hid (H19.out.grow hb ho)
    obtain ⟨v35a, v35c, rfl, _⟩ := ho.slc
    clear ho hb
    obtain ⟨L9, hL9⟩ : ∃ xx', ndL (stFine kd sb ep ef kw kh wn rn cn sh sh2 xn yn bins on mx X Y n from' to') kd ep kh n Y from' to' = xx' := ⟨_, rfl⟩
    rw [hL9] at H36 ⊢
    have HLL9 := hid hL9
    clear hL9
    go_wp2_with fail
    go_ret
    exact ⟨_, rfl, by (try rw [hB]); rw [show stRow kd sb ep ef kw kh wn rn cn sh sh2 xn yn bins on mx X Y n from' to' = L9 from by rw [← HLL9.out]; unfold stRow; have := c21h.out; first | (rw [if_pos (by omega)]; done) | (rw [if_neg (by omega)]; done)]; exact H36.out.own 0 rfl, by first | exact H36.out.below | exact H36.out.below'⟩
end Go.Proofs.Ytlidacfokgdlgaa
