/-
  Contracts: the needed columns and rows of a stage, in the program. Contracts: the needed coordinates of a stage in one direction, in the reference. Contracts: the needed columns and rows of a stage, in the reference. The needed tiles of a stage: the plain law. Contracts: whether a list has a number of a range, in the program and in the reference; whether it has a number.
-/
import Derived.Test.YtlidacfokgdlgaaStNd2
import Derived.Test.YtlidacfokgdlgaaKI
import Derived.Test.YtlidacfokgdlgaaKA
namespace Go.Proofs.Ytlidacfokgdlgaa
section
open Go.RowKit
attribute [local go_sem ↓] Go.wp_at_zero Go.wp_at_succ
set_option linter.unusedVariables false
set_option linter.unusedSimpArgs false

theorem fine_side {kd sb ep ef kw kh : Int} {wn rn cn : Nat} {sh sh2 : Int} {xn yn : Nat} {bins : Int} {on : Nat} {mx : Int} {X Y : Tbl} {n f t : Int} (h : stFine kd sb ep ef kw kh wn rn cn sh sh2 xn yn bins on mx X Y n f t = true) : (kd = 1 → 1 ≤ kw ∧ kw ≤ 9 ∧ 1 ≤ kh ∧ kh ≤ 9) ∧ (kd = 2 → 1 ≤ (rn : Int) ∧ (rn : Int) ≤ 9 ∧ 1 ≤ (cn : Int) ∧ (cn : Int) ≤ 9) ∧ (kd = 3 → tapsOk X = true ∧ tapsOk Y = true) := by
  unfold stFine at h
  simp only [Bool.and_eq_true] at h
  obtain ⟨_, _, h⟩ := h
  refine ⟨fun k => ?_, fun k => ?_, fun k => ?_⟩
  · subst k; unfold stAcc sideOk at h; rw [if_pos rfl] at h; simp at h; omega
  · subst k; unfold stAcc sideOk at h; rw [if_neg (by decide), if_pos rfl] at h; simp at h; omega
  · subst k; unfold stAcc at h; rw [if_neg (by decide), if_neg (by decide), if_pos rfl] at h; simpa using h
def stCol (kd sb ep ef kw kh : Int) (wn rn cn : Nat) (sh sh2 : Int) (xn yn : Nat) (bins : Int) (on : Nat) (mx : Int) (X Y : Tbl) (n f t : Int) : List Int := ndL (stFine kd sb ep ef kw kh wn rn cn sh sh2 xn yn bins on mx X Y n f t) kd ep (if kd = 2 then (rn : Int) else kw) n X f t
def stRow (kd sb ep ef kw kh : Int) (wn rn cn : Nat) (sh sh2 : Int) (xn yn : Nat) (bins : Int) (on : Nat) (mx : Int) (X Y : Tbl) (n f t : Int) : List Int := ndL (stFine kd sb ep ef kw kh wn rn cn sh sh2 xn yn bins on mx X Y n f t) kd ep (if kd = 2 then (cn : Int) else kh) n Y f t

set_option maxRecDepth 100000 in
set_option maxHeartbeats 1600000 in
theorem columns_A {kd sa sb : Int} {bar : Bool} {ep ef kw kh : Int} {wa : Option Addr} {wn wc : Nat} {ra : Option Addr} {rn rc : Nat} {ca : Option Addr} {cn cc : Nat} {sh sh2 : Int} {xa : Option Addr} {xn xc : Nat} {ya : Option Addr} {yn yc : Nat} {bins : Int} {oa : Option Addr} {on oc : Nat} {mx : Int} {A : Array Value} (hA : A = #[.int .i64 kd, .int .i64 sa, .int .i64 sb, .bool bar, .int .i64 ep, .int .i64 ef, .int .i64 kw, .int .i64 kh, .slice wa wn wc, .slice ra rn rc, .slice ca cn cc, .int .i64 sh, .int .i64 sh2, .slice xa xn xc, .slice ya yn yc, .int .i64 bins, .slice oa on oc, .int .i64 mx]) (X Y : Tbl) (n from' to' : Int) (W : World) (hx : Tps W xa xn xc X) (hy : Tps W ya yn yc Y) :
    Calls Try.prog 12 #[.agg A, .int .i64 n, .int .i64 from', .int .i64 to'] W fun e w' => ∃ v, e = .returned v ∧ Own W.heap.size w' v (stCol kd sb ep ef kw kh wn rn cn sh sh2 xn yn bins on mx X Y n from' to') ∧ Below W.heap.size W w' := by
  obtain ⟨B, hB⟩ : ∃ B, W.heap.size = B := ⟨_, rfl⟩
  have HI0 := hid (St.init hB)
  have HX := hid hx
  have HY := hid hy
  have HA := hid hA
  clear hx hy hA
  go_enter Try.func12, Try.ntmps12
  go_upto_region 1 with fail
  have H1 := hid (show St B W [.cells B A 33] [] (W.alloc (.cells A 33)) from (HI0.out.alloc A 33 hB))
  first | refine gen_code H1.out ?_ | refine gen_list H1.out ?_ | refine gen_calls H1.out ?_
  intro w2 hG
  clear H1
  have H1 := hid hG
  clear hG
  by_cases c3 : (kd : Int) = 2
  · obtain ⟨c3c, c3d⟩ : (kd : Int) ≤ 2 ∧ (2 : Int) ≤ kd := by omega
    have c3a : ((kd : Int) == (2)) = true := by simpa using c3
    have c3b : ((kd : Int) != (2)) = false := by simpa using c3
    have c3h := hid c3
    clear c3
    have z4 := H1.out.cell 0 rfl 6 (show A[6]? = some (.int .i64 kw) from by rw [HA.out]; rfl)
    have z5 := H1.out.cell 0 rfl 0 (show A[0]? = some (.int .i64 kd) from by rw [HA.out]; rfl)
    have z6 := H1.out.cell 0 rfl 9 (show A[9]? = some (.slice ra rn rc) from by rw [HA.out]; rfl)
    have z7 := H1.out.loadStg 0 rfl (by rw [HA.out]; rfl)
    have z8 := H1.out.cell 0 rfl 13 (show A[13]? = some (.slice xa xn xc) from by rw [HA.out]; rfl)
    go_wp2_with (refine loadArm z7 (by rfl) (by rfl) ?_)
    clear z4 z5 z6 z7 z8
    refine (needed_any HA.out X Y _ _ _ _ xa xn xc X _ (H1.out.oldTps HX.out) (H1.out.oldTps HY.out) (H1.out.oldTps HX.out) (fun hf hk => by have h9 := fine_side hf; have := c3h.out; have h1 := h9.1; have h2 := h9.2.1; omega) (fun hf hk => ((fine_side hf).2.2 hk).1)).mono ?_
    rintro e w9 ⟨v10, rfl, ho, hb⟩
    have H11 := hid (H1.out.grow hb ho)
    obtain ⟨v10a, v10c, rfl, _⟩ := ho.slc
    clear ho hb
    obtain ⟨L9, hL9⟩ : ∃ xx', ndL (stFine kd sb ep ef kw kh wn rn cn sh sh2 xn yn bins on mx X Y n from' to') kd ep (rn : Int) n X from' to' = xx' := ⟨_, rfl⟩
    rw [hL9] at H11 ⊢
    have HLL9 := hid hL9
    clear hL9
    go_wp2_with fail
    go_ret
    exact ⟨_, rfl, by (try rw [hB]); rw [show stCol kd sb ep ef kw kh wn rn cn sh sh2 xn yn bins on mx X Y n from' to' = L9 from by rw [← HLL9.out]; unfold stCol; have := c3h.out; first | (rw [if_pos (by omega)]; done) | (rw [if_neg (by omega)]; done)]; exact H11.out.own 0 rfl, by first | exact H11.out.below | exact H11.out.below'⟩
  · have c3a : ((kd : Int) == (2)) = false := by simpa using c3
    have c3b : ((kd : Int) != (2)) = true := by simpa using c3
    have c3h := hid c3
    clear c3
    have z12 := H1.out.cell 0 rfl 6 (show A[6]? = some (.int .i64 kw) from by rw [HA.out]; rfl)
    have z13 := H1.out.cell 0 rfl 0 (show A[0]? = some (.int .i64 kd) from by rw [HA.out]; rfl)
    have z14 := H1.out.loadStg 0 rfl (by rw [HA.out]; rfl)
    have z15 := H1.out.cell 0 rfl 13 (show A[13]? = some (.slice xa xn xc) from by rw [HA.out]; rfl)
    go_wp2_with (refine loadArm z14 (by rfl) (by rfl) ?_)
    clear z12 z13 z14 z15
    refine (needed_any HA.out X Y _ _ _ _ xa xn xc X _ (H1.out.oldTps HX.out) (H1.out.oldTps HY.out) (H1.out.oldTps HX.out) (fun hf hk => by have h9 := fine_side hf; have := c3h.out; have h1 := h9.1; have h2 := h9.2.1; omega) (fun hf hk => ((fine_side hf).2.2 hk).1)).mono ?_
    rintro e w16 ⟨v17, rfl, ho, hb⟩
    have H18 := hid (H1.out.grow hb ho)
    obtain ⟨v17a, v17c, rfl, _⟩ := ho.slc
    clear ho hb
    obtain ⟨L9, hL9⟩ : ∃ xx', ndL (stFine kd sb ep ef kw kh wn rn cn sh sh2 xn yn bins on mx X Y n from' to') kd ep kw n X from' to' = xx' := ⟨_, rfl⟩
    rw [hL9] at H18 ⊢
    have HLL9 := hid hL9
    clear hL9
    go_wp2_with fail
    go_ret
    exact ⟨_, rfl, by (try rw [hB]); rw [show stCol kd sb ep ef kw kh wn rn cn sh sh2 xn yn bins on mx X Y n from' to' = L9 from by rw [← HLL9.out]; unfold stCol; have := c3h.out; first | (rw [if_pos (by omega)]; done) | (rw [if_neg (by omega)]; done)]; exact H18.out.own 0 rfl, by first | exact H18.out.below | exact H18.out.below'⟩

set_option maxRecDepth 100000 in
set_option maxHeartbeats 1600000 in
theorem rows_A {kd sa sb : Int} {bar : Bool} {ep ef kw kh : Int} {wa : Option Addr} {wn wc : Nat} {ra : Option Addr} {rn rc : Nat} {ca : Option Addr} {cn cc : Nat} {sh sh2 : Int} {xa : Option Addr} {xn xc : Nat} {ya : Option Addr} {yn yc : Nat} {bins : Int} {oa : Option Addr} {on oc : Nat} {mx : Int} {A : Array Value} (hA : A = #[.int .i64 kd, .int .i64 sa, .int .i64 sb, .bool bar, .int .i64 ep, .int .i64 ef, .int .i64 kw, .int .i64 kh, .slice wa wn wc, .slice ra rn rc, .slice ca cn cc, .int .i64 sh, .int .i64 sh2, .slice xa xn xc, .slice ya yn yc, .int .i64 bins, .slice oa on oc, .int .i64 mx]) (X Y : Tbl) (n from' to' : Int) (W : World) (hx : Tps W xa xn xc X) (hy : Tps W ya yn yc Y) :
    Calls Try.prog 14 #[.agg A, .int .i64 n, .int .i64 from', .int .i64 to'] W fun e w' => ∃ v, e = .returned v ∧ Own W.heap.size w' v (stRow kd sb ep ef kw kh wn rn cn sh sh2 xn yn bins on mx X Y n from' to') ∧ Below W.heap.size W w' := by
  obtain ⟨B, hB⟩ : ∃ B, W.heap.size = B := ⟨_, rfl⟩
  have HI0 := hid (St.init hB)
  have HX := hid hx
  have HY := hid hy
  have HA := hid hA
  clear hx hy hA
  go_enter Try.func14, Try.ntmps14
  go_upto_region 1 with fail
  have H19 := hid (show St B W [.cells B A 33] [] (W.alloc (.cells A 33)) from (HI0.out.alloc A 33 hB))
  first | refine gen_code H19.out ?_ | refine gen_list H19.out ?_ | refine gen_calls H19.out ?_
  intro w20 hG
  clear H19
  have H19 := hid hG
  clear hG
  by_cases c21 : (kd : Int) = 2
  · obtain ⟨c21c, c21d⟩ : (kd : Int) ≤ 2 ∧ (2 : Int) ≤ kd := by omega
    have c21a : ((kd : Int) == (2)) = true := by simpa using c21
    have c21b : ((kd : Int) != (2)) = false := by simpa using c21
    have c21h := hid c21
    clear c21
    have z22 := H19.out.cell 0 rfl 7 (show A[7]? = some (.int .i64 kh) from by rw [HA.out]; rfl)
    have z23 := H19.out.cell 0 rfl 0 (show A[0]? = some (.int .i64 kd) from by rw [HA.out]; rfl)
    have z24 := H19.out.cell 0 rfl 10 (show A[10]? = some (.slice ca cn cc) from by rw [HA.out]; rfl)
    have z25 := H19.out.loadStg 0 rfl (by rw [HA.out]; rfl)
    have z26 := H19.out.cell 0 rfl 14 (show A[14]? = some (.slice ya yn yc) from by rw [HA.out]; rfl)
    go_wp2_with (refine loadArm z25 (by rfl) (by rfl) ?_)
    clear z22 z23 z24 z25 z26
    refine (needed_any HA.out X Y _ _ _ _ ya yn yc Y _ (H19.out.oldTps HX.out) (H19.out.oldTps HY.out) (H19.out.oldTps HY.out) (fun hf hk => by have h9 := fine_side hf; have := c21h.out; have h1 := h9.1; have h2 := h9.2.1; omega) (fun hf hk => ((fine_side hf).2.2 hk).2)).mono ?_
    rintro e w27 ⟨v28, rfl, ho, hb⟩
    have H29 := hid (H19.out.grow hb ho)
    obtain ⟨v28a, v28c, rfl, _⟩ := ho.slc
    clear ho hb
    obtain ⟨L9, hL9⟩ : ∃ xx', ndL (stFine kd sb ep ef kw kh wn rn cn sh sh2 xn yn bins on mx X Y n from' to') kd ep (cn : Int) n Y from' to' = xx' := ⟨_, rfl⟩
    rw [hL9] at H29 ⊢
    have HLL9 := hid hL9
    clear hL9
    go_wp2_with fail
    go_ret
    exact ⟨_, rfl, by (try rw [hB]); rw [show stRow kd sb ep ef kw kh wn rn cn sh sh2 xn yn bins on mx X Y n from' to' = L9 from by rw [← HLL9.out]; unfold stRow; have := c21h.out; first | (rw [if_pos (by omega)]; done) | (rw [if_neg (by omega)]; done)]; exact H29.out.own 0 rfl, by first | exact H29.out.below | exact H29.out.below'⟩
  · have c21a : ((kd : Int) == (2)) = false := by simpa using c21
    have c21b : ((kd : Int) != (2)) = true := by simpa using c21
    have c21h := hid c21
    clear c21
    have z30 := H19.out.cell 0 rfl 7 (show A[7]? = some (.int .i64 kh) from by rw [HA.out]; rfl)
    have z31 := H19.out.cell 0 rfl 0 (show A[0]? = some (.int .i64 kd) from by rw [HA.out]; rfl)
    have z32 := H19.out.loadStg 0 rfl (by rw [HA.out]; rfl)
    have z33 := H19.out.cell 0 rfl 14 (show A[14]? = some (.slice ya yn yc) from by rw [HA.out]; rfl)
    go_wp2_with (refine loadArm z32 (by rfl) (by rfl) ?_)
    clear z30 z31 z32 z33
    refine (needed_any HA.out X Y _ _ _ _ ya yn yc Y _ (H19.out.oldTps HX.out) (H19.out.oldTps HY.out) (H19.out.oldTps HY.out) (fun hf hk => by have h9 := fine_side hf; have := c21h.out; have h1 := h9.1; have h2 := h9.2.1; omega) (fun hf hk => ((fine_side hf).2.2 hk).2)).mono ?_
    rintro e w34 ⟨v35, rfl, ho, hb⟩
    have H36 := hid (H19.out.grow hb ho)
    obtain ⟨v35a, v35c, rfl, _⟩ := ho.slc
    clear ho hb
    obtain ⟨L9, hL9⟩ : ∃ xx', ndL (stFine kd sb ep ef kw kh wn rn cn sh sh2 xn yn bins on mx X Y n from' to') kd ep kh n Y from' to' = xx' := ⟨_, rfl⟩
    rw [hL9] at H36 ⊢
    have HLL9 := hid hL9
    clear hL9
    go_wp2_with fail
    go_ret
    exact ⟨_, rfl, by (try rw [hB]); rw [show stRow kd sb ep ef kw kh wn rn cn sh sh2 xn yn bins on mx X Y n from' to' = L9 from by rw [← HLL9.out]; unfold stRow; have := c21h.out; first | (rw [if_pos (by omega)]; done) | (rw [if_neg (by omega)]; done)]; exact H36.out.own 0 rfl, by first | exact H36.out.below | exact H36.out.below'⟩
end

section
open Go.RowKit
attribute [local go_sem ↓] Go.wp_at_zero Go.wp_at_succ
set_option linter.unusedVariables false
set_option linter.unusedSimpArgs false

set_option maxRecDepth 100000 in
set_option maxHeartbeats 6400000 in
theorem rneeded_any {kd sa sb : Int} {bar : Bool} {ep ef kw kh : Int} {wa : Option Addr} {wn wc : Nat} {ra : Option Addr} {rn rc : Nat} {ca : Option Addr} {cn cc : Nat} {sh sh2 : Int} {xa : Option Addr} {xn xc : Nat} {ya : Option Addr} {yn yc : Nat} {bins : Int} {oa : Option Addr} {on oc : Nat} {mx : Int} {A : Array Value} (hA : A = #[.int .i64 kd, .int .i64 sa, .int .i64 sb, .bool bar, .int .i64 ep, .int .i64 ef, .int .i64 kw, .int .i64 kh, .slice wa wn wc, .slice ra rn rc, .slice ca cn cc, .int .i64 sh, .int .i64 sh2, .slice xa xn xc, .slice ya yn yc, .int .i64 bins, .slice oa on oc, .int .i64 mx]) (X Y : Tbl) (n from' to' side : Int) (ta : Option Addr) (tm tc : Nat) (T : Tbl) (W : World) (hx : Tps W xa xn xc X) (hy : Tps W ya yn yc Y) (ht : Tps W ta tm tc T)
    (hsd : stFine kd sb ep ef kw kh wn rn cn sh sh2 xn yn bins on mx X Y n from' to' = true → kd = 1 ∨ kd = 2 → 1 ≤ side ∧ side ≤ 9) (hT : stFine kd sb ep ef kw kh wn rn cn sh sh2 xn yn bins on mx X Y n from' to' = true → kd = 3 → tapsOk T = true) :
    Calls Try.prog 30 #[.agg A, .int .i64 n, .int .i64 from', .int .i64 to', .int .i64 side, .slice ta tm tc] W fun e w' => ∃ v, e = .returned v ∧ Own W.heap.size w' v (ndL (stFine kd sb ep ef kw kh wn rn cn sh sh2 xn yn bins on mx X Y n from' to') kd ep side n T from' to') ∧ Below W.heap.size W w' := by
  obtain ⟨B, hB⟩ : ∃ B, W.heap.size = B := ⟨_, rfl⟩
  have HI0 := hid (St.init hB)
  have HX := hid hx
  have HA := hid hA
  have HY := hid hy
  have HTT := hid ht
  have HSD := hid hsd
  have HTO := hid hT
  clear hx hy ht hsd hT hA
  go_enter Try.func30, Try.ntmps30
  go_upto_region 1 with fail
  have H43 := hid (show St B W [.cells B A 33] [] (W.alloc (.cells A 33)) from (HI0.out.alloc A 33 hB))
  first | refine gen_code H43.out ?_ | refine gen_list H43.out ?_ | refine gen_calls H43.out ?_
  intro w44 hG
  clear H43
  have H43 := hid hG
  clear hG
  have z45 := H43.out.loadStg 0 rfl (by rw [HA.out]; rfl)
  go_wp2_with (refine loadArm z45 (by rfl) (by rfl) ?_)
  clear z45
  refine (rfine_A HA.out _ _ _ X Y _ (H43.out.oldTps HX.out) (H43.out.oldTps HY.out)).mono ?_
  rintro e w46 ⟨rfl, hb⟩
  have H47 := hid (H43.out.call hb)
  clear hb
  obtain ⟨b48, hb48⟩ : ∃ xx', stFine kd sb ep ef kw kh wn rn cn sh sh2 xn yn bins on mx X Y n from' to' = xx' := ⟨_, rfl⟩
  rw [hb48]
  have HNb48 := hid hb48
  clear hb48
  cases b48 with
  | true =>
    go_upto_region 3 with fail
    have HF := hid HNb48.out
    obtain ⟨n1, n2, f1, f2, t1, t2, k1, k6⟩ := fine_facts HF.out
    have HSD2 := hid (HSD.out HF.out)
    have HTO2 := hid (HTO.out HF.out)
    obtain ⟨pol, hpol⟩ : ∃ z, stPol kd ep = z := ⟨_, rfl⟩
    have HPOL := hid hpol
    clear hpol
    have z49 := H47.out.cell 0 rfl 4 (show A[4]? = some (.int .i64 ep) from by rw [HA.out]; rfl)
    have z50 := H47.out.cell 0 rfl 0 (show A[0]? = some (.int .i64 kd) from by rw [HA.out]; rfl)
    go_upto_if 34 with fail
    clear z49 z50
    go_cut [13] (fun s wx => s = .int .i64 pol ∧ St B W [.cells B A 33] [] wx)
    case first =>
      by_cases c51 : (3 : Int) < kd
      · skip
        go_wp2_with fail
        go_meet
        exact ⟨by first | rfl | (rw [← HPOL.out]; unfold stPol; first | (rw [if_pos (by omega)]; done) | (rw [if_neg (by omega)]; done)), H47.out⟩
      · skip
        go_wp2_with fail
        go_meet
        exact ⟨by first | rfl | (rw [← HPOL.out]; unfold stPol; first | (rw [if_pos (by omega)]; done) | (rw [if_neg (by omega)]; done)), H47.out⟩
    case rest =>
      obtain ⟨rfl, hst⟩ := hcut
      obtain ⟨u52, rfl⟩ : ∃ u52 : World, u52 = wc := ⟨_, rfl⟩
      have H53 := hid hst
      clear hst
      obtain ⟨NN, hNN⟩ : ∃ m : Nat, n = m := ⟨n.toNat, by omega⟩
      subst hNN
      obtain ⟨DA, hDA⟩ : ∃ L, u52.heap.size = L := ⟨_, rfl⟩
      have hBDA : B ≤ DA := by have := H53.out.size; omega
      go_upto_region 7 with (at_make; refine make_bool rfl _ _ rfl DA _ _ NN rfl rfl (by first | rfl | omega) (by first | rfl | omega) (by omega) (by omega) ?_; intro w54 ho hb; rw [hDA] at ho ⊢; have H55 := hid (H53.out.madeB hDA (ownsRow_base ho hBDA) hb); clear ho hb hDA)
      go_wp2_with fail
      obtain ⟨DD, hDD⟩ : ∃ D : Nat, (to' - from').toNat = D := ⟨_, rfl⟩
      have hd1 : to' - from' ≤ (DD : Int) := by omega
      have hd2 : DD = 0 ∨ (DD : Int) ≤ to' - from' := by omega
      have hd3 : DD ≤ 128 := by omega
      have HDD := hid hDD
      clear hDD
      go_loopw [15] (fun i wr => ∃ (y : Int) (d : Nat), d ≤ DD ∧ y ≤ from' + d ∧ from' + d ≤ y ∧ i = .int .i64 y ∧ St B W [.arr (4) 1 (.slice (some ⟨DA, 0, none⟩) NN NN) NN (bvs NN (fun m => mkTo kd side NN pol T from' m d)), .cells B A 33] [] wr) (fun i _ => (to' - intOf i).toNat)
      case atStart => exact ⟨from', 0, by omega, by omega, by omega, rfl, H55.out⟩
      case round =>
        obtain ⟨y, d, hd, hy1, hy2, rfl, hst⟩ := hrel
        obtain ⟨u56, rfl⟩ : ∃ u56 : World, u56 = wr := ⟨_, rfl⟩
        have H57 := hid hst
        clear hst
        by_cases hyn : y < to'
        · skip
          have hyn' : (y : Int) < to' := by omega
          have z58 := H57.out.cell 1 rfl 0 (show A[0]? = some (.int .i64 kd) from by rw [HA.out]; rfl)
          go_wp2_with fail
          clear z58
          refine (rwindow_any _ _ _ _ _ _ T _ (H57.out.oldTps HTT.out) (by omega) HSD2.out).mono ?_
          rintro e w59 ⟨rfl, hb⟩
          have H60 := hid (H57.out.call hb)
          clear hb
          obtain ⟨ff1, ff2, cc1, cc2⟩ := sp_bd (kd := kd) (i := y) (side := side) (T := T) (by omega) HSD2.out HTO2.out
          obtain ⟨ff, hff⟩ : ∃ z, spF kd y side T = z := ⟨_, rfl⟩
          obtain ⟨cc, hcc9⟩ : ∃ z, spC kd y side T = z := ⟨_, rfl⟩
          rw [hff, hcc9]
          rw [hff] at ff1 ff2
          rw [hcc9] at cc1 cc2
          have HFF := hid hff
          obtain ⟨CC, hCC⟩ : ∃ m : Nat, cc = m := ⟨cc.toNat, by omega⟩
          subst hCC
          have HCC := hid hcc9
          clear hff hcc9
          go_wp2_with fail
          go_loopw [18] (fun i wr => ∃ (z : Int) (c : Nat), c ≤ CC ∧ z ≤ ff + c ∧ ff + c ≤ z ∧ i = .int .i64 z ∧ St B W [.arr (4) 1 (.slice (some ⟨DA, 0, none⟩) NN NN) NN (bvs NN (fun m => mkTo kd side NN pol T from' m d || mkIn NN pol ff m c)), .cells B A 33] [] wr) (fun i _ => (ff + CC - intOf i).toNat)
          case atStart => exact ⟨ff, 0, by omega, by omega, by omega, rfl, by simp only [mkIn, Bool.or_false]; exact H60.out.pick [0, 1] rfl (by decide)⟩
          case round =>
            obtain ⟨z, c, hc, hz1, hz2, rfl, hst⟩ := hrel
            obtain ⟨u61, rfl⟩ : ∃ u61 : World, u61 = wr := ⟨_, rfl⟩
            have H62 := hid hst
            clear hst
            by_cases hzn : z < ff + (CC : Int)
            · skip
              have hzn' : (z : Int) < ff + CC := by omega
              go_wp2_with fail
              refine (rindex_any _ _ _ _).mono ?_
              rintro e w63 ⟨rfl, hsw⟩
              have hsw2 : u61 = w63 := by first | exact hsw | exact hsw.symm
              clear hsw
              subst hsw2
              obtain ⟨ix, hix⟩ : ∃ xx', bIdx z (↑NN) pol = xx' := ⟨_, rfl⟩
              rw [hix]
              have HIX := hid hix
              clear hix
              obtain ⟨ox, hox⟩ : ∃ xx', bOk z (↑NN) pol = xx' := ⟨_, rfl⟩
              rw [hox]
              have HOX := hid hox
              clear hox
              cases ox with
              | true =>
                go_upto_region 16 with fail
                obtain ⟨b1, b2, b3, b4⟩ := bIdx_bd HOX.out
                rw [HIX.out] at b3 b4
                obtain ⟨IX, hIX⟩ : ∃ m : Nat, ix = m := ⟨ix.toNat, by omega⟩
                subst hIX
                have ix1 : IX < NN := by omega
                have ix2 : (IX : Int) < NN := by omega
                obtain ⟨z1, z2⟩ := H62.out.arrAt 0 rfl ix1 (bvs_get _ ix1)
                go_upto_region 13 with fail
                clear z1 z2
                have H64 := hid (H62.out.storeArr 0 rfl IX (.bool true))
                rw [bvs_set _ ix1] at H64
                simp only [List.set] at H64
                generalize World.setCell u61 _ _ = w65 at *
                have HNX := hid (show bvs NN (fun m => (mkTo kd side NN pol T from' m d || mkIn NN pol ff m c) || decide (m = IX)) = bvs NN (fun m => mkTo kd side NN pol T from' m d || mkIn NN pol ff m (c + 1)) from bvs_congr fun m => by simp only [mkIn]; rw [show ff + (c : Int) = z by omega, HOX.out, HIX.out, Bool.true_and, Bool.or_assoc, show decide ((IX : Int) = (m : Int)) = decide (m = IX) from decide_eq_decide.2 (by omega)])
                go_wp2_with fail
                go_roundw
                case rel => exact ⟨z + 1, c + 1, by omega, by omega, by omega, by go_num, by rw [← HNX.out]; exact H64.out⟩
                case measure => first | (simp [intOf]; omega) | (simp [intOf]; done)
              | false =>
                go_upto_region 13 with fail
                have HNX := hid (show bvs NN (fun m => mkTo kd side NN pol T from' m d || mkIn NN pol ff m c) = bvs NN (fun m => mkTo kd side NN pol T from' m d || mkIn NN pol ff m (c + 1)) from bvs_congr fun m => by simp only [mkIn]; rw [show ff + (c : Int) = z by omega, HOX.out]; simp)
                go_wp2_with fail
                go_roundw
                case rel => exact ⟨z + 1, c + 1, by omega, by omega, by omega, by go_num, by rw [← HNX.out]; exact H62.out⟩
                case measure => first | (simp [intOf]; omega) | (simp [intOf]; done)
            · skip
              have hzn' : ¬ ((z : Int) < ff + CC) := by omega
              have hcc : c = CC := by omega
              go_wp2_with fail
              go_roundw
              case rel => exact ⟨y + 1, d + 1, by omega, by omega, by omega, by go_num, by have h9 := H62.out; rw [hcc] at h9; rw [show (fun m => mkTo kd side NN pol T from' m (d + 1)) = (fun m => mkTo kd side NN pol T from' m d || mkIn NN pol ff m CC) from by funext m; show (mkTo kd side NN pol T from' m d || mkIn _ _ _ _ _) = _; rw [show from' + (d : Int) = y by omega, HFF.out, HCC.out]; simp]; exact h9⟩
              case measure => first | (simp [intOf]; omega) | (simp [intOf]; done)
        · skip
          have hyn' : ¬ ((y : Int) < to') := by omega
          have hde : d = DD := by omega
          have HDE := hid hde
          clear hde
          go_upto_region 17 with fail
          obtain ⟨P, hP⟩ : ∃ P : Nat → Bool, (fun m => mkTo kd side NN pol T from' m DD) = P := ⟨_, rfl⟩
          have HP := hid hP
          have H66 := hid (show St B W [.arr (4) 1 (.slice (some ⟨DA, 0, none⟩) NN NN) NN (bvs NN P), .cells B A 33] [] u56 from by have h9 := H57.out; rw [HDE.out, hP] at h9; exact h9)
          clear hP
          go_wp2_with fail
          have H67 := hid (show St B W [.own (.slice none 0 0) ([]), .arr (4) 1 (.slice (some ⟨DA, 0, none⟩) NN NN) NN (bvs NN P), .cells B A 33] [] u56 from H66.out.grow (Below.refl _ _) (Own.nil _ _))
          go_loopw [22, 21] (fun i v wr => ∃ (m : Nat) (oa9 : Option Addr) (ln cp : Nat), m ≤ NN ∧ i = .int .i64 m ∧ v = .slice oa9 ln cp ∧ (outL P m).length = ln ∧ St B W [.own (.slice oa9 ln cp) (outL P m), .arr (4) 1 (.slice (some ⟨DA, 0, none⟩) NN NN) NN (bvs NN P), .cells B A 33] [] wr) (fun i _ _ => NN - (intOf i).toNat)
          case atStart => exact ⟨0, none, 0, 0, by omega, rfl, rfl, rfl, H67.out⟩
          case round =>
            obtain ⟨m, oa9, ln, cp, hm, rfl, rfl, hln, hst⟩ := hrel
            obtain ⟨u68, rfl⟩ : ∃ u68 : World, u68 = wr := ⟨_, rfl⟩
            have H69 := hid hst
            clear hst
            have HLN := hid hln
            have hlm := outL_len P m
            rw [hln] at hlm
            clear hln
            try clear hld
            by_cases hmn : m < NN
            · skip
              have hmn' : (m : Int) < NN := by omega
              obtain ⟨pb, hpb⟩ : ∃ x, P m = x := ⟨_, rfl⟩
              have cz := (H69.out.arrAt 1 rfl hmn (bvs_get P hmn)).1
              rw [hpb] at cz
              have HPB := hid hpb
              clear hpb
              cases pb with
              | true =>
                obtain ⟨D70, hD70⟩ : ∃ D, u68.heap.size = D := ⟨_, rfl⟩
                have HOUT := hid (show outL P (m + 1) = outL P m ++ [(m : Int)] from by simp only [outL]; rw [if_pos HPB.out])
                have HLN2 := hid (show (outL P m ++ [(m : Int)]).length = ln + 1 from by rw [List.length_append, HLN.out]; rfl)
                have H71 := hid (show St B W [.cells D70 #[.int .i64 m] 3, .own (.slice oa9 ln cp) (outL P m), .arr (4) 1 (.slice (some ⟨DA, 0, none⟩) NN NN) NN (bvs NN P), .cells B A 33] [] (u68.alloc (.cells #[.int .i64 m] 3)) from (H69.out.alloc #[.int .i64 m] 3 hD70))
                go_upto_region 20 with (at_builtin; refine append_int rfl _ _ rfl B _ (outL P m) m D70 1 rfl rfl (H71.out.own 1 rfl) (H71.out.cell 0 rfl 0 rfl) (by have := HLN.out; omega) H71.out.size ?_; intro v73 w74 ho hg hv; have H72 := hid (H71.out.append 1 rfl ho hg hv); clear ho hg hv)
                clear H71
                obtain ⟨g9, c9, hva⟩ := (H72.out.own 1 rfl).pos (by rw [HLN2.out]; omega)
                rw [HLN2.out] at hva
                subst hva
                clear hD70
                go_wp2_with fail
                go_roundw
                case rel => exact ⟨m + 1, some ⟨g9, 0, none⟩, ln + 1, c9, by omega, by go_num, by go_num, by rw [HOUT.out]; exact HLN2.out, by rw [HOUT.out]; exact H72.out.pick [1, 2, 3] rfl (by decide)⟩
                case measure => first | (simp [intOf]; omega) | (simp [intOf]; done)
              | false =>
                have HOUT := hid (show outL P (m + 1) = outL P m from by simp only [outL]; rw [if_neg (by rw [HPB.out]; simp)])
                go_wp2_with fail
                go_roundw
                case rel => exact ⟨m + 1, oa9, ln, cp, by omega, by go_num, rfl, by rw [HOUT.out]; exact HLN.out, by rw [HOUT.out]; exact H69.out.pick [0, 1, 2] rfl (by decide)⟩
                case measure => first | (simp [intOf]; omega) | (simp [intOf]; done)
            · skip
              have hmn' : ¬ ((m : Int) < NN) := by omega
              have HME := hid (show m = NN by omega)
              go_wp2_with fail
              have hnl : ndL (stFine kd sb ep ef kw kh wn rn cn sh sh2 xn yn bins on mx X Y ↑NN from' to') kd ep side (↑NN) T from' to' = outL P m := by unfold ndL; rw [if_pos HF.out, HDD.out, HPOL.out, HME.out, Int.toNat_natCast]; exact congrFun (congrArg outL HP.out) NN
              go_ret
              exact ⟨_, rfl, by (try rw [hB]); rw [hnl]; exact H69.out.own 0 rfl, by first | exact H69.out.below | exact H69.out.below'⟩
  | false =>
    go_wp2_with fail
    have hnl : ndL (stFine kd sb ep ef kw kh wn rn cn sh sh2 xn yn bins on mx X Y n from' to') kd ep side n T from' to' = [] := by unfold ndL; rw [HNb48.out]; rfl
    go_ret
    exact ⟨_, rfl, by rw [hnl]; exact Own.nil _ _, by first | exact H47.out.below | exact H47.out.below'⟩
end

section
open Go.RowKit
attribute [local go_sem ↓] Go.wp_at_zero Go.wp_at_succ
set_option linter.unusedVariables false
set_option linter.unusedSimpArgs false

set_option maxRecDepth 100000 in
set_option maxHeartbeats 1600000 in
theorem rcolumns_A {kd sa sb : Int} {bar : Bool} {ep ef kw kh : Int} {wa : Option Addr} {wn wc : Nat} {ra : Option Addr} {rn rc : Nat} {ca : Option Addr} {cn cc : Nat} {sh sh2 : Int} {xa : Option Addr} {xn xc : Nat} {ya : Option Addr} {yn yc : Nat} {bins : Int} {oa : Option Addr} {on oc : Nat} {mx : Int} {A : Array Value} (hA : A = #[.int .i64 kd, .int .i64 sa, .int .i64 sb, .bool bar, .int .i64 ep, .int .i64 ef, .int .i64 kw, .int .i64 kh, .slice wa wn wc, .slice ra rn rc, .slice ca cn cc, .int .i64 sh, .int .i64 sh2, .slice xa xn xc, .slice ya yn yc, .int .i64 bins, .slice oa on oc, .int .i64 mx]) (X Y : Tbl) (n from' to' : Int) (W : World) (hx : Tps W xa xn xc X) (hy : Tps W ya yn yc Y) :
    Calls Try.prog 13 #[.agg A, .int .i64 n, .int .i64 from', .int .i64 to'] W fun e w' => ∃ v, e = .returned v ∧ Own W.heap.size w' v (stCol kd sb ep ef kw kh wn rn cn sh sh2 xn yn bins on mx X Y n from' to') ∧ Below W.heap.size W w' := by
  obtain ⟨B, hB⟩ : ∃ B, W.heap.size = B := ⟨_, rfl⟩
  have HI0 := hid (St.init hB)
  have HX := hid hx
  have HY := hid hy
  have HA := hid hA
  clear hx hy hA
  go_enter Try.func13, Try.ntmps13
  go_upto_region 1 with fail
  have H37 := hid (show St B W [.cells B A 33] [] (W.alloc (.cells A 33)) from (HI0.out.alloc A 33 hB))
  first | refine gen_code H37.out ?_ | refine gen_list H37.out ?_ | refine gen_calls H37.out ?_
  intro w38 hG
  clear H37
  have H37 := hid hG
  clear hG
  by_cases c39 : (kd : Int) = 2
  · obtain ⟨c39c, c39d⟩ : (kd : Int) ≤ 2 ∧ (2 : Int) ≤ kd := by omega
    have c39a : ((kd : Int) == (2)) = true := by simpa using c39
    have c39b : ((kd : Int) != (2)) = false := by simpa using c39
    have c39h := hid c39
    clear c39
    have z40 := H37.out.cell 0 rfl 6 (show A[6]? = some (.int .i64 kw) from by rw [HA.out]; rfl)
    have z41 := H37.out.cell 0 rfl 0 (show A[0]? = some (.int .i64 kd) from by rw [HA.out]; rfl)
    have z42 := H37.out.cell 0 rfl 9 (show A[9]? = some (.slice ra rn rc) from by rw [HA.out]; rfl)
    have z43 := H37.out.loadStg 0 rfl (by rw [HA.out]; rfl)
    have z44 := H37.out.cell 0 rfl 13 (show A[13]? = some (.slice xa xn xc) from by rw [HA.out]; rfl)
    go_wp2_with (refine loadArm z43 (by rfl) (by rfl) ?_)
    clear z40 z41 z42 z43 z44
    refine (rneeded_any HA.out X Y _ _ _ _ xa xn xc X _ (H37.out.oldTps HX.out) (H37.out.oldTps HY.out) (H37.out.oldTps HX.out) (fun hf hk => by have h9 := fine_side hf; have := c39h.out; have h1 := h9.1; have h2 := h9.2.1; omega) (fun hf hk => ((fine_side hf).2.2 hk).1)).mono ?_
    rintro e w45 ⟨v46, rfl, ho, hb⟩
    have H47 := hid (H37.out.grow hb ho)
    obtain ⟨v46a, v46c, rfl, _⟩ := ho.slc
    clear ho hb
    obtain ⟨L9, hL9⟩ : ∃ xx', ndL (stFine kd sb ep ef kw kh wn rn cn sh sh2 xn yn bins on mx X Y n from' to') kd ep (rn : Int) n X from' to' = xx' := ⟨_, rfl⟩
    rw [hL9] at H47 ⊢
    have HLL9 := hid hL9
    clear hL9
    go_wp2_with fail
    go_ret
    exact ⟨_, rfl, by (try rw [hB]); rw [show stCol kd sb ep ef kw kh wn rn cn sh sh2 xn yn bins on mx X Y n from' to' = L9 from by rw [← HLL9.out]; unfold stCol; have := c39h.out; first | (rw [if_pos (by omega)]; done) | (rw [if_neg (by omega)]; done)]; exact H47.out.own 0 rfl, by first | exact H47.out.below | exact H47.out.below'⟩
  · have c39a : ((kd : Int) == (2)) = false := by simpa using c39
    have c39b : ((kd : Int) != (2)) = true := by simpa using c39
    have c39h := hid c39
    clear c39
    have z48 := H37.out.cell 0 rfl 6 (show A[6]? = some (.int .i64 kw) from by rw [HA.out]; rfl)
    have z49 := H37.out.cell 0 rfl 0 (show A[0]? = some (.int .i64 kd) from by rw [HA.out]; rfl)
    have z50 := H37.out.loadStg 0 rfl (by rw [HA.out]; rfl)
    have z51 := H37.out.cell 0 rfl 13 (show A[13]? = some (.slice xa xn xc) from by rw [HA.out]; rfl)
    go_wp2_with (refine loadArm z50 (by rfl) (by rfl) ?_)
    clear z48 z49 z50 z51
    refine (rneeded_any HA.out X Y _ _ _ _ xa xn xc X _ (H37.out.oldTps HX.out) (H37.out.oldTps HY.out) (H37.out.oldTps HX.out) (fun hf hk => by have h9 := fine_side hf; have := c39h.out; have h1 := h9.1; have h2 := h9.2.1; omega) (fun hf hk => ((fine_side hf).2.2 hk).1)).mono ?_
    rintro e w52 ⟨v53, rfl, ho, hb⟩
    have H54 := hid (H37.out.grow hb ho)
    obtain ⟨v53a, v53c, rfl, _⟩ := ho.slc
    clear ho hb
    obtain ⟨L9, hL9⟩ : ∃ xx', ndL (stFine kd sb ep ef kw kh wn rn cn sh sh2 xn yn bins on mx X Y n from' to') kd ep kw n X from' to' = xx' := ⟨_, rfl⟩
    rw [hL9] at H54 ⊢
    have HLL9 := hid hL9
    clear hL9
    go_wp2_with fail
    go_ret
    exact ⟨_, rfl, by (try rw [hB]); rw [show stCol kd sb ep ef kw kh wn rn cn sh sh2 xn yn bins on mx X Y n from' to' = L9 from by rw [← HLL9.out]; unfold stCol; have := c39h.out; first | (rw [if_pos (by omega)]; done) | (rw [if_neg (by omega)]; done)]; exact H54.out.own 0 rfl, by first | exact H54.out.below | exact H54.out.below'⟩

set_option maxRecDepth 100000 in
set_option maxHeartbeats 1600000 in
theorem rrows_A {kd sa sb : Int} {bar : Bool} {ep ef kw kh : Int} {wa : Option Addr} {wn wc : Nat} {ra : Option Addr} {rn rc : Nat} {ca : Option Addr} {cn cc : Nat} {sh sh2 : Int} {xa : Option Addr} {xn xc : Nat} {ya : Option Addr} {yn yc : Nat} {bins : Int} {oa : Option Addr} {on oc : Nat} {mx : Int} {A : Array Value} (hA : A = #[.int .i64 kd, .int .i64 sa, .int .i64 sb, .bool bar, .int .i64 ep, .int .i64 ef, .int .i64 kw, .int .i64 kh, .slice wa wn wc, .slice ra rn rc, .slice ca cn cc, .int .i64 sh, .int .i64 sh2, .slice xa xn xc, .slice ya yn yc, .int .i64 bins, .slice oa on oc, .int .i64 mx]) (X Y : Tbl) (n from' to' : Int) (W : World) (hx : Tps W xa xn xc X) (hy : Tps W ya yn yc Y) :
    Calls Try.prog 15 #[.agg A, .int .i64 n, .int .i64 from', .int .i64 to'] W fun e w' => ∃ v, e = .returned v ∧ Own W.heap.size w' v (stRow kd sb ep ef kw kh wn rn cn sh sh2 xn yn bins on mx X Y n from' to') ∧ Below W.heap.size W w' := by
  obtain ⟨B, hB⟩ : ∃ B, W.heap.size = B := ⟨_, rfl⟩
  have HI0 := hid (St.init hB)
  have HX := hid hx
  have HY := hid hy
  have HA := hid hA
  clear hx hy hA
  go_enter Try.func15, Try.ntmps15
  go_upto_region 1 with fail
  have H55 := hid (show St B W [.cells B A 33] [] (W.alloc (.cells A 33)) from (HI0.out.alloc A 33 hB))
  first | refine gen_code H55.out ?_ | refine gen_list H55.out ?_ | refine gen_calls H55.out ?_
  intro w56 hG
  clear H55
  have H55 := hid hG
  clear hG
  by_cases c57 : (kd : Int) = 2
  · obtain ⟨c57c, c57d⟩ : (kd : Int) ≤ 2 ∧ (2 : Int) ≤ kd := by omega
    have c57a : ((kd : Int) == (2)) = true := by simpa using c57
    have c57b : ((kd : Int) != (2)) = false := by simpa using c57
    have c57h := hid c57
    clear c57
    have z58 := H55.out.cell 0 rfl 7 (show A[7]? = some (.int .i64 kh) from by rw [HA.out]; rfl)
    have z59 := H55.out.cell 0 rfl 0 (show A[0]? = some (.int .i64 kd) from by rw [HA.out]; rfl)
    have z60 := H55.out.cell 0 rfl 10 (show A[10]? = some (.slice ca cn cc) from by rw [HA.out]; rfl)
    have z61 := H55.out.loadStg 0 rfl (by rw [HA.out]; rfl)
    have z62 := H55.out.cell 0 rfl 14 (show A[14]? = some (.slice ya yn yc) from by rw [HA.out]; rfl)
    go_wp2_with (refine loadArm z61 (by rfl) (by rfl) ?_)
    clear z58 z59 z60 z61 z62
    refine (rneeded_any HA.out X Y _ _ _ _ ya yn yc Y _ (H55.out.oldTps HX.out) (H55.out.oldTps HY.out) (H55.out.oldTps HY.out) (fun hf hk => by have h9 := fine_side hf; have := c57h.out; have h1 := h9.1; have h2 := h9.2.1; omega) (fun hf hk => ((fine_side hf).2.2 hk).2)).mono ?_
    rintro e w63 ⟨v64, rfl, ho, hb⟩
    have H65 := hid (H55.out.grow hb ho)
    obtain ⟨v64a, v64c, rfl, _⟩ := ho.slc
    clear ho hb
    obtain ⟨L9, hL9⟩ : ∃ xx', ndL (stFine kd sb ep ef kw kh wn rn cn sh sh2 xn yn bins on mx X Y n from' to') kd ep (cn : Int) n Y from' to' = xx' := ⟨_, rfl⟩
    rw [hL9] at H65 ⊢
    have HLL9 := hid hL9
    clear hL9
    go_wp2_with fail
    go_ret
    exact ⟨_, rfl, by (try rw [hB]); rw [show stRow kd sb ep ef kw kh wn rn cn sh sh2 xn yn bins on mx X Y n from' to' = L9 from by rw [← HLL9.out]; unfold stRow; have := c57h.out; first | (rw [if_pos (by omega)]; done) | (rw [if_neg (by omega)]; done)]; exact H65.out.own 0 rfl, by first | exact H65.out.below | exact H65.out.below'⟩
  · have c57a : ((kd : Int) == (2)) = false := by simpa using c57
    have c57b : ((kd : Int) != (2)) = true := by simpa using c57
    have c57h := hid c57
    clear c57
    have z66 := H55.out.cell 0 rfl 7 (show A[7]? = some (.int .i64 kh) from by rw [HA.out]; rfl)
    have z67 := H55.out.cell 0 rfl 0 (show A[0]? = some (.int .i64 kd) from by rw [HA.out]; rfl)
    have z68 := H55.out.loadStg 0 rfl (by rw [HA.out]; rfl)
    have z69 := H55.out.cell 0 rfl 14 (show A[14]? = some (.slice ya yn yc) from by rw [HA.out]; rfl)
    go_wp2_with (refine loadArm z68 (by rfl) (by rfl) ?_)
    clear z66 z67 z68 z69
    refine (rneeded_any HA.out X Y _ _ _ _ ya yn yc Y _ (H55.out.oldTps HX.out) (H55.out.oldTps HY.out) (H55.out.oldTps HY.out) (fun hf hk => by have h9 := fine_side hf; have := c57h.out; have h1 := h9.1; have h2 := h9.2.1; omega) (fun hf hk => ((fine_side hf).2.2 hk).2)).mono ?_
    rintro e w70 ⟨v71, rfl, ho, hb⟩
    have H72 := hid (H55.out.grow hb ho)
    obtain ⟨v71a, v71c, rfl, _⟩ := ho.slc
    clear ho hb
    obtain ⟨L9, hL9⟩ : ∃ xx', ndL (stFine kd sb ep ef kw kh wn rn cn sh sh2 xn yn bins on mx X Y n from' to') kd ep kh n Y from' to' = xx' := ⟨_, rfl⟩
    rw [hL9] at H72 ⊢
    have HLL9 := hid hL9
    clear hL9
    go_wp2_with fail
    go_ret
    exact ⟨_, rfl, by (try rw [hB]); rw [show stRow kd sb ep ef kw kh wn rn cn sh sh2 xn yn bins on mx X Y n from' to' = L9 from by rw [← HLL9.out]; unfold stRow; have := c57h.out; first | (rw [if_pos (by omega)]; done) | (rw [if_neg (by omega)]; done)]; exact H72.out.own 0 rfl, by first | exact H72.out.below | exact H72.out.below'⟩
end

section
open Go.RowKit
set_option linter.unusedVariables false

def memL (l : List Int) (a b : Int) : Bool := l.any fun v => decide (a ≤ v ∧ v < b)
theorem memL_yes {l : List Int} {a b : Int} {i : Nat} (hi : i < l.length) (h : a ≤ l.getD i 0 ∧ l.getD i 0 < b) : memL l a b = true := by
  unfold memL; rw [List.any_eq_true]
  refine ⟨l.getD i 0, ?_, by simpa using h⟩
  rw [List.getD_eq_getElem?_getD, List.getElem?_eq_getElem hi]; exact List.getElem_mem hi
theorem memL_no {l : List Int} {a b : Int} (h : ∀ i, i < l.length → ¬ (a ≤ l.getD i 0 ∧ l.getD i 0 < b)) : memL l a b = false := by
  unfold memL; rw [List.any_eq_false]
  intro x hx
  obtain ⟨i, hi, rfl⟩ := List.mem_iff_getElem.1 hx
  have := h i hi
  rw [List.getD_eq_getElem?_getD, List.getElem?_eq_getElem hi] at this
  simpa using this
theorem memL_congr {l : List Int} {a b c d : Int} (h : ∀ v, v ∈ l → (a ≤ v ∧ v < b ↔ c ≤ v ∧ v < d)) : memL l a b = memL l c d := by
  unfold memL
  rw [Bool.eq_iff_iff, List.any_eq_true, List.any_eq_true]
  constructor <;> rintro ⟨x, hx, hp⟩ <;> refine ⟨x, hx, ?_⟩
  · have := (h x hx).1 (by simpa using hp); simpa using this
  · have := (h x hx).2 (by simpa using hp); simpa using this
theorem memL_nil (a b : Int) : memL [] a b = false := rfl
theorem outL_mem {P : Nat → Bool} {v : Int} : ∀ {n : Nat}, v ∈ outL P n ↔ ∃ m : Nat, m < n ∧ v = (m : Int) ∧ P m = true
  | 0 => by simp [outL]
  | n + 1 => by
    simp only [outL]
    by_cases hp : P n = true
    · rw [if_pos hp, List.mem_append, outL_mem, List.mem_singleton]
      constructor
      · rintro (⟨m, h1, h2, h3⟩ | h)
        · exact ⟨m, by omega, h2, h3⟩
        · exact ⟨n, by omega, h, hp⟩
      · rintro ⟨m, h1, h2, h3⟩
        rcases Nat.lt_or_ge m n with h | h
        · exact .inl ⟨m, h, h2, h3⟩
        · have : m = n := by omega
          subst this; exact .inr h2
    · rw [if_neg hp, outL_mem]
      constructor
      · rintro ⟨m, h1, h2, h3⟩; exact ⟨m, by omega, h2, h3⟩
      · rintro ⟨m, h1, h2, h3⟩
        rcases Nat.lt_or_ge m n with h | h
        · exact ⟨m, h, h2, h3⟩
        · have : m = n := by omega
          subst this; exact absurd h3 hp
theorem outL_upto {P Q : Nat → Bool} : ∀ {n : Nat}, (∀ m, m < n → P m = Q m) → outL P n = outL Q n
  | 0, _ => rfl
  | n + 1, h => by simp only [outL]; rw [h n (by omega), outL_upto (n := n) fun m hm => h m (by omega)]
theorem outL_no {P : Nat → Bool} : ∀ {n : Nat}, (∀ m, m < n → P m = false) → outL P n = []
  | 0, _ => rfl
  | n + 1, h => by simp only [outL]; rw [h n (by omega), if_neg (by decide)]; exact outL_no fun m hm => h m (by omega)
theorem ndL_mem {fine : Bool} {kd ep side n : Int} {T : Tbl} {a b v : Int} (h : v ∈ ndL fine kd ep side n T a b) : 0 ≤ v ∧ v < n := by
  unfold ndL at h
  by_cases hf : fine = true
  · rw [if_pos hf, outL_mem] at h
    obtain ⟨m, h1, rfl, _⟩ := h; omega
  · rw [if_neg hf] at h; cases h
theorem ndL_none {fine : Bool} {kd ep side n : Int} {T : Tbl} {a b : Int} (h : fine = false ∨ b ≤ a) : ndL fine kd ep side n T a b = [] := by
  unfold ndL
  by_cases hf : fine = true
  · rw [if_pos hf, show (b - a).toNat = 0 by rcases h with h | h; rw [hf] at h; cases h; omega]
    exact outL_no fun _ _ => rfl
  · rw [if_neg hf]
def tlP (C R : List Int) (w h tw th : Int) (i : Nat) : Bool := memL C (gT0 w h tw th i) (gT2 w h tw th i) && memL R (gT1 w h tw th i) (gT3 w h tw th i)
def tlL (C R : List Int) (w h tw th : Int) : List Int := outL (tlP C R w h tw th) (gNx w h tw th * gNy w h tw th).toNat
def tlQ (C R : List Int) (nx : Nat) (tw th : Int) (i : Nat) : Bool := memL C (((i % nx : Nat) : Int) * tw) ((((i % nx : Nat) : Int) + 1) * tw) && memL R (((i / nx : Nat) : Int) * th) ((((i / nx : Nat) : Int) + 1) * th)
theorem tl_nil {C R : List Int} {w h tw th : Int} (hc : C = [] ∨ R = []) : tlL C R w h tw th = [] := by
  unfold tlL; refine outL_no fun m _ => ?_
  unfold tlP
  rcases hc with rfl | rfl
  · rw [memL_nil, Bool.false_and]
  · rw [memL_nil, Bool.and_false]
theorem tl_zero {C R : List Int} {w h tw th : Int} (hn : gNx w h tw th = 0 ∨ gNy w h tw th = 0) : tlL C R w h tw th = [] := by
  unfold tlL; rw [show gNx w h tw th * gNy w h tw th = 0 by rcases hn with e | e <;> rw [e] <;> simp]; rfl
theorem tl_same {C R : List Int} {w h tw th : Int} {nx ny : Nat} (hx : gNx w h tw th = nx) (hy : gNy w h tw th = ny) (hC : ∀ v, v ∈ C → 0 ≤ v ∧ v < w) (hR : ∀ v, v ∈ R → 0 ≤ v ∧ v < h) (h0 : nx ≠ 0) (h1 : ny ≠ 0) : outL (tlQ C R nx tw th) (nx * ny) = tlL C R w h tw th := by
  unfold tlL
  rw [hx, hy, show ((nx : Int) * (ny : Int)).toNat = nx * ny by rw [← Int.natCast_mul]; rfl]
  refine outL_upto fun i hi => ?_
  cases hg : gOk w h tw th with
  | false => have := (gN_no hg).1; omega
  | true =>
    have ht : gTok w h tw th i = true := gTok_iff.2 ⟨hg, by omega, by rw [hx, hy]; exact_mod_cast hi⟩
    unfold tlP tlQ gT0 gT1 gT2 gT3
    rw [if_pos ht, if_pos ht, if_pos ht, if_pos ht, hx]
    have e1 : (i : Int) % (nx : Int) = ((i % nx : Nat) : Int) := by simp
    have e2 : (i : Int) / (nx : Int) = ((i / nx : Nat) : Int) := by simp
    rw [e1, e2]
    generalize ((i % nx : Nat) : Int) = x at *
    generalize ((i / nx : Nat) : Int) = y at *
    have f1 : (x + 1) * tw = x * tw + tw := by rw [Int.add_mul, Int.one_mul]
    have f2 : (y + 1) * th = y * th + th := by rw [Int.add_mul, Int.one_mul]
    rw [f1, f2]
    generalize x * tw = u
    generalize y * th = v
    rw [memL_congr (l := C) (c := u) (d := min (u + tw) w) fun z hz => by have := hC z hz; omega, memL_congr (l := R) (c := v) (d := min (v + th) h) fun z hz => by have := hR z hz; omega]
theorem stFine_no {kd sb ep ef kw kh : Int} {wn rn cn : Nat} {sh sh2 : Int} {xn yn : Nat} {bins : Int} {on : Nat} {mx : Int} {X Y : Tbl} {n f t : Int} (h : ¬ (0 ≤ f ∧ f ≤ 128 ∧ 0 ≤ t ∧ t ≤ 128)) : stFine kd sb ep ef kw kh wn rn cn sh sh2 xn yn bins on mx X Y n f t = false := by
  unfold stFine; rw [decide_eq_false (by omega), Bool.false_and]
theorem tl_invalid {kd sb ep ef kw kh : Int} {wn rn cn : Nat} {sh sh2 : Int} {xn yn : Nat} {bins : Int} {on : Nat} {mx : Int} {X Y : Tbl} {w h tw th x0 y0 x1 y1 : Int} (hv : rValid x0 y0 x1 y1 = false) :
    tlL (stCol kd sb ep ef kw kh wn rn cn sh sh2 xn yn bins on mx X Y w x0 x1) (stRow kd sb ep ef kw kh wn rn cn sh sh2 xn yn bins on mx X Y h y0 y1) w h tw th = [] := by
  refine tl_nil ?_
  unfold stCol stRow
  by_cases hx : 0 ≤ x0 ∧ x0 ≤ 128 ∧ 0 ≤ x1 ∧ x1 ≤ 128
  · by_cases hy : 0 ≤ y0 ∧ y0 ≤ 128 ∧ 0 ≤ y1 ∧ y1 ≤ 128
    · by_cases hxx : x1 ≤ x0
      · exact .inl (ndL_none (.inr hxx))
      · by_cases hyy : y1 ≤ y0
        · exact .inr (ndL_none (.inr hyy))
        · exfalso
          unfold rValid at hv; simp at hv; omega
    · exact .inr (ndL_none (.inl (stFine_no hy)))
  · exact .inl (ndL_none (.inl (stFine_no hx)))
end

section
open Go.RowKit
attribute [local go_sem ↓] Go.wp_at_zero Go.wp_at_succ
set_option linter.unusedVariables false
set_option linter.unusedSimpArgs false

def hasL (l : List Int) (n : Int) : Bool := l.any fun v => decide (v = n)
theorem hasL_yes {l : List Int} {n : Int} {i : Nat} (hi : i < l.length) (h : l.getD i 0 = n) : hasL l n = true := by
  unfold hasL; rw [List.any_eq_true]
  refine ⟨l.getD i 0, ?_, by simpa using h⟩
  rw [List.getD_eq_getElem?_getD, List.getElem?_eq_getElem hi]; exact List.getElem_mem hi
theorem hasL_no {l : List Int} {n : Int} (h : ∀ i, i < l.length → ¬ l.getD i 0 = n) : hasL l n = false := by
  unfold hasL; rw [List.any_eq_false]
  intro x hx
  obtain ⟨i, hi, rfl⟩ := List.mem_iff_getElem.1 hx
  have := h i hi
  rw [List.getD_eq_getElem?_getD, List.getElem?_eq_getElem hi] at this
  simpa using this

set_option maxRecDepth 100000 in
set_option maxHeartbeats 1600000 in
theorem stwithin_any (a : Option Addr) (m c : Nat) (ts : List Int) (fa fb : Int) (W : World) (hs : Slc W a m c ts) : Calls Try.prog 31 #[.slice a m c, .int .i64 fa, .int .i64 fb] W fun e w' => e = .returned (.bool (memL ts fa fb)) ∧ Below W.heap.size W w' := by
  obtain ⟨B, hB⟩ : ∃ B, W.heap.size = B := ⟨_, rfl⟩
  have HI0 := hid (St.init hB)
  have HL := hid hs.len
  have nmx : (m : Int) ≤ 9223372036854775807 := by have := hs.nc; have := hs.cap; omega
  have HS := hid hs
  clear hs
  go_enter Try.func31, Try.ntmps31
  go_wp2_with fail
  go_loopw [11] (fun i wr => ∃ j : Nat, j ≤ m ∧ (∀ i, i < j → ¬ (fa ≤ ts.getD i 0 ∧ ts.getD i 0 < fb)) ∧ i = .int .i64 j ∧ St B W [] [] wr) (fun i _ => m - (intOf i).toNat)
  case atStart => exact ⟨0, by omega, fun i hi => by omega, rfl, HI0.out⟩
  case round =>
    obtain ⟨j, hj, hall, rfl, hst⟩ := hrel
    obtain ⟨u1, rfl⟩ : ∃ u1 : World, u1 = wr := ⟨_, rfl⟩
    have H2 := hid hst
    clear hst
    have HALL := hid hall
    clear hall
    by_cases hjn : j < m
    · skip
      have hjn' : (j : Int) < m := by omega
      obtain ⟨pb, po, hpa⟩ := row_at HS.out.row (by omega)
      subst hpa
      have cz := row_cell (H2.out.old HS.out).row hjn
      obtain ⟨z, hz⟩ : ∃ z, ts.getD j 0 = z := ⟨_, rfl⟩
      rw [hz] at cz
      have HZ := hid hz
      clear hz
      by_cases c3 : (fa : Int) ≤ z
      · skip
        by_cases c4 : (z : Int) < fb
        · skip
          go_wp2_with fail
          go_ret
          exact ⟨ret_b (memL_yes (i := j) (by rw [HL.out]; omega) (by rw [HZ.out]; omega)).symm, by first | exact H2.out.below | exact H2.out.below'⟩
        · skip
          go_wp2_with fail
          go_roundw
          case rel => exact ⟨j + 1, by omega, fun i hi => by rcases Nat.lt_or_ge i j with h' | h'; exact HALL.out i h'; rw [show i = j by omega, HZ.out]; omega, by go_num, H2.out.pick [] rfl (by decide)⟩
          case measure => first | (simp [intOf]; omega) | (simp [intOf]; done)
      · skip
        go_wp2_with fail
        go_roundw
        case rel => exact ⟨j + 1, by omega, fun i hi => by rcases Nat.lt_or_ge i j with h' | h'; exact HALL.out i h'; rw [show i = j by omega, HZ.out]; omega, by go_num, H2.out.pick [] rfl (by decide)⟩
        case measure => first | (simp [intOf]; omega) | (simp [intOf]; done)
    · skip
      have hjn' : ¬ ((j : Int) < m) := by omega
      have HJM := hid (show j = m by omega)
      go_wp2_with fail
      go_ret
      exact ⟨ret_b (memL_no fun i hi => HALL.out i (by rw [HL.out] at hi; rw [HJM.out]; exact hi)).symm, by first | exact H2.out.below | exact H2.out.below'⟩

set_option maxRecDepth 100000 in
set_option maxHeartbeats 1600000 in
theorem rsome_any (a : Option Addr) (m c : Nat) (ts : List Int) (fa fb : Int) (W : World) (hs : Slc W a m c ts) : Calls Try.prog 35 #[.slice a m c, .int .i64 fa, .int .i64 fb] W fun e w' => e = .returned (.bool (memL ts fa fb)) ∧ Below W.heap.size W w' := by
  obtain ⟨B, hB⟩ : ∃ B, W.heap.size = B := ⟨_, rfl⟩
  have HI0 := hid (St.init hB)
  have HL := hid hs.len
  have nmx : (m : Int) ≤ 9223372036854775807 := by have := hs.nc; have := hs.cap; omega
  have HS := hid hs
  clear hs
  go_enter Try.func35, Try.ntmps35
  go_wp2_with fail
  go_loopw [7] (fun i wr => ∃ j : Nat, j ≤ m ∧ (∀ i, i < j → ¬ (fa ≤ ts.getD i 0 ∧ ts.getD i 0 < fb)) ∧ i = .int .i64 j ∧ St B W [] [] wr) (fun i _ => m - (intOf i).toNat)
  case atStart => exact ⟨0, by omega, fun i hi => by omega, rfl, HI0.out⟩
  case round =>
    obtain ⟨j, hj, hall, rfl, hst⟩ := hrel
    obtain ⟨u5, rfl⟩ : ∃ u5 : World, u5 = wr := ⟨_, rfl⟩
    have H6 := hid hst
    clear hst
    have HALL := hid hall
    clear hall
    by_cases hjn : j < m
    · skip
      have hjn' : (j : Int) < m := by omega
      obtain ⟨pb, po, hpa⟩ := row_at HS.out.row (by omega)
      subst hpa
      have cz := row_cell (H6.out.old HS.out).row hjn
      obtain ⟨z, hz⟩ : ∃ z, ts.getD j 0 = z := ⟨_, rfl⟩
      rw [hz] at cz
      have HZ := hid hz
      clear hz
      by_cases c7 : (fa : Int) ≤ z
      · skip
        by_cases c8 : (z : Int) < fb
        · skip
          go_wp2_with fail
          go_ret
          exact ⟨ret_b (memL_yes (i := j) (by rw [HL.out]; omega) (by rw [HZ.out]; omega)).symm, by first | exact H6.out.below | exact H6.out.below'⟩
        · skip
          go_wp2_with fail
          go_roundw
          case rel => exact ⟨j + 1, by omega, fun i hi => by rcases Nat.lt_or_ge i j with h' | h'; exact HALL.out i h'; rw [show i = j by omega, HZ.out]; omega, by go_num, H6.out.pick [] rfl (by decide)⟩
          case measure => first | (simp [intOf]; omega) | (simp [intOf]; done)
      · skip
        go_wp2_with fail
        go_roundw
        case rel => exact ⟨j + 1, by omega, fun i hi => by rcases Nat.lt_or_ge i j with h' | h'; exact HALL.out i h'; rw [show i = j by omega, HZ.out]; omega, by go_num, H6.out.pick [] rfl (by decide)⟩
        case measure => first | (simp [intOf]; omega) | (simp [intOf]; done)
    · skip
      have hjn' : ¬ ((j : Int) < m) := by omega
      have HJM := hid (show j = m by omega)
      go_wp2_with fail
      go_ret
      exact ⟨ret_b (memL_no fun i hi => HALL.out i (by rw [HL.out] at hi; rw [HJM.out]; exact hi)).symm, by first | exact H6.out.below | exact H6.out.below'⟩

set_option maxRecDepth 100000 in
set_option maxHeartbeats 1600000 in
theorem has16_any (a : Option Addr) (m c : Nat) (ts : List Int) (fa : Int) (W : World) (hs : Slc W a m c ts) : Calls Try.prog 20 #[.slice a m c, .int .i64 fa] W fun e w' => e = .returned (.bool (hasL ts fa)) ∧ Below W.heap.size W w' := by
  obtain ⟨B, hB⟩ : ∃ B, W.heap.size = B := ⟨_, rfl⟩
  have HI0 := hid (St.init hB)
  have HL := hid hs.len
  have nmx : (m : Int) ≤ 9223372036854775807 := by have := hs.nc; have := hs.cap; omega
  have HS := hid hs
  clear hs
  go_enter Try.func20, Try.ntmps20
  go_wp2_with fail
  go_loopw [5] (fun i wr => ∃ j : Nat, j ≤ m ∧ (∀ i, i < j → ¬ (ts.getD i 0 = fa)) ∧ i = .int .i64 j ∧ St B W [] [] wr) (fun i _ => m - (intOf i).toNat)
  case atStart => exact ⟨0, by omega, fun i hi => by omega, rfl, HI0.out⟩
  case round =>
    obtain ⟨j, hj, hall, rfl, hst⟩ := hrel
    obtain ⟨u9, rfl⟩ : ∃ u9 : World, u9 = wr := ⟨_, rfl⟩
    have H10 := hid hst
    clear hst
    have HALL := hid hall
    clear hall
    by_cases hjn : j < m
    · skip
      have hjn' : (j : Int) < m := by omega
      obtain ⟨pb, po, hpa⟩ := row_at HS.out.row (by omega)
      subst hpa
      have cz := row_cell (H10.out.old HS.out).row hjn
      obtain ⟨z, hz⟩ : ∃ z, ts.getD j 0 = z := ⟨_, rfl⟩
      rw [hz] at cz
      have HZ := hid hz
      clear hz
      by_cases c11 : (z : Int) = fa
      · obtain ⟨c11c, c11d⟩ : (z : Int) ≤ fa ∧ (fa : Int) ≤ z := by omega
        have c11a : ((z : Int) == (fa)) = true := by simpa using c11
        have c11b : ((z : Int) != (fa)) = false := by simpa using c11
        have c11h := hid c11
        clear c11
        go_wp2_with fail
        go_ret
        exact ⟨ret_b (hasL_yes (i := j) (by rw [HL.out]; omega) (by rw [HZ.out]; have := c11h.out; omega)).symm, by first | exact H10.out.below | exact H10.out.below'⟩
      · have c11a : ((z : Int) == (fa)) = false := by simpa using c11
        have c11b : ((z : Int) != (fa)) = true := by simpa using c11
        have c11h := hid c11
        clear c11
        go_wp2_with fail
        go_roundw
        case rel => exact ⟨j + 1, by omega, fun i hi => by rcases Nat.lt_or_ge i j with h' | h'; exact HALL.out i h'; rw [show i = j by omega, HZ.out]; have := c11h.out; omega, by go_num, H10.out.pick [] rfl (by decide)⟩
        case measure => first | (simp [intOf]; omega) | (simp [intOf]; done)
    · skip
      have hjn' : ¬ ((j : Int) < m) := by omega
      have HJM := hid (show j = m by omega)
      go_wp2_with fail
      go_ret
      exact ⟨ret_b (hasL_no fun i hi => HALL.out i (by rw [HL.out] at hi; rw [HJM.out]; exact hi)).symm, by first | exact H10.out.below | exact H10.out.below'⟩
end
end Go.Proofs.Ytlidacfokgdlgaa
