/-
  Contracts: the needed columns and rows of a stage, in the reference.
-/
import Derived.Test.YtlidacfokgdlgaaStCol
import Derived.Test.YtlidacfokgdlgaaStNd3
namespace Go.Proofs.Ytlidacfokgdlgaa
open Go.RowKit
attribute [local go_sem ↓] Go.wp_at_zero Go.wp_at_succ
set_option linter.unusedVariables false
set_option linter.unusedSimpArgs false

set_option maxRecDepth 100000 in
set_option maxHeartbeats 1600000 in
theorem rcolumns_A {kd sa sb : Int} {bar : Bool} {ep ef kw kh : Int} {wa : Option Addr} {wn wc : Nat} {ra : Option Addr} {rn rc : Nat} {ca : Option Addr} {cn cc : Nat} {sh sh2 : Int} {xa : Option Addr} {xn xc : Nat} {ya : Option Addr} {yn yc : Nat} {bins : Int} {oa : Option Addr} {on oc : Nat} {mx : Int} {A : Array Value} (hA : A = #[.int .i64 kd, .int .i64 sa, .int .i64 sb, .bool bar, .int .i64 ep, .int .i64 ef, .int .i64 kw, .int .i64 kh, .slice wa wn wc, .slice ra rn rc, .slice ca cn cc, .int .i64 sh, .int .i64 sh2, .slice xa xn xc, .slice ya yn yc, .int .i64 bins, .slice oa on oc, .int .i64 mx]) (X Y : Tbl) (n from' to' : Int) (W : World) (hx : Tps W xa xn xc X) (hy : Tps W ya yn yc Y) :
    Calls Try.prog 13 #[.agg A, .int .i64 n, .int .i64 from', .int .i64 to'] W fun e w' => ∃ v, e = .returned v ∧ Own W.heap.size w' v (stCol kd sb ep ef kw kh wn rn cn sh sh2 xn yn bins on mx X Y n from' to') ∧ Below W.heap.size W w' := by
  obtain ⟨B, hB⟩ : ∃ B, W.heap.size = B := ⟨_, rfl⟩
  have HI0 := hid (St.init hB)
  have HX := hid hx
  have HY := hid hy
  have HA := hid hA
  clear hx hy hA
  go_enter Try.func13, Try.ntmps13
  go_upto_region 1 with fail
  have H37 := hid (show St B W [.cells B A 33] [] (W.alloc (.cells A 33)) from (HI0.out.alloc A 33 hB))
  first | refine gen_code H37.out ?_ | refine gen_list H37.out ?_ | refine gen_calls H37.out ?_
  intro w38 hG
  clear H37
  have H37 := hid hG
  clear hG
  by_cases c39 : (kd : Int) = 2
  · obtain ⟨c39c, c39d⟩ : (kd : Int) ≤ 2 ∧ (2 : Int) ≤ kd := by omega
    have c39a : ((kd : Int) == (2)) = true := by simpa using c39
    have c39b : ((kd : Int) != (2)) = false := by simpa using c39
    have c39h := hid c39
    clear c39
    have z40 := H37.out.cell 0 rfl 6 (show A[6]? = some (.int .i64 kw) from by rw [HA.out]; rfl)
    have z41 := H37.out.cell 0 rfl 0 (show A[0]? = some (.int .i64 kd) from by rw [HA.out]; rfl)
    have z42 := H37.out.cell 0 rfl 9 (show A[9]? = some (.slice ra rn rc) from by rw [HA.out]; rfl)
    have z43 := H37.out.loadStg 0 rfl (by rw [HA.out]; rfl)
    have z44 := H37.out.cell 0 rfl 13 (show A[13]? = some (.slice xa xn xc) from by rw [HA.out]; rfl)
    go_wp2_with (refine loadArm z43 (by rfl) (by rfl) ?_)
    clear z40 z41 z42 z43 z44
    refine (rneeded_any HA.out X Y _ _ _ _ xa xn xc X _ (H37.out.oldTps HX.out) (H37.out.oldTps HY.out) (H37.out.oldTps HX.out) (fun hf hk => by have h9 := fine_side hf; have := c39h.out; have h1 := h9.1; have h2 := h9.2.1; omega) (fun hf hk => ((fine_side hf).2.2 hk).1)).mono ?_
    rintro e w45 ⟨v46, rfl, ho, hb⟩
    have H47 := hid (H37.out.grow hb ho)
    obtain ⟨v46a, v46c, rfl, _⟩ := ho.slc
    clear ho hb
    obtain ⟨L9, hL9⟩ : ∃ xx', ndL (stFine kd sb ep ef kw kh wn rn cn sh sh2 xn yn bins on mx X Y n from' to') kd ep (rn : Int) n X from' to' = xx' := ⟨_, rfl⟩
    rw [hL9] at H47 ⊢
    have HLL9 := hid hL9
    clear hL9
    go_wp2_with fail
    go_ret
    exact ⟨_, rfl, by (try rw [hB]); rw [show stCol kd sb ep ef kw kh wn rn cn sh sh2 xn yn bins on mx X Y n from' to' = L9 from by rw [← HLL9.out]; unfold stCol; have := c39h.out; first | (rw [if_pos (by omega)]; done) | (rw [if_neg (by omega)]; done)]; exact H47.out.own 0 rfl, by first | exact H47.out.below | exact H47.out.below'⟩
  · have c39a : ((kd : Int) == (2)) = false := by simpa using c39
    have c39b : ((kd : Int) != (2)) = true := by simpa using c39
    have c39h := hid c39
    clear c39
    have z48 := H37.out.cell 0 rfl 6 (show A[6]? = some (.int .i64 kw) from by rw [HA.out]; rfl)
    have z49 := H37.out.cell 0 rfl 0 (show A[0]? = some (.int .i64 kd) from by rw [HA.out]; rfl)
    have z50 := H37.out.loadStg 0 rfl (by rw [HA.out]; rfl)
    have z51 := H37.out.cell 0 rfl 13 (show A[13]? = some (.slice xa xn xc) from by rw [HA.out]; rfl)
    go_wp2_with (refine loadArm z50 (by rfl) (by rfl) ?_)
    clear z48 z49 z50 z51
    refine (rneeded_any HA.out X Y _ _ _ _ xa xn xc X _ (H37.out.oldTps HX.out) (H37.out.oldTps HY.out) (H37.out.oldTps HX.out) (fun hf hk => by have h9 := fine_side hf; have := c39h.out; have h1 := h9.1; have h2 := h9.2.1; omega) (fun hf hk => ((fine_side hf).2.2 hk).1)).mono ?_
    rintro e w52 ⟨v53, rfl, ho, hb⟩
    have H54 := hid (H37.out.grow hb ho)
    obtain ⟨v53a, v53c, rfl, _⟩ := ho.slc
    clear ho hb
    obtain ⟨L9, hL9⟩ : ∃ xx', ndL (stFine kd sb ep ef kw kh wn rn cn sh sh2 xn yn bins on mx X Y n from' to') kd ep kw n X from' to' = xx' := ⟨_, rfl⟩
    rw [hL9] at H54 ⊢
    have HLL9 := hid hL9
    clear hL9
    go_wp2_with fail
    go_ret
    exact ⟨_, rfl, by (try rw [hB]); rw [show stCol kd sb ep ef kw kh wn rn cn sh sh2 xn yn bins on mx X Y n from' to' = L9 from by rw [← HLL9.out]; unfold stCol; have := c39h.out; first | (rw [if_pos (by omega)]; done) | (rw [if_neg (by omega)]; done)]; exact H54.out.own 0 rfl, by first | exact H54.out.below | exact H54.out.below'⟩

set_option maxRecDepth 100000 in
set_option maxHeartbeats 1600000 in
theorem rrows_A {kd sa sb : Int} {bar : Bool} {ep ef kw kh : Int} {wa : Option Addr} {wn wc : Nat} {ra : Option Addr} {rn rc : Nat} {ca : Option Addr} {cn cc : Nat} {sh sh2 : Int} {xa : Option Addr} {xn xc : Nat} {ya : Option Addr} {yn yc : Nat} {bins : Int} {oa : Option Addr} {on oc : Nat} {mx : Int} {A : Array Value} (hA : A = #[.int .i64 kd, .int .i64 sa, .int .i64 sb, .bool bar, .int .i64 ep, .int .i64 ef, .int .i64 kw, .int .i64 kh, .slice wa wn wc, .slice ra rn rc, .slice ca cn cc, .int .i64 sh, .int .i64 sh2, .slice xa xn xc, .slice ya yn yc, .int .i64 bins, .slice oa on oc, .int .i64 mx]) (X Y : Tbl) (n from' to' : Int) (W : World) (hx : Tps W xa xn xc X) (hy : Tps W ya yn yc Y) :
    Calls Try.prog 15 #[.agg A, .int .i64 n, .int .i64 from', .int .i64 to'] W fun e w' => ∃ v, e = .returned v ∧ Own W.heap.size w' v (stRow kd sb ep ef kw kh wn rn cn sh sh2 xn yn bins on mx X Y n from' to') ∧ Below W.heap.size W w' := by
  obtain ⟨B, hB⟩ : ∃ B, W.heap.size = B := ⟨_, rfl⟩
  have HI0 := hid (St.init hB)
  have HX := hid hx
  have HY := hid hy
  have HA := hid hA
  clear hx hy hA
  go_enter Try.func15, Try.ntmps15
  go_upto_region 1 with fail
  have H55 := hid (show St B W [.cells B A 33] [] (W.alloc (.cells A 33)) from (HI0.out.alloc A 33 hB))
  first | refine gen_code H55.out ?_ | refine gen_list H55.out ?_ | refine gen_calls H55.out ?_
  intro w56 hG
  clear H55
  have H55 := hid hG
  clear hG
  by_cases c57 : (kd : Int) = 2
  · obtain ⟨c57c, c57d⟩ : (kd : Int) ≤ 2 ∧ (2 : Int) ≤ kd := by omega
    have c57a : ((kd : Int) == (2)) = true := by simpa using c57
    have c57b : ((kd : Int) != (2)) = false := by simpa using c57
    have c57h := hid c57
    clear c57
    have z58 := H55.out.cell 0 rfl 7 (show A[7]? = some (.int .i64 kh) from by rw [HA.out]; rfl)
    have z59 := H55.out.cell 0 rfl 0 (show A[0]? = some (.int .i64 kd) from by rw [HA.out]; rfl)
    have z60 := H55.out.cell 0 rfl 10 (show A[10]? = some (.slice ca cn cc) from by rw [HA.out]; rfl)
    have z61 := H55.out.loadStg 0 rfl (by rw [HA.out]; rfl)
    have z62 := H55.out.cell 0 rfl 14 (show A[14]? = some (.slice ya yn yc) from by rw [HA.out]; rfl)
    go_wp2_with (refine loadArm z61 (by rfl) (by rfl) ?_)
    clear z58 z59 z60 z61 z62
    refine (rneeded_any HA.out X Y _ _ _ _ ya yn yc Y _ (H55.out.oldTps HX.out) (H55.out.oldTps HY.out) (H55.out.oldTps HY.out) (fun hf hk => by have h9 := fine_side hf; have := c57h.out; have h1 := h9.1; have h2 := h9.2.1; omega) (fun hf hk => ((fine_side hf).2.2 hk).2)).mono ?_
    rintro e w63 ⟨v64, rfl, ho, hb⟩
    have H65 := hid (H55.out.grow hb ho)
    obtain ⟨v64a, v64c, rfl, _⟩ := ho.slc
    clear ho hb
    obtain ⟨L9, hL9⟩ : ∃ xx', ndL (stFine kd sb ep ef kw kh wn rn cn sh sh2 xn yn bins on mx X Y n from' to') kd ep (cn : Int) n Y from' to' = xx' := ⟨_, rfl⟩
    rw [hL9] at H65 ⊢
    have HLL9 := hid hL9
    clear hL9
    go_wp2_with fail
    go_ret
    exact ⟨_, rfl, by (try rw [hB]); rw [show stRow kd sb ep ef kw kh wn rn cn sh sh2 xn yn bins on mx X Y n from' to' = L9 from by rw [← HLL9.out]; unfold stRow; have := c57h.out; first | (rw [if_pos (by omega)]; done) | (rw [if_neg (by omega)]; done)]; exact H65.out.own 0 rfl, by first | exact H65.out.below | exact H65.out.below'⟩
  · have c57a : ((kd : Int) == (2)) = false := by simpa using c57
    have c57b : ((kd : Int) != (2)) = true := by simpa using c57
    have c57h := hid c57
    clear c57
    have z66 := H55.out.cell 0 rfl 7 (show A[7]? = some (.int .i64 kh) from by rw [HA.out]; rfl)
    have z67 := H55.out.cell 0 rfl 0 (show A[0]? = some (.int .i64 kd) from by rw [HA.out]; rfl)
    have z68 := H55.out.loadStg 0 rfl (by rw [HA.out]; rfl)
    have z69 := H55.out.cell 0 rfl 14 (show A[14]? = some (.slice ya yn yc) from by rw [HA.out]; rfl)
    go_wp2_with (refine loadArm z68 (by rfl) (by rfl) ?_)
    clear z66 z67 z68 z69
    refine (rneeded_any HA.out X Y _ _ _ _ ya yn yc Y _ (H55.out.oldTps HX.out) (H55.out.oldTps HY.out) (H55.out.oldTps HY.out) (fun hf hk => by have h9 := fine_side hf; have := c57h.out; have h1 := h9.1; have h2 := h9.2.1; omega) (fun hf hk => ((fine_side hf).2.2 hk).2)).mono ?_
    rintro e w70 ⟨v71, rfl, ho, hb⟩
    have H72 := hid (H55.out.grow hb ho)
    obtain ⟨v71a, v71c, rfl, _⟩ := ho.slc
    clear ho hb
    obtain ⟨L9, hL9⟩ : ∃ xx', ndL (stFine kd sb ep ef kw kh wn rn cn sh sh2 xn yn bins on mx X Y n from' to') kd ep kh n Y from' to' = xx' := ⟨_, rfl⟩
    rw [hL9] at H72 ⊢
    have HLL9 := hid hL9
    clear hL9
    go_wp2_with fail
    go_ret
    exact ⟨_, rfl, by (try rw [hB]); rw [show stRow kd sb ep ef kw kh wn rn cn sh sh2 xn yn bins on mx X Y n from' to' = L9 from by rw [← HLL9.out]; unfold stRow; have := c57h.out; first | (rw [if_pos (by omega)]; done) | (rw [if_neg (by omega)]; done)]; exact H72.out.own 0 rfl, by first | exact H72.out.below | exact H72.out.below'⟩
end Go.Proofs.Ytlidacfokgdlgaa
