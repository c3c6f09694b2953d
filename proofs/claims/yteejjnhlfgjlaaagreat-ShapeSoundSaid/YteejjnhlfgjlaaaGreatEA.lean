/-
 Shapes of results: the plain law of the checks of a stage. Equal shapes. Contracts: valid shapes, kinds with edges, pairs of sources and sources, in the program and in the reference.
-/
import Derived.Test.YteejjnhlfgjlaaaGreatKN
import Derived.Test.YteejjnhlfgjlaaaGreatSpPlain
import Derived.Test.YteejjnhlfgjlaaaGreatRzPlain
import Derived.Test.YteejjnhlfgjlaaaGreatPT
import Derived.Test.YteejjnhlfgjlaaaGreatKA
import Derived.Test.YteejjnhlfgjlaaaGreatStF
import Derived.Test.YteejjnhlfgjlaaaGreatKH
import Derived.Test.YteejjnhlfgjlaaaGreatKB
namespace Go.Proofs.YteejjnhlfgjlaaaGreat
section
open Go.RowKit
set_option linter.unusedVariables false

def shTwo (kd sb : Int) : Bool := decide (kd = 6 ∧ ¬ sb = -1)
def shPn (ol : List (Int × Int)) (two : Bool) (aw ah am bw bh bm mx : Int) : Int :=
 if vCode ol two ≠ 0 then vCode ol two
 else if ¬ valOk mx = true then 2
 else if (ivR ol am (pwS two bm)).2.2 ≠ 0 then (ivR ol am (pwS two bm)).2.2
 else if two = true ∧ ¬ (aw = bw ∧ ah = bh) then 8 else 0
def shCk (kd sb kw kh : Int) (wl rl cl : List Int) (sh sh2 : Int) (X Y : Tbl) (bins : Int) (ol : List (Int × Int)) (mx aw ah am bw bh bm : Int) : Int :=
 if kd = 1 then cvCode am kw kh wl sh mx
 else if kd = 2 then spCode am rl cl sh sh2 mx
 else if kd = 3 then rzCode aw ah am X Y sh sh2 mx
 else if kd = 4 then (if 1 ≤ bins ∧ bins ≤ 128 then 0 else 9)
 else if kd = 5 then iCode aw ah am
 else shPn ol (shTwo kd sb) aw ah am bw bh bm mx
def shCode (sf : Bool) (kd sb ep ef kw kh : Int) (wl rl cl : List Int) (sh sh2 : Int) (X Y : Tbl) (bins : Int) (ol : List (Int × Int)) (mx aw ah am bw bh bm : Int) : Int :=
 if sf = false then 1
 else if pOk aw ah am = false ∨ (shTwo kd sb = true ∧ pOk bw bh bm = false) then 2
 else if kd ≤ 3 ∧ bValid ep ef am = false then 1
 else shCk kd sb kw kh wl rl cl sh sh2 X Y bins ol mx aw ah am bw bh bm
def shIf (c v : Int) : Int := if c = 0 then v else 0
def shW (kd : Int) (xn : Nat) (bins aw : Int) : Int := if kd = 3 then (xn : Int) else if kd = 4 then bins else aw
def shH (kd : Int) (yn : Nat) (ah : Int) : Int := if kd = 3 then (yn : Int) else if kd = 4 then 1 else ah
def shM (kd mx aw ah am : Int) : Int := if kd = 4 then aw * ah else if kd = 5 then am * aw * ah else mx
end

section
open Go.RowKit
set_option linter.unusedVariables false
set_option linter.unusedSimpArgs false
theorem eqIn_shape (d : Nat) (a b c x y z : Int) (w : World) : (Op.equalIn (d + 2) 37 (.agg #[.int .i64 a, .int .i64 b, .int .i64 c]) (.agg #[.int .i64 x, .int .i64 y, .int .i64 z])).run Tryz.prog w = .ok (decide (a = x ∧ b = y ∧ c = z)) w := by
 have h := Tryz.underlying37; have h2 := Tryz.underlying3; simp [Op.equalIn, run_underlying h, run_underlying h2, part, go_sem]
 by_cases h1 : a = x <;> by_cases h3 : b = y <;> by_cases h4 : c = z <;> simp [h1, h3, h4]
theorem shape_eq (a b c x y z : Int) (w : World) : (binOp .eql 37 (.agg #[.int .i64 a, .int .i64 b, .int .i64 c]) (.agg #[.int .i64 x, .int .i64 y, .int .i64 z])).run Tryz.prog w = .ok (.bool (decide (a = x ∧ b = y ∧ c = z))) w := by
 have h := Tryz.underlying37; simp [binOp, run_underlying h, go_sem, Op.equal, Op.maxDepth, eqIn_shape 9998]
theorem shape_ne (a b c x y z : Int) (w : World) : (binOp .neq 37 (.agg #[.int .i64 a, .int .i64 b, .int .i64 c]) (.agg #[.int .i64 x, .int .i64 y, .int .i64 z])).run Tryz.prog w = .ok (.bool (!decide (a = x ∧ b = y ∧ c = z))) w := by
 have h := Tryz.underlying37; simp [binOp, run_underlying h, go_sem, Op.equal, Op.maxDepth, eqIn_shape 9998]
end

section
open Go.RowKit
attribute [local go_sem ↓] Go.wp_at_zero Go.wp_at_succ
set_option linter.unusedVariables false
set_option linter.unusedSimpArgs false

def shSrc (kd sa sb : Int) : List Int := if shTwo kd sb = true then [sa, sb] else [sa]

set_option maxRecDepth 100000 in
set_option maxHeartbeats 1600000 in
theorem shvalid_any (w h mx : Int) (W : World) : Calls Tryz.prog 14 #[.agg #[.int .i64 w, .int .i64 h, .int .i64 mx]] W fun e w' => e = .returned (.bool (pOk w h mx)) ∧ Below W.heap.size W w' := by
 obtain ⟨B, hB⟩ : ∃ B, W.heap.size = B := ⟨_, rfl⟩; have HI0 := kq (St.init hB)
 go_enter Tryz.func14, Tryz.ntmps14
 go_upto_region 1 with fail
 have H1 := kq (HI0.o.alloc #[.int .i64 w, .int .i64 h, .int .i64 mx] 37 hB); first | refine gK H1 ?_ | refine gL H1 ?_ | refine gC H1 ?_
 clear H1; intro w2 H1; by_cases c3 : (w : Int) < 1
 ·
  have z4 := H1.o.c3 0 rfl; go_wp2_with fail
  clear z4
  go_ret
  exact ⟨ret_b (by unfold pOk; exact (decide_eq_false (by omega)).symm), H1.o.bl⟩
 by_cases c7 : (128 : Int) < w
 ·
  have z8 := H1.o.c3 0 rfl; go_wp2_with fail
  clear z8
  go_ret
  exact ⟨ret_b (by unfold pOk; exact (decide_eq_false (by omega)).symm), H1.o.bl⟩
 by_cases c1 : (h : Int) < 1
 ·
  have z1 := H1.o.c3 0 rfl; go_wp2_with fail
  clear z1
  go_ret
  exact ⟨ret_b (by unfold pOk; exact (decide_eq_false (by omega)).symm), H1.o.bl⟩
 by_cases c1 : (128 : Int) < h
 ·
  have z16 := H1.o.c3 0 rfl; go_wp2_with fail
  clear z16
  go_ret
  exact ⟨ret_b (by unfold pOk; exact (decide_eq_false (by omega)).symm), H1.o.bl⟩
 by_cases c1 : (mx : Int) < 1
 ·
  have z1 := H1.o.c3 0 rfl; go_wp2_with fail
  clear z1
  go_ret
  exact ⟨ret_b (by unfold pOk; exact (decide_eq_false (by omega)).symm), H1.o.bl⟩
 by_cases c1 : (4294967296 : Int) < mx
 ·
  have z1 := H1.o.c3 0 rfl; go_wp2_with fail
  clear z1
  go_ret
  exact ⟨ret_b (by unfold pOk; exact (decide_eq_false (by omega)).symm), H1.o.bl⟩
 have z1 := H1.o.c3 0 rfl; go_wp2_with fail
 clear z1; refine (mulAny w h 4096 _ (by omega)).mono ?_; rintro e w1 ⟨rfl, hsw⟩; have hsw2 : w2 = w1 := by first | exact hsw | exact hsw.symm
 clear hsw; subst hsw2; obtain ⟨mv, hmv⟩ := nK (mVal w h 4096); rw [hmv]; clear hmv; obtain ⟨b1, HNb1⟩ := nQ (mOk w h 4096); rw [HNb1.o]; go_wp2_with fail
 go_ret
 exact ⟨ret_b (by rw [← HNb1.o]; unfold pOk mOk; exact decide_eq_decide.2 (by omega)), H1.o.bl⟩

set_option maxRecDepth 100000 in
set_option maxHeartbeats 1600000 in
theorem rshvalid_any (w h mx : Int) (W : World) : Calls Tryz.prog 45 #[.agg #[.int .i64 w, .int .i64 h, .int .i64 mx]] W fun e w' => e = .returned (.bool (pOk w h mx)) ∧ Below W.heap.size W w' := by
 obtain ⟨B, hB⟩ : ∃ B, W.heap.size = B := ⟨_, rfl⟩; have HI0 := kq (St.init hB)
 go_enter Tryz.func45, Tryz.ntmps45
 go_upto_region 1 with fail
 have H32 := kq (HI0.o.alloc #[.int .i64 w, .int .i64 h, .int .i64 mx] 37 hB); first | refine gK H32 ?_ | refine gL H32 ?_ | refine gC H32 ?_
 clear H32; intro w1 H32; have z1 := H32.o.c3 0 rfl; go_wp2_with fail
 clear z1; refine (qsize_any _ _ _ _).mono ?_; rintro e w2 ⟨rfl, hsw⟩; have hsw2 : w1 = w2 := by first | exact hsw | exact hsw.symm
 clear hsw; subst hsw2; obtain ⟨b1, HNb1⟩ := nQ (pOk w h mx); rw [HNb1.o]; go_wp2_with fail
 go_ret
 exact ⟨ret_b HNb1.o.symm, H32.o.bl⟩

set_option maxRecDepth 100000 in
set_option maxHeartbeats 1600000 in
theorem pair_any {kd sa sb : Int} {bar : Bool} {ep ef kw kh : Int} {wa : Option Addr} {wn wc : Nat} {ra : Option Addr} {rn rc : Nat} {ca : Option Addr} {cn cc : Nat} {sh sh2 : Int} {xa : Option Addr} {xn xc : Nat} {ya : Option Addr} {yn yc : Nat} {bins : Int} {oa : Option Addr} {on oc : Nat} {mx : Int} {A : Array Value} (hA : A = #[.int .i64 kd, .int .i64 sa, .int .i64 sb, .bool bar, .int .i64 ep, .int .i64 ef, .int .i64 kw, .int .i64 kh, .slice wa wn wc, .slice ra rn rc, .slice ca cn cc, .int .i64 sh, .int .i64 sh2, .slice xa xn xc, .slice ya yn yc, .int .i64 bins, .slice oa on oc, .int .i64 mx]) (W : World) : Calls Tryz.prog 23 #[.agg A] W fun e w' => e = .returned (.bool (shTwo kd sb)) ∧ Below W.heap.size W w' := by
 have HA := kq hA; clear hA; obtain ⟨B, hB⟩ : ∃ B, W.heap.size = B := ⟨_, rfl⟩; have HI0 := kq (St.init hB)
 go_enter Tryz.func23, Tryz.ntmps23
 go_upto_region 1 with fail
 have H1 := kq (HI0.o.alloc A 34 hB); first | refine gK H1 ?_ | refine gL H1 ?_ | refine gC H1 ?_
 clear H1; intro w1 H1
 rcases eqZ kd 6 with ⟨c1a, c1b, c1c, c1d, c1h⟩ | ⟨c1a, c1b, c1h⟩
 ·
  have z1 := H1.o.cell 0 rfl 0 (show A[0]? = some (.int .i64 kd) from by rw [HA.o]; rfl); have z2 := H1.o.cell 0 rfl 2 (show A[2]? = some (.int .i64 sb) from by rw [HA.o]; rfl); go_wp2_with fail
  clear z1 z2
  go_ret
  exact ⟨ret_b (by unfold shTwo; have := c1h.o; rw [Bool.eq_iff_iff]; simp; omega), H1.o.bl⟩
 have z1 := H1.o.cell 0 rfl 0 (show A[0]? = some (.int .i64 kd) from by rw [HA.o]; rfl); go_wp2_with fail
 clear z1
 go_ret
 exact ⟨ret_b (by unfold shTwo; have := c1h.o; exact (decide_eq_false (by omega)).symm), H1.o.bl⟩

set_option maxRecDepth 100000 in
set_option maxHeartbeats 1600000 in
theorem rtwo_any {kd sa sb : Int} {bar : Bool} {ep ef kw kh : Int} {wa : Option Addr} {wn wc : Nat} {ra : Option Addr} {rn rc : Nat} {ca : Option Addr} {cn cc : Nat} {sh sh2 : Int} {xa : Option Addr} {xn xc : Nat} {ya : Option Addr} {yn yc : Nat} {bins : Int} {oa : Option Addr} {on oc : Nat} {mx : Int} {A : Array Value} (hA : A = #[.int .i64 kd, .int .i64 sa, .int .i64 sb, .bool bar, .int .i64 ep, .int .i64 ef, .int .i64 kw, .int .i64 kh, .slice wa wn wc, .slice ra rn rc, .slice ca cn cc, .int .i64 sh, .int .i64 sh2, .slice xa xn xc, .slice ya yn yc, .int .i64 bins, .slice oa on oc, .int .i64 mx]) (W : World) : Calls Tryz.prog 27 #[.agg A] W fun e w' => e = .returned (.bool (shTwo kd sb)) ∧ Below W.heap.size W w' := by
 have HA := kq hA; clear hA; obtain ⟨B, hB⟩ : ∃ B, W.heap.size = B := ⟨_, rfl⟩; have HI0 := kq (St.init hB)
 go_enter Tryz.func27, Tryz.ntmps27
 go_upto_region 1 with fail
 have H1 := kq (HI0.o.alloc A 34 hB); first | refine gK H1 ?_ | refine gL H1 ?_ | refine gC H1 ?_
 clear H1; intro w1 H1
 rcases eqZ kd 6 with ⟨c1a, c1b, c1c, c1d, c1h⟩ | ⟨c1a, c1b, c1h⟩
 ·
  have z1 := H1.o.cell 0 rfl 0 (show A[0]? = some (.int .i64 kd) from by rw [HA.o]; rfl); have z2 := H1.o.cell 0 rfl 2 (show A[2]? = some (.int .i64 sb) from by rw [HA.o]; rfl); go_wp2_with fail
  clear z1 z2
  go_ret
  exact ⟨ret_b (by unfold shTwo; have := c1h.o; rw [Bool.eq_iff_iff]; simp; omega), H1.o.bl⟩
 have z1 := H1.o.cell 0 rfl 0 (show A[0]? = some (.int .i64 kd) from by rw [HA.o]; rfl); go_wp2_with fail
 clear z1
 go_ret
 exact ⟨ret_b (by unfold shTwo; have := c1h.o; exact (decide_eq_false (by omega)).symm), H1.o.bl⟩

set_option maxRecDepth 100000 in
set_option maxHeartbeats 1600000 in
theorem sources_any {kd sa sb : Int} {bar : Bool} {ep ef kw kh : Int} {wa : Option Addr} {wn wc : Nat} {ra : Option Addr} {rn rc : Nat} {ca : Option Addr} {cn cc : Nat} {sh sh2 : Int} {xa : Option Addr} {xn xc : Nat} {ya : Option Addr} {yn yc : Nat} {bins : Int} {oa : Option Addr} {on oc : Nat} {mx : Int} {A : Array Value} (hA : A = #[.int .i64 kd, .int .i64 sa, .int .i64 sb, .bool bar, .int .i64 ep, .int .i64 ef, .int .i64 kw, .int .i64 kh, .slice wa wn wc, .slice ra rn rc, .slice ca cn cc, .int .i64 sh, .int .i64 sh2, .slice xa xn xc, .slice ya yn yc, .int .i64 bins, .slice oa on oc, .int .i64 mx]) (W : World) : Calls Tryz.prog 33 #[.agg A] W fun e w' => ∃ v, e = .returned v ∧ Own W.heap.size w' v (shSrc kd sa sb) ∧ Below W.heap.size W w' := by
 have HA := kq hA; clear hA; obtain ⟨B, hB⟩ : ∃ B, W.heap.size = B := ⟨_, rfl⟩; have HI0 := kq (St.init hB)
 go_enter Tryz.func33, Tryz.ntmps33
 go_upto_region 1 with fail
 have H1 := kq (HI0.o.alloc A 34 hB); first | refine gK H1 ?_ | refine gL H1 ?_ | refine gC H1 ?_
 clear H1; intro w1 H1; have z1 := H1.o.loadStg 0 rfl (by rw [HA.o]; rfl)
 go_wp2_with (refine loadArm z1 (by rfl) (by rfl) ?_)
 clear z1; refine (pair_any HA.o _).mono ?_; rintro e w1 ⟨rfl, hb⟩; have H2 := kq (H1.o.call hb); clear hb; obtain ⟨b1, HNb1⟩ := nQ (shTwo kd sb); rw [HNb1.o]; cases b1; rotate_left
 ·
  obtain ⟨D1, hD1⟩ := nK w1.heap.size; have z1 := H2.o.cell 0 rfl 1 (show A[1]? = some (.int .i64 sa) from by rw [HA.o]; rfl); have z2 := H2.o.cell 0 rfl 2 (show A[2]? = some (.int .i64 sb) from by rw [HA.o]; rfl); go_wp2_with fail
  clear z1 z2; have H1 := kq (H2.o.alloc #[.int .i64 sa, .int .i64 sb] 3 hD1); clear hD1; have hsr : shSrc kd sa sb = [sa, sb] := by unfold shSrc; rw [HNb1.o]; rfl
  go_ret
  exact ⟨_, rfl, by (try rw [hB]); rw [hsr]; exact (H1.o.litOwn 0 [sa, sb] rfl (by simp)).own 0 rfl, H1.o.bl⟩
 obtain ⟨D1, hD1⟩ := nK w1.heap.size; have z1 := H2.o.cell 0 rfl 1 (show A[1]? = some (.int .i64 sa) from by rw [HA.o]; rfl); go_wp2_with fail
 clear z1; have H1 := kq (H2.o.alloc #[.int .i64 sa] 3 hD1); clear hD1; have hsr : shSrc kd sa sb = [sa] := by unfold shSrc; rw [HNb1.o]; rfl
 go_ret
 exact ⟨_, rfl, by (try rw [hB]); rw [hsr]; exact (H1.o.litOwn 0 [sa] rfl (by simp)).own 0 rfl, H1.o.bl⟩
end
end Go.Proofs.YteejjnhlfgjlaaaGreat
