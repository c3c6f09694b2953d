/-
 Contracts: the interval of an operation, in the program and in the reference.
-/
import Derived.Test.YteejjnhlfgjlaaaPw2
namespace Go.Proofs.Yteejjnhlfgjlaaa
open Go.RowKit
attribute [local go_sem ↓] Go.wp_at_zero Go.wp_at_succ
set_option linter.unusedVariables false
set_option linter.unusedSimpArgs false

/-! ## the four products -/
def prodP (xl xh yl yh : Int) : Nat → Int
 | 0 => xl * yl
 | 1 => xl * yh
 | 2 => xh * yl
 | _ => xh * yh
def tmLo (P : Nat → Int) : Nat → Int
 | 0 => 0
 | 1 => P 0
 | n + 2 => mnI (tmLo P (n + 1)) (P (n + 1))
def tmHi (P : Nat → Int) : Nat → Int
 | 0 => 0
 | 1 => P 0
 | n + 2 => mxI (tmHi P (n + 1)) (P (n + 1))
def tmInv (P : Nat → Int) (lo hi k : Int) : Prop := lo = tmLo P k.toNat ∧ hi = tmHi P k.toNat ∧ ∀ i, i < k.toNat → accOk (P i) = true
theorem mag_bd {x y : Int} (hx : accOk x = true) (hy : accOk y = true) : 0 ≤ mxI (absI x) (absI y) ∧ mxI (absI x) (absI y) ≤ 17592186044416 := by
 have a := absI_bd (accOk_iff.1 hx)
 have b := absI_bd (accOk_iff.1 hy)
 unfold mxI; split <;> omega
theorem tm_zero (P : Nat → Int) : tmInv P 0 0 0 := ⟨rfl, rfl, fun i h => by simp at h⟩
theorem tm_first {P : Nat → Int} {lo hi t : Int} (h : tmInv P lo hi 0) (ht : t = P 0) (ha : accOk (P 0) = true) : tmInv P t t 1 := by
  refine ⟨?_, ?_, fun i hi => ?_⟩
  · exact ht
  · exact ht
  · have : i = 0 := by have : (1 : Int).toNat = 1 := rfl
                       omega
    subst this; exact ha
theorem tm_next {P : Nat → Int} {lo hi t m m' k : Int} (n : Nat) (hk : k = (n : Int) + 1) (h : tmInv P lo hi k) (ht : t = P (n + 1)) (ha : accOk (P (n + 1)) = true) (hm : (if t < lo then t else lo) = m) (hm' : (if hi < t then t else hi) = m') : tmInv P m m' (k + 1) := by
 obtain ⟨h1, h2, h3⟩ := h
 have e1 : k.toNat = n + 1 := by omega
 have e2 : (k + 1).toNat = n + 2 := by omega
 rw [e1] at h1 h2 h3
 refine ⟨?_, ?_, fun i hi => ?_⟩
 ·
  rw [e2, ← hm, ht, h1]; rfl
 ·
  rw [e2, ← hm', ht, h2]; rfl
 ·
  rw [e2] at hi
  rcases Nat.lt_or_ge i (n + 1) with h' | h'
  ·
   exact h3 i h'
  ·
   rw [show i = n + 1 by omega]; exact ha
theorem tm_all {xl xh yl yh lo hi : Int} (h : tmInv (prodP xl xh yl yh) lo hi 4) : pwMul (xl, xh) (yl, yh) = true ∧ lo = mnI (mnI (mnI (xl * yl) (xl * yh)) (xh * yl)) (xh * yh) ∧ hi = mxI (mxI (mxI (xl * yl) (xl * yh)) (xh * yl)) (xh * yh) := by
 obtain ⟨h1, h2, h3⟩ := h
 refine ⟨?_, h1, h2⟩
 have a0 := h3 0 (by decide)
 have a1 := h3 1 (by decide)
 have a2 := h3 2 (by decide)
 have a3 := h3 3 (by decide)
 simp only [prodP] at a0 a1 a2 a3
 simp [pwMul, a0, a1, a2, a3]
theorem pwMul_no {xl xh yl yh : Int} (i : Nat) (h : accOk (prodP xl xh yl yh i) = false) : pwMul (xl, xh) (yl, yh) = false := by
 rcases (show i = 0 ∨ i = 1 ∨ i = 2 ∨ 3 ≤ i by omega) with rfl | rfl | rfl | h3
 ·
  simp only [prodP] at h; simp [pwMul, h]
 ·
  simp only [prodP] at h; simp [pwMul, h]
 ·
  simp only [prodP] at h; simp [pwMul, h]
 ·
  obtain ⟨n, rfl⟩ : ∃ n, i = n + 3 := ⟨i - 3, by omega⟩
  simp only [prodP] at h; simp [pwMul, h]
theorem idx42_0 (a b c d e f g h : Value) (w : World) : (Instr.index 106 (.agg #[a, b, c, d, e, f, g, h]) (.int .i64 0)).run Try.prog w = .ok (.agg #[a, b]) w := by
 have hu := Try.underlying106
 simp [Instr.index, run_underlying hu, asIntOf, go_sem]
theorem idx42_1 (a b c d e f g h : Value) (w : World) : (Instr.index 106 (.agg #[a, b, c, d, e, f, g, h]) (.int .i64 1)).run Try.prog w = .ok (.agg #[c, d]) w := by
 have hu := Try.underlying106
 simp [Instr.index, run_underlying hu, asIntOf, go_sem]
theorem idx42_2 (a b c d e f g h : Value) (w : World) : (Instr.index 106 (.agg #[a, b, c, d, e, f, g, h]) (.int .i64 2)).run Try.prog w = .ok (.agg #[e, f]) w := by
 have hu := Try.underlying106
 simp [Instr.index, run_underlying hu, asIntOf, go_sem]
theorem idx42_3 (a b c d e f g h : Value) (w : World) : (Instr.index 106 (.agg #[a, b, c, d, e, f, g, h]) (.int .i64 3)).run Try.prog w = .ok (.agg #[g, h]) w := by
 have hu := Try.underlying106
 simp [Instr.index, run_underlying hu, asIntOf, go_sem]
theorem run_min4 {P : Program} (w : World) (ts : Array TypeId) (t : TypeId) (a b c d : Int) : (Builtin.min_ ts t #[.int .i64 a, .int .i64 b, .int .i64 c, .int .i64 d]).run P w = .ok (.int .i64 (mnI (mnI (mnI a b) c) d)) w := by
 simp [Builtin.min_, Builtin.min2, mnI, Sem.run_bind, Sem.run_pure]
 rfl
theorem run_max4 {P : Program} (w : World) (ts : Array TypeId) (t : TypeId) (a b c d : Int) : (Builtin.max_ ts t #[.int .i64 a, .int .i64 b, .int .i64 c, .int .i64 d]).run P w = .ok (.int .i64 (mxI (mxI (mxI a b) c) d)) w := by
 simp [Builtin.max_, Builtin.max2, mxI, Sem.run_bind, Sem.run_pure]
 rfl
attribute [local go_sem ↓] run_min4 run_max4
attribute [local go_sem ↓] idx42_0 idx42_1 idx42_2 idx42_3

set_option maxRecDepth 100000 in
set_option maxHeartbeats 1600000 in
theorem pmag_any (xl xh : Int) (W : World) (hxl : accOk xl = true) (hxh : accOk xh = true) : Calls Try.prog 86 #[.agg #[.int .i64 xl, .int .i64 xh]] W fun e w' => e = .returned (.int .i64 (mxI (absI xl) (absI xh))) ∧ Below W.heap.size W w' := by
 obtain ⟨xl1, xl2⟩ := accOk_iff.1 hxl
 obtain ⟨xh1, xh2⟩ := accOk_iff.1 hxh
 obtain ⟨B, hB⟩ : ∃ B, W.heap.size = B := ⟨_, rfl⟩
 have HI0 := hid (St.init hB)
 go_enter Try.func86, Try.ntmps86
 go_upto_region 1 with fail
 have H188 := hid (HI0.out.alloc #[.int .i64 xl, .int .i64 xh] 94 hB)
 first | refine gen_code H188.out ?_ | refine gen_list H188.out ?_ | refine gen_calls H188.out ?_
 intro w189 hG
 clear H188
 have H188 := hid hG
 clear hG
 obtain ⟨mg, hmg⟩ : ∃ zz : Int, (if absI xl < absI xh then absI xh else absI xl) = zz := ⟨_, rfl⟩
 have H190 := hid H188.out.drew
 refine wp_region_held_drew (S := (fun w' => w'.cell? ⟨B, 0, none⟩ = some (.int .i64 xl) ∧ w'.cell? ⟨B, 1, none⟩ = some (.int .i64 xh))) (by kernel_rfl) ⟨H190.out.cell 0 rfl 0 rfl, H190.out.cell 0 rfl 1 rfl⟩ (fun hHeld => ?_)
 generalize w189.drew = k191 at *
 refine tkA 0 ?_
 try simp only [Act.put, p1, p2, p3, p4, p5, p6]
 refine tkA 1 ?_
 try simp only [Act.put, p1, p2, p3, p4, p5, p6]
 refine tkA 3 ?_
 try simp only [Act.put, p1, p2, p3, p4, p5, p6]
 refine tkA 4 ?_
 try simp only [Act.put, p1, p2, p3, p4, p5, p6]
 refine wpAnyH_ready (rs := [2]) (by kernel_rfl) (by simp) (AllReadyH.cons (o := _) rfl (fun K hK => ?_) AllReadyH.nil)
 go_simp
 go_at_call 91
 refine (pabs_any _ (by omega) _).mono ?_
 rintro e w192 ⟨rfl, hsw⟩
 have hsw2 : k191 = w192 := by first | exact hsw | exact hsw.symm
 clear hsw
 subst hsw2
 refine hK.out _ _ ?_ (fun hHeld2 => ?_)
 focus ((try dsimp only); (exact ⟨H190.out.cell 0 rfl 0 rfl, H190.out.cell 0 rfl 1 rfl⟩))
 clear hK K
 try simp only [Act.put, p1, p2, p3, p4, p5, p6]
 clear hHeld
 have hHeld := hHeld2
 clear hHeld2
 refine wpAnyH_ready (rs := [5]) (by kernel_rfl) (by simp) (AllReadyH.cons (o := _) rfl (fun K hK => ?_) AllReadyH.nil)
 go_simp
 go_at_call 91
 refine (pabs_any _ (by omega) _).mono ?_
 rintro e w193 ⟨rfl, hsw⟩
 have hsw2 : k191 = w193 := by first | exact hsw | exact hsw.symm
 clear hsw
 subst hsw2
 refine hK.out _ _ ?_ (fun hHeld2 => ?_)
 focus ((try dsimp only); (exact ⟨H190.out.cell 0 rfl 0 rfl, H190.out.cell 0 rfl 1 rfl⟩))
 clear hK K
 try simp only [Act.put, p1, p2, p3, p4, p5, p6]
 clear hHeld
 have hHeld := hHeld2
 clear hHeld2
 refine tkA 6 ?_
 try simp only [Act.put, p1, p2, p3, p4, p5, p6]
 refine tkA 7 ?_
 try simp only [Act.put, p1, p2, p3, p4, p5, p6]
 refine wpAnyH_done (by kernel_rfl) ?_ _
 try clear hHeld
 go_wp2_with fail
 go_ret
 exact ⟨ret_i hmg.symm, by first | exact H190.out.below | exact H190.out.below'⟩

set_option maxRecDepth 100000 in
set_option maxHeartbeats 6400000 in
theorem ptimes_any (xl xh yl yh : Int) (W : World) (hxl : accOk xl = true) (hxh : accOk xh = true) (hyl : accOk yl = true) (hyh : accOk yh = true) : Calls Try.prog 85 #[.agg #[.int .i64 xl, .int .i64 xh], .agg #[.int .i64 yl, .int .i64 yh]] W fun e w' => (∃ lo hi, e = .returned (.tuple #[.agg #[.int .i64 lo, .int .i64 hi], .bool (pwMul (xl, xh) (yl, yh))]) ∧ (pwMul (xl, xh) (yl, yh) = true → lo = mnI (mnI (mnI (xl * yl) (xl * yh)) (xh * yl)) (xh * yh) ∧ hi = mxI (mxI (mxI (xl * yl) (xl * yh)) (xh * yl)) (xh * yh))) ∧ Below W.heap.size W w' := by
 obtain ⟨xl1, xl2⟩ := accOk_iff.1 hxl
 obtain ⟨xh1, xh2⟩ := accOk_iff.1 hxh
 obtain ⟨yl1, yl2⟩ := accOk_iff.1 hyl
 obtain ⟨yh1, yh2⟩ := accOk_iff.1 hyh
 obtain ⟨B, hB⟩ : ∃ B, W.heap.size = B := ⟨_, rfl⟩
 have HI0 := hid (St.init hB)
 go_enter Try.func85, Try.ntmps85
 go_upto_region 1 with fail
 have H194 := hid (show St _ _ (.cells (B + 1 + 1) _ _ :: .cells (B + 1) _ _ :: .cells B _ _ :: _) _ _ from (((HI0.out.alloc #[.int .i64 xl, .int .i64 xh] 94 hB).alloc #[.int .i64 yl, .int .i64 yh] 94 (by first | exact hB | simp [hB])).alloc #[.int .i64 0, .int .i64 0] 94 (by first | exact hB | simp [hB])))
 first | refine gen_code H194.out ?_ | refine gen_list H194.out ?_ | refine gen_calls H194.out ?_
 intro w195 hG
 clear H194
 have H194 := hid hG
 clear hG
 obtain ⟨D196, hD196⟩ : ∃ D, w195.heap.size = D := ⟨_, rfl⟩
 go_upto_region 2 with fail
 have H197 := hid (H194.out.alloc #[.int .i64 0, .int .i64 0] 94 hD196)
 first | refine gen_code H197.out ?_ | refine gen_list H197.out ?_ | refine gen_calls H197.out ?_
 intro w198 hG
 clear H197
 have H197 := hid hG
 clear hG
 clear hD196
 have z199 := H197.out.cell 3 rfl 0 rfl
 have z200 := H197.out.cell 3 rfl 1 rfl
 have z201 := H197.out.cell 2 rfl 0 rfl
 have z202 := H197.out.cell 2 rfl 1 rfl
 go_wp2_with fail
 clear z199 z200 z201 z202
 go_loopw [32] (fun i wr => ∃ (k lo hi : Int), 0 ≤ k ∧ k ≤ 4 ∧ i = .int .i64 k ∧ tmInv (prodP xl xh yl yh) lo hi k ∧ St B W [.cells D196 #[.int .i64 lo, .int .i64 hi] 94, .cells (B + 1 + 1) #[.int .i64 0, .int .i64 0] 94, .cells (B + 1) #[.int .i64 yl, .int .i64 yh] 94, .cells B #[.int .i64 xl, .int .i64 xh] 94] [] wr) (fun i _ => 4 - (intOf i).toNat)
 case atStart => exact ⟨0, 0, 0, by omega, by omega, rfl, tm_zero _, H197.out⟩
 case round =>
  obtain ⟨k, lo, hi, hk1, hk2, rfl, ht, hst⟩ := hrel
  obtain ⟨u203, rfl⟩ : ∃ u203 : World, u203 = wr := ⟨_, rfl⟩
  have H204 := hid hst
  clear hst
  have HT := hid ht
  clear ht
  rcases (show k = 0 ∨ k = 1 ∨ k = 2 ∨ k = 3 ∨ k = 4 by omega) with rfl | rfl | rfl | rfl | rfl
  ·
   skip
   clear hk1 hk2
   obtain ⟨D205, hD205⟩ : ∃ D, u203.heap.size = D := ⟨_, rfl⟩
   go_upto_region 5 with fail
   have H206 := hid (H204.out.alloc #[.int .i64 xl, .int .i64 yl] 105 hD205)
   first | refine gen_code H206.out ?_ | refine gen_list H206.out ?_ | refine gen_calls H206.out ?_
   intro w207 hG
   clear H206
   have H206 := hid hG
   clear hG
   clear hD205
   have z208 := H206.out.cell 0 rfl 0 rfl
   have z209 := H206.out.cell 0 rfl 1 rfl
   go_wp2_with fail
   clear z208 z209
   refine (pproduct_any _ _ _ hxl hyl).mono ?_
   rintro e w210 ⟨rfl, hsw⟩
   have hsw2 : w207 = w210 := by first | exact hsw | exact hsw.symm
   clear hsw
   subst hsw2
   obtain ⟨b211, hb211⟩ : ∃ xx', accOk (xl * yl) = xx' := ⟨_, rfl⟩
   rw [hb211]
   have HNb211 := hid hb211
   clear hb211
   obtain ⟨t212, ht212⟩ : ∃ xx', (if b211 = true then xl * yl else 0) = xx' := ⟨_, rfl⟩
   rw [ht212]
   have HNt212 := hid (show b211 = true → t212 = xl * yl from fun h => by rw [← ht212, if_pos h])
   clear ht212
   cases b211 with
   | true =>
    have z213 := H206.out.cell 1 rfl 0 rfl
    have z214 := H206.out.free 1 rfl 0
    have z215 := H206.out.cell 1 rfl 1 rfl
    have z216 := H206.out.free 1 rfl 1
    go_upto_region 10 with fail
    clear z213 z214 z215 z216
    have H217 := hid (show St _ _ (_ :: .cells D196 #[.int .i64 t212, .int .i64 t212] 94 :: _) _ _ from ((H206.out.set 1 rfl 0 (.int .i64 t212)).set 1 rfl 1 (.int .i64 t212)))
    first | refine gen_code H217.out ?_ | refine gen_list H217.out ?_ | refine gen_calls H217.out ?_
    intro w218 hG
    clear H217
    have H217 := hid hG
    clear hG
    have z219 := H217.out.cell 1 rfl 0 rfl
    have z220 := H217.out.free 1 rfl 0
    have z221 := H217.out.cell 1 rfl 1 rfl
    have z222 := H217.out.free 1 rfl 1
    go_upto_region 11 with fail
    clear z219 z220 z221 z222
    have H223 := hid (show St _ _ (_ :: .cells D196 #[.int .i64 t212, .int .i64 t212] 94 :: _) _ _ from ((H217.out.set 1 rfl 0 (.int .i64 t212)).set 1 rfl 1 (.int .i64 t212)))
    first | refine gen_code H223.out ?_ | refine gen_list H223.out ?_ | refine gen_calls H223.out ?_
    intro w224 hG
    clear H223
    have H223 := hid hG
    clear hG
    go_wp2_with fail
    go_roundw
    case rel => exact ⟨1, _, _, by omega, by omega, by go_num, tm_first HT.out (show t212 = xl * yl from by first | exact HNt212.out rfl | exact HNt212.out trivial) HNb211.out, H223.out.pick [1, 2, 3, 4] rfl (by decide)⟩
    case measure => first | (simp [intOf]; omega) | (simp [intOf]; done)
   | false =>
    have z225 := H206.out.cell 2 rfl 0 rfl
    have z226 := H206.out.free 2 rfl 0
    have z227 := H206.out.cell 2 rfl 1 rfl
    have z228 := H206.out.free 2 rfl 1
    go_wp2_with fail
    clear z225 z226 z227 z228
    have H229 := hid (show St _ _ (_ :: _ :: .cells (B + 1 + 1) #[.int .i64 0, .int .i64 0] 94 :: _) _ _ from ((H206.out.set 2 rfl 0 (.int .i64 0)).set 2 rfl 1 (.int .i64 0)))
    have q230 := H229.out.cell 2 rfl 0 rfl
    have q231 := H229.out.cell 2 rfl 1 rfl
    refine bodyPost_ret (v := .tuple #[.agg #[.int .i64 0, .int .i64 0], .bool false]) ?_ rfl ⟨⟨_, _, by rw [pwMul_no 0 HNb211.out], fun h => by rw [pwMul_no 0 HNb211.out] at h; cases h⟩, by first | exact H229.out.below | exact H229.out.below'⟩
    simp [results, Try.results85, go_sem, q230, q231]
  ·
   skip
   clear hk1 hk2
   obtain ⟨D232, hD232⟩ : ∃ D, u203.heap.size = D := ⟨_, rfl⟩
   go_upto_region 5 with fail
   have H233 := hid (H204.out.alloc #[.int .i64 xl, .int .i64 yh] 105 hD232)
   first | refine gen_code H233.out ?_ | refine gen_list H233.out ?_ | refine gen_calls H233.out ?_
   intro w234 hG
   clear H233
   have H233 := hid hG
   clear hG
   clear hD232
   have z235 := H233.out.cell 0 rfl 0 rfl
   have z236 := H233.out.cell 0 rfl 1 rfl
   go_wp2_with fail
   clear z235 z236
   refine (pproduct_any _ _ _ hxl hyh).mono ?_
   rintro e w237 ⟨rfl, hsw⟩
   have hsw2 : w234 = w237 := by first | exact hsw | exact hsw.symm
   clear hsw
   subst hsw2
   obtain ⟨b238, hb238⟩ : ∃ xx', accOk (xl * yh) = xx' := ⟨_, rfl⟩
   rw [hb238]
   have HNb238 := hid hb238
   clear hb238
   obtain ⟨t239, ht239⟩ : ∃ xx', (if b238 = true then xl * yh else 0) = xx' := ⟨_, rfl⟩
   rw [ht239]
   have HNt239 := hid (show b238 = true → t239 = xl * yh from fun h => by rw [← ht239, if_pos h])
   clear ht239
   cases b238 with
   | true =>
    obtain ⟨m240, hm240⟩ : ∃ zz : Int, (if t239 < lo then t239 else lo) = zz := ⟨_, rfl⟩
    obtain ⟨m241, hm241⟩ : ∃ zz : Int, (if hi < t239 then t239 else hi) = zz := ⟨_, rfl⟩
    have z242 := H233.out.cell 1 rfl 0 rfl
    have z243 := H233.out.free 1 rfl 0
    have z244 := H233.out.cell 1 rfl 1 rfl
    have z245 := H233.out.free 1 rfl 1
    go_upto_region 11 with fail
    clear z242 z243 z244 z245
    have HNm240 := hid hm240
    clear hm240
    have HNm241 := hid hm241
    clear hm241
    have H246 := hid (show St _ _ (_ :: .cells D196 #[.int .i64 m240, .int .i64 m241] 94 :: _) _ _ from ((H233.out.set 1 rfl 0 (.int .i64 m240)).set 1 rfl 1 (.int .i64 m241)))
    first | refine gen_code H246.out ?_ | refine gen_list H246.out ?_ | refine gen_calls H246.out ?_
    intro w247 hG
    clear H246
    have H246 := hid hG
    clear hG
    go_wp2_with fail
    go_roundw
    case rel => exact ⟨2, _, _, by omega, by omega, by go_num, tm_next 0 rfl HT.out (show t239 = xl * yh from by first | exact HNt239.out rfl | exact HNt239.out trivial) HNb238.out HNm240.out HNm241.out, H246.out.pick [1, 2, 3, 4] rfl (by decide)⟩
    case measure => first | (simp [intOf]; omega) | (simp [intOf]; done)
   | false =>
    have z248 := H233.out.cell 2 rfl 0 rfl
    have z249 := H233.out.free 2 rfl 0
    have z250 := H233.out.cell 2 rfl 1 rfl
    have z251 := H233.out.free 2 rfl 1
    go_wp2_with fail
    clear z248 z249 z250 z251
    have H252 := hid (show St _ _ (_ :: _ :: .cells (B + 1 + 1) #[.int .i64 0, .int .i64 0] 94 :: _) _ _ from ((H233.out.set 2 rfl 0 (.int .i64 0)).set 2 rfl 1 (.int .i64 0)))
    have q253 := H252.out.cell 2 rfl 0 rfl
    have q254 := H252.out.cell 2 rfl 1 rfl
    refine bodyPost_ret (v := .tuple #[.agg #[.int .i64 0, .int .i64 0], .bool false]) ?_ rfl ⟨⟨_, _, by rw [pwMul_no 1 HNb238.out], fun h => by rw [pwMul_no 1 HNb238.out] at h; cases h⟩, by first | exact H252.out.below | exact H252.out.below'⟩
    simp [results, Try.results85, go_sem, q253, q254]
  ·
   skip
   clear hk1 hk2
   obtain ⟨D255, hD255⟩ : ∃ D, u203.heap.size = D := ⟨_, rfl⟩
   go_upto_region 5 with fail
   have H256 := hid (H204.out.alloc #[.int .i64 xh, .int .i64 yl] 105 hD255)
   first | refine gen_code H256.out ?_ | refine gen_list H256.out ?_ | refine gen_calls H256.out ?_
   intro w257 hG
   clear H256
   have H256 := hid hG
   clear hG
   clear hD255
   have z258 := H256.out.cell 0 rfl 0 rfl
   have z259 := H256.out.cell 0 rfl 1 rfl
   go_wp2_with fail
   clear z258 z259
   refine (pproduct_any _ _ _ hxh hyl).mono ?_
   rintro e w260 ⟨rfl, hsw⟩
   have hsw2 : w257 = w260 := by first | exact hsw | exact hsw.symm
   clear hsw
   subst hsw2
   obtain ⟨b261, hb261⟩ : ∃ xx', accOk (xh * yl) = xx' := ⟨_, rfl⟩
   rw [hb261]
   have HNb261 := hid hb261
   clear hb261
   obtain ⟨t262, ht262⟩ : ∃ xx', (if b261 = true then xh * yl else 0) = xx' := ⟨_, rfl⟩
   rw [ht262]
   have HNt262 := hid (show b261 = true → t262 = xh * yl from fun h => by rw [← ht262, if_pos h])
   clear ht262
   cases b261 with
   | true =>
    obtain ⟨m263, hm263⟩ : ∃ zz : Int, (if t262 < lo then t262 else lo) = zz := ⟨_, rfl⟩
    obtain ⟨m264, hm264⟩ : ∃ zz : Int, (if hi < t262 then t262 else hi) = zz := ⟨_, rfl⟩
    have z265 := H256.out.cell 1 rfl 0 rfl
    have z266 := H256.out.free 1 rfl 0
    have z267 := H256.out.cell 1 rfl 1 rfl
    have z268 := H256.out.free 1 rfl 1
    go_upto_region 11 with fail
    clear z265 z266 z267 z268
    have HNm263 := hid hm263
    clear hm263
    have HNm264 := hid hm264
    clear hm264
    have H269 := hid (show St _ _ (_ :: .cells D196 #[.int .i64 m263, .int .i64 m264] 94 :: _) _ _ from ((H256.out.set 1 rfl 0 (.int .i64 m263)).set 1 rfl 1 (.int .i64 m264)))
    first | refine gen_code H269.out ?_ | refine gen_list H269.out ?_ | refine gen_calls H269.out ?_
    intro w270 hG
    clear H269
    have H269 := hid hG
    clear hG
    go_wp2_with fail
    go_roundw
    case rel => exact ⟨3, _, _, by omega, by omega, by go_num, tm_next 1 rfl HT.out (show t262 = xh * yl from by first | exact HNt262.out rfl | exact HNt262.out trivial) HNb261.out HNm263.out HNm264.out, H269.out.pick [1, 2, 3, 4] rfl (by decide)⟩
    case measure => first | (simp [intOf]; omega) | (simp [intOf]; done)
   | false =>
    have z271 := H256.out.cell 2 rfl 0 rfl
    have z272 := H256.out.free 2 rfl 0
    have z273 := H256.out.cell 2 rfl 1 rfl
    have z274 := H256.out.free 2 rfl 1
    go_wp2_with fail
    clear z271 z272 z273 z274
    have H275 := hid (show St _ _ (_ :: _ :: .cells (B + 1 + 1) #[.int .i64 0, .int .i64 0] 94 :: _) _ _ from ((H256.out.set 2 rfl 0 (.int .i64 0)).set 2 rfl 1 (.int .i64 0)))
    have q276 := H275.out.cell 2 rfl 0 rfl
    have q277 := H275.out.cell 2 rfl 1 rfl
    refine bodyPost_ret (v := .tuple #[.agg #[.int .i64 0, .int .i64 0], .bool false]) ?_ rfl ⟨⟨_, _, by rw [pwMul_no 2 HNb261.out], fun h => by rw [pwMul_no 2 HNb261.out] at h; cases h⟩, by first | exact H275.out.below | exact H275.out.below'⟩
    simp [results, Try.results85, go_sem, q276, q277]
  ·
   skip
   clear hk1 hk2
   obtain ⟨D278, hD278⟩ : ∃ D, u203.heap.size = D := ⟨_, rfl⟩
   go_upto_region 5 with fail
   have H279 := hid (H204.out.alloc #[.int .i64 xh, .int .i64 yh] 105 hD278)
   first | refine gen_code H279.out ?_ | refine gen_list H279.out ?_ | refine gen_calls H279.out ?_
   intro w280 hG
   clear H279
   have H279 := hid hG
   clear hG
   clear hD278
   have z281 := H279.out.cell 0 rfl 0 rfl
   have z282 := H279.out.cell 0 rfl 1 rfl
   go_wp2_with fail
   clear z281 z282
   refine (pproduct_any _ _ _ hxh hyh).mono ?_
   rintro e w283 ⟨rfl, hsw⟩
   have hsw2 : w280 = w283 := by first | exact hsw | exact hsw.symm
   clear hsw
   subst hsw2
   obtain ⟨b284, hb284⟩ : ∃ xx', accOk (xh * yh) = xx' := ⟨_, rfl⟩
   rw [hb284]
   have HNb284 := hid hb284
   clear hb284
   obtain ⟨t285, ht285⟩ : ∃ xx', (if b284 = true then xh * yh else 0) = xx' := ⟨_, rfl⟩
   rw [ht285]
   have HNt285 := hid (show b284 = true → t285 = xh * yh from fun h => by rw [← ht285, if_pos h])
   clear ht285
   cases b284 with
   | true =>
    obtain ⟨m286, hm286⟩ : ∃ zz : Int, (if t285 < lo then t285 else lo) = zz := ⟨_, rfl⟩
    obtain ⟨m287, hm287⟩ : ∃ zz : Int, (if hi < t285 then t285 else hi) = zz := ⟨_, rfl⟩
    have z288 := H279.out.cell 1 rfl 0 rfl
    have z289 := H279.out.free 1 rfl 0
    have z290 := H279.out.cell 1 rfl 1 rfl
    have z291 := H279.out.free 1 rfl 1
    go_upto_region 11 with fail
    clear z288 z289 z290 z291
    have HNm286 := hid hm286
    clear hm286
    have HNm287 := hid hm287
    clear hm287
    have H292 := hid (show St _ _ (_ :: .cells D196 #[.int .i64 m286, .int .i64 m287] 94 :: _) _ _ from ((H279.out.set 1 rfl 0 (.int .i64 m286)).set 1 rfl 1 (.int .i64 m287)))
    first | refine gen_code H292.out ?_ | refine gen_list H292.out ?_ | refine gen_calls H292.out ?_
    intro w293 hG
    clear H292
    have H292 := hid hG
    clear hG
    go_wp2_with fail
    go_roundw
    case rel => exact ⟨4, _, _, by omega, by omega, by go_num, tm_next 2 rfl HT.out (show t285 = xh * yh from by first | exact HNt285.out rfl | exact HNt285.out trivial) HNb284.out HNm286.out HNm287.out, H292.out.pick [1, 2, 3, 4] rfl (by decide)⟩
    case measure => first | (simp [intOf]; omega) | (simp [intOf]; done)
   | false =>
    have z294 := H279.out.cell 2 rfl 0 rfl
    have z295 := H279.out.free 2 rfl 0
    have z296 := H279.out.cell 2 rfl 1 rfl
    have z297 := H279.out.free 2 rfl 1
    go_wp2_with fail
    clear z294 z295 z296 z297
    have H298 := hid (show St _ _ (_ :: _ :: .cells (B + 1 + 1) #[.int .i64 0, .int .i64 0] 94 :: _) _ _ from ((H279.out.set 2 rfl 0 (.int .i64 0)).set 2 rfl 1 (.int .i64 0)))
    have q299 := H298.out.cell 2 rfl 0 rfl
    have q300 := H298.out.cell 2 rfl 1 rfl
    refine bodyPost_ret (v := .tuple #[.agg #[.int .i64 0, .int .i64 0], .bool false]) ?_ rfl ⟨⟨_, _, by rw [pwMul_no 3 HNb284.out], fun h => by rw [pwMul_no 3 HNb284.out] at h; cases h⟩, by first | exact H298.out.below | exact H298.out.below'⟩
    simp [results, Try.results85, go_sem, q299, q300]
  ·
   skip
   clear hk1 hk2
   have z301 := H204.out.cell 0 rfl 0 rfl
   have z302 := H204.out.cell 0 rfl 1 rfl
   have z303 := H204.out.cell 1 rfl 0 rfl
   have z304 := H204.out.free 1 rfl 0
   have z305 := H204.out.cell 1 rfl 1 rfl
   have z306 := H204.out.free 1 rfl 1
   go_wp2_with fail
   clear z301 z302 z303 z304 z305 z306
   have H307 := hid (show St _ _ (_ :: .cells (B + 1 + 1) #[.int .i64 lo, .int .i64 hi] 94 :: _) _ _ from ((H204.out.set 1 rfl 0 (.int .i64 lo)).set 1 rfl 1 (.int .i64 hi)))
   have q308 := H307.out.cell 1 rfl 0 rfl
   have q309 := H307.out.cell 1 rfl 1 rfl
   refine bodyPost_ret (v := .tuple #[.agg #[.int .i64 lo, .int .i64 hi], .bool true]) ?_ rfl ⟨⟨_, _, by rw [(tm_all HT.out).1], fun _ => (tm_all HT.out).2⟩, by first | exact H307.out.below | exact H307.out.below'⟩
   simp [results, Try.results85, go_sem, q308, q309]
end Go.Proofs.Yteejjnhlfgjlaaa
