/-
  Contract of the reference's Touching: the same list.
-/
import Derived.Test.YtekpekhdkghnmaaTouch
namespace Go.Proofs.Ytekpekhdkghnmaa
open Go.RowKit

set_option maxRecDepth 100000 in
set_option maxHeartbeats 1600000 in
theorem qtouching_any (w h tw th r0 r1 r2 r3 : Int) (W : World) :
    Calls Try.prog 42 #[.int .i64 w, .int .i64 h, .int .i64 tw, .int .i64 th, .agg #[.int .i64 r0, .int .i64 r1, .int .i64 r2, .int .i64 r3]] W (TouchPost w h tw th r0 r1 r2 r3 W) := by
  obtain ⟨B, hB⟩ : ∃ B, W.heap.size = B := ⟨_, rfl⟩
  cases hg : gOk w h tw th with
  | false =>
    obtain ⟨z1, z2⟩ := gN_no hg
    have HG := hid hg
    clear hg
    go_enter Try.func42, Try.ntmps42
    go_wp2_with (first | (go_at_call 38; refine (qcount_any _ _ _ _ _).mono ?_; rintro e w' ⟨rfl, rfl⟩))
    refine wp_loop_rounds 1 ?_
    rw [rounds_succ]
    go_wp2
    go_ret
    exact touchPost (Own.nil 0 _) (touch_no HG.out) (below_self _ _) (by simp)
  | true =>
    have HG := hid hg
    obtain ⟨n1, n2, n3, n4, _, n6, _, n8⟩ := gN_bd hg
    clear hg
    have p0 : 0 ≤ gNx w h tw th * gNy w h tw th := Int.mul_nonneg (by omega) (by omega)
    have p1 : gNx w h tw th * gNy w h tw th ≤ 128 * 128 := Int.mul_le_mul n2 n4 (by omega) (by omega)
    go_enter Try.func42, Try.ntmps42
    go_wp2_with (first | (go_at_call 38; refine (qcount_any _ _ _ _ _).mono ?_; rintro e w' ⟨rfl, rfl⟩))
    go_loopw [13, 14] (fun v y wr => ∃ (k : Int) (zs : List Int), 0 ≤ k ∧ k ≤ gNx w h tw th * gNy w h tw th ∧ y = .int .i64 k ∧ Own (B + 1) wr v zs ∧ Sifted w h tw th r0 r1 r2 r3 k zs ∧ wr.heap[B]? = some (.cells #[.int .i64 r0, .int .i64 r1, .int .i64 r2, .int .i64 r3] 45 (0, 0)) ∧ Since B W wr) (fun _ y _ => (20000 - intOf y).toNat)
    case atStart => exact ⟨0, [], by omega, p0, rfl, Own.nil _ _, .start _ _ _ _ _ _ _ _, alloc_at _ hB, (Since.self hB).alloc _⟩
    case round =>
      obtain ⟨k, zs, k1, k2, rfl, ho, hl, hr, hs⟩ := hrel
      obtain ⟨wo, rfl⟩ : ∃ wo : World, wo = wr := ⟨_, rfl⟩
      have HO := hid ho
      have HL := hid hl
      have HR := hid hr
      have HS := hid hs
      have q1 : zs.length ≤ 100000 := by have := hl.len; omega
      clear ho hl hs hr
      by_cases hk : k < gNx w h tw th * gNy w h tw th
      · go_wp2_with fail
        refine (qtile_any _ _ _ _ _ _ (by omega)).mono ?_
        rintro e w1 ⟨rfl, hb⟩
        have HO1 := hid (HO.out.kept hb)
        have HS1 := hid (HS.out.call hb)
        obtain ⟨KR, i0, i1, i2, i3⟩ := kept4 hb HR.out
        have HR1 := hid KR
        clear hb KR
        have d0 : ∀ (o : Obj) (x : Nat), (w1.alloc o).cell? ⟨B, x, none⟩ = w1.cell? ⟨B, x, none⟩ := fun o x => World.cell?_of_block (heap_alloc_old _ _ (lt_of_block HR1.out))
        have T : Hid (rMeet (gT0 w h tw th k) (gT1 w h tw th k) (gT2 w h tw th k) (gT3 w h tw th k) r0 r1 r2 r3 = tMeet w h tw th k r0 r1 r2 r3) := rfl
        generalize gT0 w h tw th k = t0 at T ⊢
        generalize gT1 w h tw th k = t1 at T ⊢
        generalize gT2 w h tw th k = t2 at T ⊢
        generalize gT3 w h tw th k = t3 at T ⊢
        generalize gTok w h tw th k = tk
        go_wp2_with fail
        refine (qisect_any _ _ _ _ _ _ _ _ _).mono ?_
        rintro e w2 ⟨rfl, hb⟩
        have HO2 := hid ((HO1.out.alloc _).kept hb)
        have HS2 := hid ((HS1.out.alloc _).call hb)
        have HR2 := hid (kept hb (alloc_past _ HR1.out))
        clear hb d0 i0 i1 i2 i3
        cases hm : tMeet w h tw th k r0 r1 r2 r3 with
        | true =>
          have HM := hid hm
          have ne : rEmpty (rX0 t0 t1 t2 t3 r0 r1 r2 r3) (rY0 t0 t1 t2 t3 r0 r1 r2 r3) (rX1 t0 t1 t2 t3 r0 r1 r2 r3) (rY1 t0 t1 t2 t3 r0 r1 r2 r3) = false := by
            have M := T.out.trans hm
            have m := rMeet_iff.1 M
            rw [← Bool.not_eq_true, rEmpty_iff]
            simp only [rX0, rY0, rX1, rY1, M, if_true]
            omega
          clear hm
          go_wp2_with fail
          refine (qempty_any _ _ _ _ _).mono ?_
          rintro e w3 ⟨rfl, hb⟩
          rw [ne]
          have HO3 := hid (HO2.out.kept hb)
          have HS3 := hid (HS2.out.call hb)
          have HR3 := hid (kept hb HR2.out)
          have q2 : B + 1 ≤ w3.heap.size := by have := lt_of_block HR3.out; omega
          clear hb ne
          go_wp2_with (at_builtin; refine append_int rfl _ _ rfl (B + 1) _ zs _ _ _ rfl rfl (HO3.out.alloc _) (cell_of (alloc_at _ rfl) rfl) (by omega) (by simp; omega) ?_; intro v' w' ho' hg' _hat)
          have HO4 := hid ho'
          have HS4 : Hid (Since B W w') := (HO3.out.alloc _).since hg' (HS3.out.alloc _) (by omega)
          have HR4 := hid ((HO3.out.alloc _).same hg' (alloc_past _ HR3.out) (by omega))
          clear ho' hg' _hat
          go_roundw
          case rel => exact ⟨k + 1, _, by omega, by omega, by go_num, HO4.out, HL.out.take k1 HM.out, HR4.out, HS4.out⟩
          case measure => simp [intOf]; omega
        | false =>
          have HM := hid hm
          have ne : rEmpty (rX0 t0 t1 t2 t3 r0 r1 r2 r3) (rY0 t0 t1 t2 t3 r0 r1 r2 r3) (rX1 t0 t1 t2 t3 r0 r1 r2 r3) (rY1 t0 t1 t2 t3 r0 r1 r2 r3) = true := by
            have M := T.out.trans hm
            rw [rEmpty_iff]
            simp [rX0, rY0, rX1, rY1, M]
          clear hm
          go_wp2_with fail
          refine (qempty_any _ _ _ _ _).mono ?_
          rintro e w3 ⟨rfl, hb⟩
          rw [ne]
          have HO3 := hid (HO2.out.kept hb)
          have HS3 := hid (HS2.out.call hb)
          have HR3 := hid (kept hb HR2.out)
          clear hb ne
          go_wp2_with fail
          go_roundw
          case rel => exact ⟨k + 1, zs, by omega, by omega, by go_num, HO3.out, HL.out.skip k1 HM.out, HR3.out, HS3.out⟩
          case measure => simp [intOf]; omega
      · have ek : Hid (k = gNx w h tw th * gNy w h tw th) := (by omega : k = gNx w h tw th * gNy w h tw th)
        go_wp2_with fail
        go_ret
        have L := HL.out
        rw [ek.out] at L
        exact touchPost HO.out (L.touch HG.out) (HS.out.all hB) (by omega)

set_option maxRecDepth 100000 in
set_option maxHeartbeats 1600000 in
theorem same_any (a b : Option Addr) (n m c d : Nat) (zs ys : List Int) (W : World) (ha : Row W .i64 a n zs) (hb : Row W .i64 b m ys) (hn : n ≤ 9223372036854775807) (hm : m ≤ 9223372036854775807) :
    Calls Try.prog 41 #[.slice a n c, .slice b m d] W fun e w' => e = .returned (.bool (zs == ys)) ∧ ∃ m, w' = W.drewN m := by
  have L1 := ha.1
  have L2 := hb.1
  by_cases hl : n = m
  · subst hl
    have HA := hid ha
    have HB := hid hb
    have E1 := hid L1
    have E2 := hid L2
    clear ha hb L1 L2
    go_enter Try.func41, Try.ntmps41
    go_wp2_with fail
    go_loopw [5] (fun j wr => ∃ k q : Nat, k ≤ n ∧ j = .int .i64 k ∧ wr = W.drewN q ∧ ∀ i, i < k → zs.getD i 0 = ys.getD i 0) (fun j _ => n - (intOf j).toNat)
    case atStart => exact ⟨0, 0, by omega, rfl, rfl, fun i hi => by omega⟩
    case round =>
      obtain ⟨k, q, k1, rfl, rfl, hs⟩ := hrel
      have HS := hid hs
      clear hs
      by_cases hk : k < n
      · rcases HA.out.2 with h0 | ⟨ab, ao, rfl, hc⟩
        · omega
        rcases HB.out.2 with h0 | ⟨bb, bo, rfl, hd⟩
        · omega
        have c1 := hc k hk
        have c2 := hd k hk
        obtain ⟨x, hx⟩ : ∃ x, x = zs.getD k 0 := ⟨_, rfl⟩
        obtain ⟨y, hy⟩ : ∃ y, y = ys.getD k 0 := ⟨_, rfl⟩
        have HX := hid hx
        have HY := hid hy
        rw [← hx] at c1
        rw [← hy] at c2
        have hk' : (k : Int) < n := by omega
        clear hc hd hx hy
        by_cases e : x = y
        · have E := hid (HX.out.symm.trans (e.trans HY.out))
          subst e
          go_wp2_with fail
          go_quiet (fail)
          go_wp2_with fail
          go_roundw
          case rel => exact ⟨k + 1, _, by omega, by go_num, rfl, fun i hi => by
            by_cases e : i = k
            · subst e; exact E.out
            · exact HS.out i (by omega)⟩
          case measure => simp [intOf]; omega
        · have ne : (x != y) = true := by simpa using e
          go_wp2_with fail
          go_quiet (fail)
          go_wp2_with fail
          go_ret
          refine ⟨ret_b ?_, _, World.drewN_drewN ..⟩
          symm
          rw [beq_eq_false_iff_ne]
          intro h
          apply e
          rw [HX.out, HY.out, h]
      · go_wp2_with fail
        go_ret
        refine ⟨ret_b ?_, _, rfl⟩
        symm
        rw [beq_iff_eq]
        refine List.ext_getElem (E1.out.symm.trans E2.out) fun i h1 h2 => ?_
        have := HS.out i (by have := E1.out; omega)
        simpa [List.getD_eq_getElem?_getD, h1, h2] using this
  · have hne : ((n : Int) != (m : Int)) = true := by simp; omega
    have N : Hid (zs ≠ ys) := fun h => by subst h; omega
    clear ha hb L1 L2
    go_enter Try.func41, Try.ntmps41
    go_wp2_with fail
    go_ret
    exact ⟨ret_b (by symm; rw [beq_eq_false_iff_ne]; exact N.out), 0, rfl⟩
end Go.Proofs.Ytekpekhdkghnmaa
