/-
  Contracts of grid.Touching and of its reference: both list, in ascending order, the tiles that have a point in common with the rectangle.
-/
import Derived.Test.YtekpekhdkghnmaaGrid
import Derived.Test.YtekpekhdkghnmaaTouchPlain
import Derived.Test.YtekpekhdkghnmaaRect3
import Derived.Test.YtekpekhdkghnmaaOwn
namespace Go.Proofs.Ytekpekhdkghnmaa
open Go.RowKit

theorem Own.since {D B : Nat} {a w w' : World} {v : Value} {zs : List Int} (h : Own D w v zs) (hg : w.grownBy w' v.ownBlock) (S : Since B a w) (hB : B ≤ D) : Since B a w' := by
  refine ⟨S.below.trans ?_, Nat.le_trans S.size hg.size⟩
  exact Below.grown (Below.refl _ _) hg S.size (fun k hk => by have := (World.ownsRow.lt h k hk).1; omega)
theorem Own.same {D g : Nat} {w w' : World} {v : Value} {zs : List Int} {o : Obj} (h : Own D w v zs) (hg : w.grownBy w' v.ownBlock) (hb : w.heap[g]? = some o) (hD : g < D) : w'.heap[g]? = some o := by
  rw [hg.block g (lt_of_block hb) (fun e => by have := (World.ownsRow.lt h g e.symm).1; omega)]; exact hb

def TouchPost (w h tw th r0 r1 r2 r3 : Int) (W : World) (e : Ending) (w' : World) : Prop :=
  ∃ (a : Option Addr) (n c : Nat) (zs : List Int), e = .returned (.slice a n c) ∧ Row w' .i64 a n zs ∧ TouchSpec w h tw th r0 r1 r2 r3 zs ∧ Below W.heap.size W w' ∧ n ≤ 1000000
theorem touchPost {w h tw th r0 r1 r2 r3 : Int} {W w' : World} {v : Value} {zs : List Int} {D : Nat} (ho : Own D w' v zs) (ht : TouchSpec w h tw th r0 r1 r2 r3 zs) (hb : Below W.heap.size W w') (hn : zs.length ≤ 1000000) : TouchPost w h tw th r0 r1 r2 r3 W (.returned v) w' := by
  obtain ⟨a, c, rfl, hr⟩ := ho.row
  exact ⟨a, _, c, zs, rfl, hr, ht, hb, hn⟩

set_option maxRecDepth 100000 in
set_option maxHeartbeats 1600000 in
theorem touching_any (w h tw th r0 r1 r2 r3 : Int) (W : World) :
    Calls Try.prog 32 #[.int .i64 w, .int .i64 h, .int .i64 tw, .int .i64 th, .agg #[.int .i64 r0, .int .i64 r1, .int .i64 r2, .int .i64 r3]] W (TouchPost w h tw th r0 r1 r2 r3 W) := by
  obtain ⟨B, hB⟩ : ∃ B, W.heap.size = B := ⟨_, rfl⟩
  cases hg : gOk w h tw th with
  | false =>
    obtain ⟨z1, z2⟩ := gN_no hg
    have HG := hid hg
    clear hg
    go_enter Try.func32, Try.ntmps32
    go_wp2_with (first | (go_at_call 24; refine (count_any _ _ _ _ _).mono ?_; rintro e w' ⟨rfl, rfl⟩))
    go_ret
    exact touchPost (Own.nil 0 _) (touch_no HG.out) (below_self _ _) (by simp)
  | true =>
    have HG := hid hg
    obtain ⟨n1, n2, n3, n4, _, n6, _, n8⟩ := gN_bd hg
    obtain ⟨g1, g2, g3, g4, g5, g6, g7, g8⟩ := gOk_iff.1 hg
    have e1 : (gNx w h tw th == 0) = false := by simp; omega
    have e2 : (gNy w h tw th == 0) = false := by simp; omega
    clear hg
    cases hm : rMeet r0 r1 r2 r3 0 0 w h with
    | false =>
      have HM := hid hm
      have q : Hid (rX0 r0 r1 r2 r3 0 0 w h = 0 ∧ rY0 r0 r1 r2 r3 0 0 w h = 0 ∧ rX1 r0 r1 r2 r3 0 0 w h = 0 ∧ rY1 r0 r1 r2 r3 0 0 w h = 0) := by simp [rX0, rY0, rX1, rY1, hm, Hid]
      clear hm
      go_enter Try.func32, Try.ntmps32
      go_wp2_with (first | (go_at_call 24; refine (count_any _ _ _ _ _).mono ?_; rintro e w' ⟨rfl, rfl⟩))
      refine (risect_any _ _ _ _ _ _ _ _ _).mono ?_
      rintro e w1 ⟨rfl, hb⟩
      obtain ⟨q0, q1, q2, q3⟩ := q.out
      rw [q0, q1, q2, q3]
      clear q0 q1 q2 q3
      have S1 := hid (Since.call ((Since.self hB).alloc _) hb)
      clear hb
      go_wp2_with fail
      refine (rempty_any _ _ _ _ _).mono ?_
      rintro e w2 ⟨rfl, hb⟩
      rw [show rEmpty 0 0 0 0 = true from by decide]
      have S2 := hid ((S1.out.alloc _).call hb)
      clear hb
      go_wp2
      go_ret
      exact touchPost (Own.nil 0 _) (touch_none HM.out) (S2.out.all hB) (by simp)
    | true =>
      have HM := hid hm
      have q : Hid (rX0 r0 r1 r2 r3 0 0 w h = max r0 0 ∧ rY0 r0 r1 r2 r3 0 0 w h = max r1 0 ∧ rX1 r0 r1 r2 r3 0 0 w h = min r2 w ∧ rY1 r0 r1 r2 r3 0 0 w h = min r3 h) := by simp [rX0, rY0, rX1, rY1, hm, Hid]
      obtain ⟨_, _, m1, m2⟩ := rMeet_iff.1 hm
      clear hm
      obtain ⟨c0, hc0⟩ : ∃ c0, c0 = max r0 0 := ⟨_, rfl⟩
      obtain ⟨c1, hc1⟩ : ∃ c1, c1 = max r1 0 := ⟨_, rfl⟩
      obtain ⟨c2, hc2⟩ : ∃ c2, c2 = min r2 w := ⟨_, rfl⟩
      obtain ⟨c3, hc3⟩ : ∃ c3, c3 = min r3 h := ⟨_, rfl⟩
      have C0 := hid hc0
      have C1 := hid hc1
      have C2 := hid hc2
      have C3 := hid hc3
      rw [← hc0, ← hc1, ← hc2, ← hc3] at q
      have l : 0 ≤ c0 ∧ c0 < c2 ∧ c2 ≤ w ∧ 0 ≤ c1 ∧ c1 < c3 ∧ c3 ≤ h := by omega
      clear m1 m2 hc0 hc1 hc2 hc3
      obtain ⟨l1, l2, l3, l4, l5, l6⟩ := l
      have x0 : 0 ≤ c0 / tw := Int.ediv_nonneg (by omega) (by omega)
      have x1 : (c2 - 1) / tw < gNx w h tw th := Int.ediv_lt_of_lt_mul (by omega) (by omega)
      have x2 : c0 / tw ≤ (c2 - 1) / tw := Int.ediv_le_ediv (by omega) (by omega)
      have y0 : 0 ≤ c1 / th := Int.ediv_nonneg (by omega) (by omega)
      have y1 : (c3 - 1) / th < gNy w h tw th := Int.ediv_lt_of_lt_mul (by omega) (by omega)
      have y2 : c1 / th ≤ (c3 - 1) / th := Int.ediv_le_ediv (by omega) (by omega)
      have ne : rEmpty c0 c1 c2 c3 = false := by rw [← Bool.not_eq_true, rEmpty_iff]; omega
      go_enter Try.func32, Try.ntmps32
      go_wp2_with (first | (go_at_call 24; refine (count_any _ _ _ _ _).mono ?_; rintro e w' ⟨rfl, rfl⟩))
      refine (risect_any _ _ _ _ _ _ _ _ _).mono ?_
      rintro e w1 ⟨rfl, hb⟩
      obtain ⟨q0, q1, q2, q3⟩ := q.out
      rw [q0, q1, q2, q3]
      clear q0 q1 q2 q3
      have S1 := hid (Since.call ((Since.self hB).alloc _) hb)
      clear hb
      obtain ⟨C, hC⟩ : ∃ C, w1.heap.size = C := ⟨_, rfl⟩
      go_wp2_with fail
      refine (rempty_any _ _ _ _ _).mono ?_
      rintro e w2 ⟨rfl, hb⟩
      rw [ne]
      have S2 := hid ((S1.out.alloc _).call hb)
      obtain ⟨KC, k0, k1, k2, k3⟩ := kept4 hb (alloc_at _ hC)
      have HC := hid KC
      clear hb KC hC ne
      obtain ⟨D, hD⟩ : ∃ D, w2.heap.size = D := ⟨_, rfl⟩
      have CD : C < D := by have := lt_of_block HC.out; omega
      have HD := hid hD
      clear hD
      go_wp2_with fail
      go_loopw [14, 15] (fun v y wr => ∃ (k : Int) (zs : List Int), c1 / th ≤ k ∧ k ≤ (c3 - 1) / th + 1 ∧ y = .int .i64 k ∧ Own D wr v zs ∧ Listed (gNx w h tw th) (c1 / th) (c0 / tw) ((c2 - 1) / tw) k (c0 / tw) zs ∧ Since D w2 wr) (fun _ y _ => (200 - intOf y).toNat)
      case atStart => exact ⟨c1 / th, [], by omega, by omega, rfl, Own.nil _ _, .start _ _ _ _, .self HD.out⟩
      case round =>
        obtain ⟨k, zs, k1', k2', rfl, ho, hl, hs⟩ := hrel
        obtain ⟨wo, rfl⟩ : ∃ wo : World, wo = wr := ⟨_, rfl⟩
        have HO := hid ho
        have HL := hid hl
        have HS := hid hs
        have KC : wo.heap[C]? = some _ := (hs.below.block C CD).trans HC.out
        have j0 := cell_of (i := 0) KC rfl
        have j1 := cell_of (i := 1) KC rfl
        have j2 := cell_of (i := 2) KC rfl
        have j3 := cell_of (i := 3) KC rfl
        clear ho hl hs KC
        by_cases hk : k ≤ (c3 - 1) / th
        · have p0 : 0 ≤ k * gNx w h tw th := Int.mul_nonneg (by omega) (by omega)
          have p1 : k * gNx w h tw th ≤ 128 * 128 := Int.mul_le_mul (by omega) n2 (by omega) (by omega)
          have p2 : 0 ≤ (k - c1 / th) * gNx w h tw th := Int.mul_nonneg (by omega) (by omega)
          have p3 : (k - c1 / th) * gNx w h tw th ≤ 128 * 128 := Int.mul_le_mul (by omega) n2 (by omega) (by omega)
          go_wp2_with fail
          clear j0 j1 j2 j3
          go_loopw [14, 16] (fun v x wr => ∃ (j : Int) (zs : List Int), c0 / tw ≤ j ∧ j ≤ (c2 - 1) / tw + 1 ∧ x = .int .i64 j ∧ Own D wr v zs ∧ Listed (gNx w h tw th) (c1 / th) (c0 / tw) ((c2 - 1) / tw) k j zs ∧ Since D w2 wr) (fun _ x _ => (200 - intOf x).toNat)
          case atStart => exact ⟨c0 / tw, zs, by omega, by omega, rfl, HO.out, HL.out, HS.out⟩
          case round =>
            clear HO HL HS
            obtain ⟨j, zs', j1', j2', rfl, ho, hl, hs⟩ := hrel
            obtain ⟨wi, rfl⟩ : ∃ wi : World, wi = wr := ⟨_, rfl⟩
            have HO := hid ho
            have HL := hid hl
            have HS := hid hs
            have KC : wi.heap[C]? = some _ := (hs.below.block C CD).trans HC.out
            have j0 := cell_of (i := 0) KC rfl
            have j1 := cell_of (i := 1) KC rfl
            have j2 := cell_of (i := 2) KC rfl
            have j3 := cell_of (i := 3) KC rfl
            have q1 : zs'.length ≤ 100000 := by have := hl.len; omega
            have q2 : D ≤ wi.heap.size := hs.size
            clear ho hl hs KC
            by_cases hj : j ≤ (c2 - 1) / tw
            · go_wp2_with (at_builtin; refine append_int rfl _ _ rfl D _ zs' _ _ _ rfl rfl (HO.out.alloc _) (cell_of (alloc_at _ rfl) rfl) (by omega) (by simp; omega) ?_; intro v' w' ho' hg' _hat)
              have HO2 := hid ho'
              have HS2 : Hid (Since D w2 w') := (HO.out.alloc _).since hg' (HS.out.alloc _) (Nat.le_refl _)
              clear ho' hg' _hat
              go_roundw
              case rel => exact ⟨j + 1, _, by omega, by omega, by go_num, HO2.out, HL.out.step x0 j1' (by omega) y0 k1', HS2.out⟩
              case measure => simp [intOf]; omega
            · have ej : Hid (j = (c2 - 1) / tw + 1) := (by omega : j = (c2 - 1) / tw + 1)
              go_wp2_with fail
              go_roundw
              case rel =>
                have L := HL.out
                rw [ej.out] at L
                exact ⟨k + 1, zs', by omega, by omega, by go_num, HO.out, L.row x1 (by omega) k1' x0, HS.out⟩
              case measure => simp [intOf]; omega
        · have ek : Hid (k = (c3 - 1) / th + 1) := (by omega : k = (c3 - 1) / th + 1)
          go_wp2_with fail
          go_ret
          have L := HL.out
          have q0 : zs.length ≤ 1000000 := by
            have q2 : 0 ≤ (k - c1 / th) * gNx w h tw th := Int.mul_nonneg (by omega) (by omega)
            have q3 : (k - c1 / th) * gNx w h tw th ≤ 128 * 128 := Int.mul_le_mul (by omega) n2 (by omega) (by omega)
            have := L.len; omega
          rw [ek.out, C0.out, C1.out, C2.out, C3.out] at L
          exact touchPost HO.out (L.touch HG.out HM.out) ((S2.out.trans HS.out (by have := S2.out.size; have := HD.out; omega)).all hB) q0

end Go.Proofs.Ytekpekhdkghnmaa
