/-
  Contract: a tile of an integral plane, in the program. Contract: the integral plane of a plane, in the program. Contracts: the sum of a rectangle out of an integral plane, in the program and in the reference.
-/
import Derived.Test.YtoojiabdgaflgaaKB
import Derived.Test.YtoojiabdgaflgaaKA
import Derived.StillTailTactics
import Derived.Deep.DeepCutAuto
import Derived.Deep.DrawnRows
import Derived.Deep.RegionHeld3
namespace Go.Proofs.Ytoojiabdgaflgaa
section
open Go.RowKit
attribute [local go_sem ↓] Go.wp_at_zero Go.wp_at_succ
set_option linter.unusedVariables false
set_option linter.unusedSimpArgs false

theorem allIn_get {mx : Int} {zs : List Int} (h : allIn mx zs = true) {i : Nat} (hi : i < zs.length) : 0 ≤ zs.getD i 0 ∧ zs.getD i 0 ≤ mx := by
  have e : zs.getD i 0 = zs[i] := by rw [List.getD_eq_getElem?_getD, List.getElem?_eq_getElem hi]; rfl
  rw [e]; exact allIn_iff.1 h _ (List.getElem_mem hi)
def TilePost (w h mx : Int) (zs : List Int) (r0 r1 r2 r3 : Int) (left top : List Int) (corner : Int) (W : World) (e : Ending) (w' : World) : Prop :=
  ∃ v, e = .returned (.tuple #[.agg #[.int .i64 (tIf w h mx zs r0 r1 r2 r3 left top corner (r2 - r0)), .int .i64 (tIf w h mx zs r0 r1 r2 r3 left top corner (r3 - r1)), .int .i64 (tIf w h mx zs r0 r1 r2 r3 left top corner (w * h * mx)), v], .int .i64 (tCode w h mx zs r0 r1 r2 r3 left top corner)]) ∧
    Own W.heap.size w' v (tList w h mx zs r0 r1 r2 r3 left top corner) ∧ Below W.heap.size W w'
theorem tile_no {w h mx : Int} {zs : List Int} {r0 r1 r2 r3 : Int} {left top : List Int} {corner : Int} {W w' : World} {k : Int} (hk : tCode w h mx zs r0 r1 r2 r3 left top corner = k) (h0 : k ≠ 0) (hb : Below W.heap.size W w') :
    TilePost w h mx zs r0 r1 r2 r3 left top corner W (.returned (.tuple #[.agg #[.int .i64 0, .int .i64 0, .int .i64 0, .slice none 0 0], .int .i64 k])) w' := by
  have hi : ∀ x, tIf w h mx zs r0 r1 r2 r3 left top corner x = 0 := fun x => by unfold tIf; rw [hk, if_neg h0]
  refine ⟨_, by rw [hi, hi, hi, hk], ?_, hb⟩
  have : tList w h mx zs r0 r1 r2 r3 left top corner = [] := by unfold tList; rw [hk, if_neg h0]
  rw [this]; exact Own.nil _ _

set_option maxRecDepth 100000 in
set_option maxHeartbeats 6400000 in
theorem itile_any (w h mx : Int) (a : Option Addr) (n c : Nat) (zs : List Int) (r0 r1 r2 r3 : Int) (al : Option Addr) (nl cl : Nat) (left : List Int) (at' : Option Addr) (nt ct : Nat) (top : List Int) (corner : Int) (W : World) (hs : Slc W a n c zs) (hl : Slc W al nl cl left) (ht : Slc W at' nt ct top) :
    Calls Try.prog 44 #[.agg #[.int .i64 w, .int .i64 h, .int .i64 mx, .slice a n c], .agg #[.int .i64 r0, .int .i64 r1, .int .i64 r2, .int .i64 r3], .slice al nl cl, .slice at' nt ct, .int .i64 corner] W (TilePost w h mx zs r0 r1 r2 r3 left top corner W) := by
  obtain ⟨B, hB⟩ : ∃ B, W.heap.size = B := ⟨_, rfl⟩
  have HS := hid hs
  have HL := hid hl
  have HT := hid ht
  have HLL := hid hl.len
  have HTL := hid ht.len
  clear hs hl ht
  have H0 := hid ((((St.init hB).alloc #[.int .i64 w, .int .i64 h, .int .i64 mx, .slice a n c] 26 hB).alloc #[.int .i64 r0, .int .i64 r1, .int .i64 r2, .int .i64 r3] 39 (alloc_size _ hB)).alloc #[.int .i64 0, .int .i64 0, .int .i64 0, .slice none 0 0] 26 (alloc_size _ (alloc_size _ hB)))
  go_enter Try.func44, Try.ntmps44
  go_wp2_with fail
  refine (checked_any _ _ _ _ _ _ _ _ (H0.out.old HS.out)).mono ?_
  rintro e w1 ⟨rfl, hb⟩
  have H2 := hid (H0.out.call hb)
  clear hb
  have HKC := hid (show kCode w h mx zs ≠ 0 → tCode w h mx zs r0 r1 r2 r3 left top corner = kCode w h mx zs from fun hk => by
    cases hv : pValid w h mx zs with
    | false => unfold tCode kCode; rw [hv, if_pos rfl, if_neg (by simp)]
    | true =>
      cases hi : iOk w h mx with
      | false => unfold tCode kCode iCode; rw [hv, hi, if_neg (by simp), if_pos rfl, if_pos rfl, if_neg (by simp)]
      | true => exact absurd (by simp [kCode, iCode, hv, hi]) hk)
  have HKV := hid (show kCode w h mx zs = 0 → pValid w h mx zs = true ∧ iOk w h mx = true from fun hk => by
    cases hv : pValid w h mx zs with
    | false => simp [kCode, hv] at hk
    | true =>
      cases hi : iOk w h mx with
      | false => simp [kCode, iCode, hv, hi] at hk
      | true => exact ⟨rfl, rfl⟩)
  have HKM := hid (show pValid w h mx zs = true → iOk w h mx = true → kVal w h mx zs = w * h * mx from fun hv hi => by simp [kVal, iVal, hv, hi])
  obtain ⟨kc, hkc⟩ : ∃ k, kCode w h mx zs = k := ⟨_, rfl⟩
  obtain ⟨kv, hkv⟩ : ∃ k, kVal w h mx zs = k := ⟨_, rfl⟩
  rw [hkc] at HKC HKV ⊢
  rw [hkv] at HKM ⊢
  clear hkc hkv
  by_cases hk0 : kc = 0
  · subst hk0
    obtain ⟨hv, hio⟩ := HKV.out rfl
    have hm := HKM.out hv hio
    subst hm
    have HV := hid hv
    have HIO := hid (iOk_iff.1 hio)
    have HP := hid (pOk_iff.1 (pValid_iff.1 hv).1)
    have HNV := hid (show ¬ pValid w h mx zs = false by rw [hv]; simp)
    have HNI := hid (show ¬ iOk w h mx = false by rw [hio]; simp)
    clear HKC HKV HKM hv hio
    obtain ⟨most, hmost⟩ : ∃ m, w * h * mx = m := ⟨_, rfl⟩
    have HMO := hid hmost
    rw [hmost]
    clear hmost
    have z0_0 := H2.out.cell 0 rfl 0 rfl
    have z0_1 := H2.out.cell 0 rfl 1 rfl
    have z0_2 := H2.out.cell 0 rfl 2 rfl
    have z0_3 := H2.out.cell 0 rfl 3 rfl
    have z1_0 := H2.out.cell 1 rfl 0 rfl
    have z1_1 := H2.out.cell 1 rfl 1 rfl
    have z1_2 := H2.out.cell 1 rfl 2 rfl
    have z1_3 := H2.out.cell 1 rfl 3 rfl
    have z2_0 := H2.out.cell 2 rfl 0 rfl
    have z2_1 := H2.out.cell 2 rfl 1 rfl
    have z2_2 := H2.out.cell 2 rfl 2 rfl
    have z2_3 := H2.out.cell 2 rfl 3 rfl
    go_wp2_with fail
    clear z0_0 z0_1 z0_2 z0_3 z1_0 z1_1 z1_2 z1_3 z2_0 z2_1 z2_2 z2_3
    refine (rempty_any _ _ _ _ _).mono ?_
    rintro e w3 ⟨rfl, hb⟩
    have H4 := hid (H2.out.call hb)
    clear hb
    cases he : rEmpty r0 r1 r2 r3 with
    | true =>
      have HE := hid he
      clear he
      have z0_0 := H4.out.cell 0 rfl 0 rfl
      have z0_1 := H4.out.cell 0 rfl 1 rfl
      have z0_2 := H4.out.cell 0 rfl 2 rfl
      have z0_3 := H4.out.cell 0 rfl 3 rfl
      have f0_0 := H4.out.free 0 rfl 0
      have f0_1 := H4.out.free 0 rfl 1
      have f0_2 := H4.out.free 0 rfl 2
      have f0_3 := H4.out.free 0 rfl 3
      have z1_0 := H4.out.cell 1 rfl 0 rfl
      have z1_1 := H4.out.cell 1 rfl 1 rfl
      have z1_2 := H4.out.cell 1 rfl 2 rfl
      have z1_3 := H4.out.cell 1 rfl 3 rfl
      have z2_0 := H4.out.cell 2 rfl 0 rfl
      have z2_1 := H4.out.cell 2 rfl 1 rfl
      have z2_2 := H4.out.cell 2 rfl 2 rfl
      have z2_3 := H4.out.cell 2 rfl 3 rfl
      go_wp2_with fail
      have HZ := hid (H4.out.set4 0 rfl (.int .i64 0) (.int .i64 0) (.int .i64 0) (.slice none 0 0))
      have k0 := HZ.out.cell 0 rfl 0 rfl
      have k1 := HZ.out.cell 0 rfl 1 rfl
      have k2 := HZ.out.cell 0 rfl 2 rfl
      have k3 := HZ.out.cell 0 rfl 3 rfl
      refine bodyPost_ret (v := .tuple #[.agg #[.int .i64 0, .int .i64 0, .int .i64 0, .slice none 0 0], .int .i64 8]) ?_ rfl (tile_no (by unfold tCode; rw [if_neg HNV.out, if_neg HNI.out, if_pos (by rw [HE.out]; rfl)]) (by omega) (by first | exact HZ.out.below | exact HZ.out.below'))
      unfold set4 at k0 k1 k2 k3
      simp [results, Try.results44, go_sem, k0, k1, k2, k3]
    | false =>
    have HE := hid he
    clear he
    have z0_0 := H4.out.cell 0 rfl 0 rfl
    have z0_1 := H4.out.cell 0 rfl 1 rfl
    have z0_2 := H4.out.cell 0 rfl 2 rfl
    have z0_3 := H4.out.cell 0 rfl 3 rfl
    have z1_0 := H4.out.cell 1 rfl 0 rfl
    have z1_1 := H4.out.cell 1 rfl 1 rfl
    have z1_2 := H4.out.cell 1 rfl 2 rfl
    have z1_3 := H4.out.cell 1 rfl 3 rfl
    have z2_0 := H4.out.cell 2 rfl 0 rfl
    have z2_1 := H4.out.cell 2 rfl 1 rfl
    have z2_2 := H4.out.cell 2 rfl 2 rfl
    have z2_3 := H4.out.cell 2 rfl 3 rfl
    go_wp2_with fail
    clear z0_0 z0_1 z0_2 z0_3 z1_0 z1_1 z1_2 z1_3 z2_0 z2_1 z2_2 z2_3
    refine (rinside_any _ _ _ _ _ _ _ _ _).mono ?_
    rintro e w5 ⟨rfl, hb⟩
    have H6 := hid (H4.out.call hb)
    clear hb
    cases hi : rInside r0 r1 r2 r3 0 0 w h with
    | false =>
      have HI := hid hi
      clear hi
      have z0_0 := H6.out.cell 0 rfl 0 rfl
      have z0_1 := H6.out.cell 0 rfl 1 rfl
      have z0_2 := H6.out.cell 0 rfl 2 rfl
      have z0_3 := H6.out.cell 0 rfl 3 rfl
      have f0_0 := H6.out.free 0 rfl 0
      have f0_1 := H6.out.free 0 rfl 1
      have f0_2 := H6.out.free 0 rfl 2
      have f0_3 := H6.out.free 0 rfl 3
      have z1_0 := H6.out.cell 1 rfl 0 rfl
      have z1_1 := H6.out.cell 1 rfl 1 rfl
      have z1_2 := H6.out.cell 1 rfl 2 rfl
      have z1_3 := H6.out.cell 1 rfl 3 rfl
      have z2_0 := H6.out.cell 2 rfl 0 rfl
      have z2_1 := H6.out.cell 2 rfl 1 rfl
      have z2_2 := H6.out.cell 2 rfl 2 rfl
      have z2_3 := H6.out.cell 2 rfl 3 rfl
      go_wp2_with fail
      have HZ := hid (H6.out.set4 0 rfl (.int .i64 0) (.int .i64 0) (.int .i64 0) (.slice none 0 0))
      have k0 := HZ.out.cell 0 rfl 0 rfl
      have k1 := HZ.out.cell 0 rfl 1 rfl
      have k2 := HZ.out.cell 0 rfl 2 rfl
      have k3 := HZ.out.cell 0 rfl 3 rfl
      refine bodyPost_ret (v := .tuple #[.agg #[.int .i64 0, .int .i64 0, .int .i64 0, .slice none 0 0], .int .i64 8]) ?_ rfl (tile_no (by unfold tCode; rw [if_neg HNV.out, if_neg HNI.out, if_pos (by rw [HI.out, HE.out]; rfl)]) (by omega) (by first | exact HZ.out.below | exact HZ.out.below'))
      unfold set4 at k0 k1 k2 k3
      simp [results, Try.results44, go_sem, k0, k1, k2, k3]
    | true =>
    have hE : (!rEmpty r0 r1 r2 r3 && rInside r0 r1 r2 r3 0 0 w h) = true := by rw [hi, HE.out]; rfl
    have HNE := hid (show ¬ (!rEmpty r0 r1 r2 r3 && rInside r0 r1 r2 r3 0 0 w h) = false by rw [hE]; simp)
    have hin := (inside_iff (by have := HP.out; omega) (by have := HP.out; omega) (by have := HP.out; omega) (by have := HP.out; omega)).1 hE
    clear hi HE hE
    obtain ⟨i1, i2, i3, i4, i5, i6⟩ := hin
    have i7 : r2 ≤ 128 := by have := HP.out; omega
    have i8 : r3 ≤ 128 := by have := HP.out; omega
    have ml : (nl : Int) ≤ 9223372036854775807 := by have := HL.out.nc; have := HL.out.cap; omega
    have mt : (nt : Int) ≤ 9223372036854775807 := by have := HT.out.nc; have := HT.out.cap; omega
    obtain ⟨D1, hD1⟩ : ∃ D, w5.heap.size = D := ⟨_, rfl⟩
    have z0_0 := H6.out.cell 0 rfl 0 rfl
    have z0_1 := H6.out.cell 0 rfl 1 rfl
    have z0_2 := H6.out.cell 0 rfl 2 rfl
    have z0_3 := H6.out.cell 0 rfl 3 rfl
    have z1_0 := H6.out.cell 1 rfl 0 rfl
    have z1_1 := H6.out.cell 1 rfl 1 rfl
    have z1_2 := H6.out.cell 1 rfl 2 rfl
    have z1_3 := H6.out.cell 1 rfl 3 rfl
    have z2_0 := H6.out.cell 2 rfl 0 rfl
    have z2_1 := H6.out.cell 2 rfl 1 rfl
    have z2_2 := H6.out.cell 2 rfl 2 rfl
    have z2_3 := H6.out.cell 2 rfl 3 rfl
    go_upto_region 7 with fail
    clear z0_0 z0_1 z0_2 z0_3 z1_0 z1_1 z1_2 z1_3 z2_0 z2_1 z2_2 z2_3
    have H7 := hid (H6.out.alloc #[.int .i64 (r2 - r0), .int .i64 (r3 - r1), .int .i64 most, .slice none 0 0] 26 hD1)
    clear hD1
    generalize World.alloc w5 _ = v1 at *
    by_cases hl1 : (nl : Int) = r3 - r1
    · by_cases ht1 : (nt : Int) = r2 - r0
      · have hl2 : ((nl : Int) != r3 - r1) = false := by simpa using hl1
        have hl3 : ((nl : Int) == r3 - r1) = true := by simpa using hl1
        have ht2 : ((nt : Int) != r2 - r0) = false := by simpa using ht1
        have ht3 : ((nt : Int) == r2 - r0) = true := by simpa using ht1
        have HX := hid (show ¬ ¬ ((left.length : Int) = r3 - r1 ∧ (top.length : Int) = r2 - r0) by rw [HLL.out, HTL.out]; exact fun e => e ⟨hl1, ht1⟩)
        obtain ⟨nl1, nl2, nl3, nl4⟩ : (nl : Int) ≤ r3 - r1 ∧ r3 - r1 ≤ nl ∧ 1 ≤ nl ∧ nl ≤ 128 := by omega
        obtain ⟨nt1, nt2, nt3, nt4⟩ : (nt : Int) ≤ r2 - r0 ∧ r2 - r0 ≤ nt ∧ 1 ≤ nt ∧ nt ≤ 128 := by omega
        have HQL := hid hl1
        have HQT := hid ht1
        clear hl1 ht1
        obtain ⟨D2, hD2⟩ : ∃ D, v1.heap.size = D := ⟨_, rfl⟩
        have H9 := hid (H7.out.alloc #[.int .i64 corner] 3 hD2)
        have y0 := H7.out.cell 0 rfl 0 rfl
        have y1 := H7.out.cell 0 rfl 1 rfl
        go_wp2_with fail
        clear y0 y1 hl2 hl3 ht2 ht3 hD2
        generalize World.alloc v1 _ = v2 at *
        refine (outside_any most _ _ _ [corner] _ (H9.out.lit 0 [corner] rfl (by simp))).mono ?_
        rintro e w' ⟨rfl, rfl⟩
        cases h1 : allIn most [corner] with
        | false =>
          have z0_0 := H9.out.cell 0 rfl 0 rfl
          have z1_0 := H9.out.cell 1 rfl 0 rfl
          have z1_1 := H9.out.cell 1 rfl 1 rfl
          have z1_2 := H9.out.cell 1 rfl 2 rfl
          have z1_3 := H9.out.cell 1 rfl 3 rfl
          have z2_0 := H9.out.cell 2 rfl 0 rfl
          have z2_1 := H9.out.cell 2 rfl 1 rfl
          have z2_2 := H9.out.cell 2 rfl 2 rfl
          have z2_3 := H9.out.cell 2 rfl 3 rfl
          have f2_0 := H9.out.free 2 rfl 0
          have f2_1 := H9.out.free 2 rfl 1
          have f2_2 := H9.out.free 2 rfl 2
          have f2_3 := H9.out.free 2 rfl 3
          have z3_0 := H9.out.cell 3 rfl 0 rfl
          have z3_1 := H9.out.cell 3 rfl 1 rfl
          have z3_2 := H9.out.cell 3 rfl 2 rfl
          have z3_3 := H9.out.cell 3 rfl 3 rfl
          have z4_0 := H9.out.cell 4 rfl 0 rfl
          have z4_1 := H9.out.cell 4 rfl 1 rfl
          have z4_2 := H9.out.cell 4 rfl 2 rfl
          have z4_3 := H9.out.cell 4 rfl 3 rfl
          have HA1 := hid h1
          clear h1
          go_wp2_with fail
          have HZ := hid (H9.out.set4 2 rfl (.int .i64 0) (.int .i64 0) (.int .i64 0) (.slice none 0 0))
          have k0 := HZ.out.cell 2 rfl 0 rfl
          have k1 := HZ.out.cell 2 rfl 1 rfl
          have k2 := HZ.out.cell 2 rfl 2 rfl
          have k3 := HZ.out.cell 2 rfl 3 rfl
          refine bodyPost_ret (v := .tuple #[.agg #[.int .i64 0, .int .i64 0, .int .i64 0, .slice none 0 0], .int .i64 2]) ?_ rfl (tile_no (by unfold tCode; rw [if_neg HNV.out, if_neg HNI.out, if_neg HNE.out, if_neg HX.out, HMO.out, HA1.out]; simp) (by omega) (by first | exact HZ.out.below | exact HZ.out.below'))
          unfold set4 at k0 k1 k2 k3
          simp [results, Try.results44, go_sem, k0, k1, k2, k3]
        | true =>
        have HA1 := hid h1
        clear h1
        go_wp2_with fail
        refine (outside_any most _ _ _ left _ (H9.out.old HL.out)).mono ?_
        rintro e w' ⟨rfl, rfl⟩
        cases h2 : allIn most left with
        | false =>
          have HA2 := hid h2
          clear h2
          have z0_0 := H9.out.cell 0 rfl 0 rfl
          have z1_0 := H9.out.cell 1 rfl 0 rfl
          have z1_1 := H9.out.cell 1 rfl 1 rfl
          have z1_2 := H9.out.cell 1 rfl 2 rfl
          have z1_3 := H9.out.cell 1 rfl 3 rfl
          have z2_0 := H9.out.cell 2 rfl 0 rfl
          have z2_1 := H9.out.cell 2 rfl 1 rfl
          have z2_2 := H9.out.cell 2 rfl 2 rfl
          have z2_3 := H9.out.cell 2 rfl 3 rfl
          have f2_0 := H9.out.free 2 rfl 0
          have f2_1 := H9.out.free 2 rfl 1
          have f2_2 := H9.out.free 2 rfl 2
          have f2_3 := H9.out.free 2 rfl 3
          have z3_0 := H9.out.cell 3 rfl 0 rfl
          have z3_1 := H9.out.cell 3 rfl 1 rfl
          have z3_2 := H9.out.cell 3 rfl 2 rfl
          have z3_3 := H9.out.cell 3 rfl 3 rfl
          have z4_0 := H9.out.cell 4 rfl 0 rfl
          have z4_1 := H9.out.cell 4 rfl 1 rfl
          have z4_2 := H9.out.cell 4 rfl 2 rfl
          have z4_3 := H9.out.cell 4 rfl 3 rfl
          go_wp2_with fail
          have HZ := hid (H9.out.set4 2 rfl (.int .i64 0) (.int .i64 0) (.int .i64 0) (.slice none 0 0))
          have k0 := HZ.out.cell 2 rfl 0 rfl
          have k1 := HZ.out.cell 2 rfl 1 rfl
          have k2 := HZ.out.cell 2 rfl 2 rfl
          have k3 := HZ.out.cell 2 rfl 3 rfl
          refine bodyPost_ret (v := .tuple #[.agg #[.int .i64 0, .int .i64 0, .int .i64 0, .slice none 0 0], .int .i64 2]) ?_ rfl (tile_no (by unfold tCode; rw [if_neg HNV.out, if_neg HNI.out, if_neg HNE.out, if_neg HX.out, HMO.out, HA1.out, HA2.out]; simp) (by omega) (by first | exact HZ.out.below | exact HZ.out.below'))
          unfold set4 at k0 k1 k2 k3
          simp [results, Try.results44, go_sem, k0, k1, k2, k3]
        | true =>
        have HA2 := hid h2
        clear h2
        go_wp2_with fail
        refine (outside_any most _ _ _ top _ (H9.out.old HT.out)).mono ?_
        rintro e w' ⟨rfl, rfl⟩
        cases h3 : allIn most top with
        | false =>
          have HA3 := hid h3
          clear h3
          have z0_0 := H9.out.cell 0 rfl 0 rfl
          have z1_0 := H9.out.cell 1 rfl 0 rfl
          have z1_1 := H9.out.cell 1 rfl 1 rfl
          have z1_2 := H9.out.cell 1 rfl 2 rfl
          have z1_3 := H9.out.cell 1 rfl 3 rfl
          have z2_0 := H9.out.cell 2 rfl 0 rfl
          have z2_1 := H9.out.cell 2 rfl 1 rfl
          have z2_2 := H9.out.cell 2 rfl 2 rfl
          have z2_3 := H9.out.cell 2 rfl 3 rfl
          have f2_0 := H9.out.free 2 rfl 0
          have f2_1 := H9.out.free 2 rfl 1
          have f2_2 := H9.out.free 2 rfl 2
          have f2_3 := H9.out.free 2 rfl 3
          have z3_0 := H9.out.cell 3 rfl 0 rfl
          have z3_1 := H9.out.cell 3 rfl 1 rfl
          have z3_2 := H9.out.cell 3 rfl 2 rfl
          have z3_3 := H9.out.cell 3 rfl 3 rfl
          have z4_0 := H9.out.cell 4 rfl 0 rfl
          have z4_1 := H9.out.cell 4 rfl 1 rfl
          have z4_2 := H9.out.cell 4 rfl 2 rfl
          have z4_3 := H9.out.cell 4 rfl 3 rfl
          go_wp2_with fail
          have HZ := hid (H9.out.set4 2 rfl (.int .i64 0) (.int .i64 0) (.int .i64 0) (.slice none 0 0))
          have k0 := HZ.out.cell 2 rfl 0 rfl
          have k1 := HZ.out.cell 2 rfl 1 rfl
          have k2 := HZ.out.cell 2 rfl 2 rfl
          have k3 := HZ.out.cell 2 rfl 3 rfl
          refine bodyPost_ret (v := .tuple #[.agg #[.int .i64 0, .int .i64 0, .int .i64 0, .slice none 0 0], .int .i64 2]) ?_ rfl (tile_no (by unfold tCode; rw [if_neg HNV.out, if_neg HNI.out, if_neg HNE.out, if_neg HX.out, HMO.out, HA1.out, HA2.out, HA3.out]; simp) (by omega) (by first | exact HZ.out.below | exact HZ.out.below'))
          unfold set4 at k0 k1 k2 k3
          simp [results, Try.results44, go_sem, k0, k1, k2, k3]
        | true =>
        have HA3 := hid h3
        clear h3
        have pq0 := Int.mul_nonneg (a := r2 - r0) (b := r3 - r1) (by omega) (by omega)
        have pq1 := Int.mul_le_mul (a := r2 - r0) (c := 128) (b := r3 - r1) (d := 128) (by omega) (by omega) (by omega) (by omega)
        obtain ⟨NN, hNN⟩ : ∃ N : Nat, (r2 - r0) * (r3 - r1) = N := ⟨((r2 - r0) * (r3 - r1)).toNat, by omega⟩
        have NN1 : NN ≤ 16384 := by omega
        have qn : IntKind.i64.wrap (NN : Int) = NN := IntWalk.i64_in _ (by omega)
        obtain ⟨D3, hD3⟩ : ∃ D, w'.heap.size = D := ⟨_, rfl⟩
        have hBD3 : B ≤ D3 := by have := H9.out.size; omega
        have z1_0 := H9.out.cell 1 rfl 0 rfl
        have z1_1 := H9.out.cell 1 rfl 1 rfl
        have z1_2 := H9.out.cell 1 rfl 2 rfl
        have z1_3 := H9.out.cell 1 rfl 3 rfl
        have f1_0 := H9.out.free 1 rfl 0
        have f1_1 := H9.out.free 1 rfl 1
        have f1_2 := H9.out.free 1 rfl 2
        have f1_3 := H9.out.free 1 rfl 3
        go_upto_region 12 with (first | (at_make; refine make_cap rfl _ _ rfl D3 _ NN rfl rfl (by first | rfl | exact hNN) (by omega) (by omega) ?_; intro w5 ho hb; rw [hD3] at ho ⊢; have HM1 := hid (H9.out.grow hb (by rw [hD3]; exact ho)); clear ho hb z1_0 z1_1 z1_2 z1_3 f1_0 f1_1 f1_2 f1_3; have g3 := HM1.out.cell 2 rfl 3 rfl; have g4 := HM1.out.free 2 rfl 3))
        have H11 := hid (HM1.out.set 2 rfl 3 (.slice (some ⟨D3, 0, none⟩) 0 NN))
        clear g3 g4 HM1 hD3 qn
        generalize World.setCell w5 _ _ = w6 at *
        obtain ⟨D4, hD4⟩ : ∃ D, w6.heap.size = D := ⟨_, rfl⟩
        have hBD4 : B ≤ D4 := by have := H11.out.size; omega
        have z2_0 := H11.out.cell 2 rfl 0 rfl
        have z2_1 := H11.out.cell 2 rfl 1 rfl
        have z2_2 := H11.out.cell 2 rfl 2 rfl
        have z2_3 := H11.out.cell 2 rfl 3 rfl
        go_wp2_with (first | (at_make; refine make_int rfl _ _ rfl D4 _ _ nt rfl rfl (by omega) (by omega) (by omega) (by omega) ?_; intro w7 ho hb; rw [hD4] at ho ⊢; have H13 := hid (H11.out.made hD4 ho hb); clear ho hb z2_0 z2_1 z2_2 z2_3; have y1 := H13.out.cell 3 rfl 1 rfl))
        clear y1 hD4 hNN pq0 pq1
        have H14 := hid (show St B W [.own (.slice (some ⟨D4, 0, none⟩) nt nt) (List.replicate nt 0), .own (.slice (some ⟨D3, 0, none⟩) 0 NN) ([]), .cells D1 #[.int .i64 (r2 - r0), .int .i64 (r3 - r1), .int .i64 most, .slice (some ⟨D3, 0, none⟩) 0 NN] 26, .cells (B + 1 + 1) #[.int .i64 0, .int .i64 0, .int .i64 0, .slice none 0 0] 26, .cells (B + 1) #[.int .i64 r0, .int .i64 r1, .int .i64 r2, .int .i64 r3] 39, .cells B #[.int .i64 w, .int .i64 h, .int .i64 mx, .slice a n c] 26] [] _ from H13.out.pick [0, 1, 3, 4, 5, 6] rfl (by decide))
        obtain ⟨f, hf⟩ : ∃ f, tVal w zs r0 r1 left top corner = f := ⟨_, rfl⟩
        have HFV := hid (show ∀ k j, left.getD k 0 + top.getD j 0 - corner + tSum w zs r0 r1 (k + 1) (j + 1) = f k j from fun k j => by rw [← hf]; rfl)
        have HF := hid hf
        clear hf
        have HN := hid (show (n : Int) = w * h from by rw [← (pValid_iff.1 HV.out).2.1, HS.out.len])
        have HMB := hid HIO.out.2.2.2.2
        rw [HMO.out] at HMB
        obtain ⟨co1, co2⟩ : 0 ≤ corner ∧ corner ≤ most := by have := allIn_iff.1 HA1.out corner (by simp); exact this
        have mo : most ≤ 4294967296 := HMB.out
        have HLB := hid (fun i (hi : i < nl) => allIn_get HA2.out (i := i) (by rw [HLL.out]; exact hi))
        have HTB := hid (fun i (hi : i < nt) => allIn_get HA3.out (i := i) (by rw [HTL.out]; exact hi))
        obtain ⟨lb, lo, rfl⟩ := row_at HL.out.row (by omega)
        obtain ⟨tb, to', rfl⟩ := row_at HT.out.row (by omega)
        go_loopw [93] (fun i wr => ∃ (k ln g cp : Nat), k ≤ nl ∧ i = .int .i64 k ∧ ln = k * nt ∧ St B W [.own (.slice (some ⟨D4, 0, none⟩) nt nt) (colL w zs r0 r1 nt k 0), .own (.slice (some ⟨g, 0, none⟩) ln cp) (gridL f nt k 0), .cells D1 #[.int .i64 (r2 - r0), .int .i64 (r3 - r1), .int .i64 most, .slice (some ⟨g, 0, none⟩) ln cp] 26, .cells (B + 1 + 1) #[.int .i64 0, .int .i64 0, .int .i64 0, .slice none 0 0] 26, .cells (B + 1) #[.int .i64 r0, .int .i64 r1, .int .i64 r2, .int .i64 r3] 39, .cells B #[.int .i64 w, .int .i64 h, .int .i64 mx, .slice a n c] 26] [] wr) (fun i _ => nl - (intOf i).toNat)
        case atStart => exact ⟨0, 0, D3, NN, by omega, rfl, by omega, by rw [colL_zero]; exact H14.out⟩
        case round =>
          obtain ⟨k, ln, g, cp, hk, rfl, hln, hst⟩ := hrel
          obtain ⟨u3, rfl⟩ : ∃ u3 : World, u3 = wr := ⟨_, rfl⟩
          have HC := hid hst
          have HLN := hid hln
          clear hst hln
          by_cases hkn : k < nl
          · have hk1 : (k : Int) < r3 - r1 := by omega
            have z2_0 := HC.out.cell 2 rfl 0 rfl
            have z2_1 := HC.out.cell 2 rfl 1 rfl
            have z2_2 := HC.out.cell 2 rfl 2 rfl
            have z2_3 := HC.out.cell 2 rfl 3 rfl
            go_wp2_with fail
            clear z2_0 z2_1 z2_2 z2_3
            go_loopw [17, 98] (fun s i wr => ∃ (j ln g cp : Nat), j ≤ nt ∧ i = .int .i64 j ∧ ln = k * nt + j ∧ s = .int .i64 (tSum w zs r0 r1 (k + 1) j) ∧ St B W [.own (.slice (some ⟨D4, 0, none⟩) nt nt) (colL w zs r0 r1 nt k j), .own (.slice (some ⟨g, 0, none⟩) ln cp) (gridL f nt k j), .cells D1 #[.int .i64 (r2 - r0), .int .i64 (r3 - r1), .int .i64 most, .slice (some ⟨g, 0, none⟩) ln cp] 26, .cells (B + 1 + 1) #[.int .i64 0, .int .i64 0, .int .i64 0, .slice none 0 0] 26, .cells (B + 1) #[.int .i64 r0, .int .i64 r1, .int .i64 r2, .int .i64 r3] 39, .cells B #[.int .i64 w, .int .i64 h, .int .i64 mx, .slice a n c] 26] [] wr) (fun _ i _ => nt - (intOf i).toNat)
            case atStart => exact ⟨0, ln, g, cp, by omega, rfl, by rw [HLN.out]; rfl, rfl, HC.out⟩
            case round =>
              clear HC HLN
              obtain ⟨j, ln, g, cp, hj, rfl, hln, rfl, hst⟩ := hrel
              obtain ⟨u4, rfl⟩ : ∃ u4 : World, u4 = wr := ⟨_, rfl⟩
              have HD := hid hst
              have HLN := hid hln
              clear hst hln
              by_cases hjn : j < nt
              · have hj1 : (j : Int) < r2 - r0 := by omega
                have ln1 : ln ≤ 16512 := by have := HLN.out; have := Nat.mul_le_mul (show k ≤ 128 by omega) (show nt ≤ 128 by omega); omega
                go_wp2_with fail
                refine wp_region_still_tail 22 (by kernel_rfl) (by kernel_rfl) ?_
                change wpStill _ _ (u4.drewN 1) (fun a' => wpList _ _ _ _ a' (u4.drewN 1)) _ _
                have H15 := hid (HD.out.drewN 1)
                generalize u4.drewN 1 = v3 at *
                have z4_0 := H15.out.cell 4 rfl 0 rfl
                have z4_1 := H15.out.cell 4 rfl 1 rfl
                have z4_2 := H15.out.cell 4 rfl 2 rfl
                have z4_3 := H15.out.cell 4 rfl 3 rfl
                have z5_0 := H15.out.cell 5 rfl 0 rfl
                have z5_1 := H15.out.cell 5 rfl 1 rfl
                have z5_2 := H15.out.cell 5 rfl 2 rfl
                have z5_3 := H15.out.cell 5 rfl 3 rfl
                obtain ⟨s1, s2⟩ := H15.out.get 0 rfl (j := j) (by rw [colL_len]; exact hjn)
                have hcj := colL_get w zs r0 r1 nt k j j hjn
                rw [if_neg (by omega)] at hcj
                have HCN := hid (colL_next w zs r0 r1 nt k j hjn)
                rw [hcj] at s1 HCN
                clear hcj
                have HCS : Hid (tCol w zs r0 r1 k j + tPix w zs r0 r1 k j = tCol w zs r0 r1 (k + 1) j) := rfl
                have HSS : Hid (tSum w zs r0 r1 (k + 1) j + tCol w zs r0 r1 (k + 1) j = tSum w zs r0 r1 (k + 1) (j + 1)) := rfl
                obtain ⟨cb1, cb2⟩ := tCol_bd HV.out r0 r1 (k := k) (by omega) j
                obtain ⟨pb1, pb2⟩ := tPix_bd HV.out r0 r1 k j
                obtain ⟨sb1, sb2⟩ := tSum_bd HV.out r0 r1 (k := k + 1) (j := j) (by omega) (by omega)
                obtain ⟨sb3, sb4⟩ := tSum_bd HV.out r0 r1 (k := k + 1) (j := j + 1) (by omega) (by omega)
                have hpm : mx ≤ 4294967296 := HP.out.2.2.2.2.2.2
                obtain ⟨hw1, hw2, hh1, hh2, hwh, _, _⟩ := HP.out
                obtain ⟨pa0, pa1, pa2, pa3⟩ := pix_at (w := w) (h := h) (x := r0 + j) (y := r1 + k) hw1 hw2 hh2 (by omega) (by omega) (by omega) (by omega)
                obtain ⟨P, hP⟩ : ∃ P, (r1 + (k : Int)) * w = P := ⟨_, rfl⟩
                rw [hP] at pa0 pa1 pa2 pa3
                have hlt : P + r0 + j < n := by have := HN.out; omega
                have HSL := hid (H15.out.old HS.out)
                obtain ⟨pbk, po, hpa⟩ := row_at HSL.out.row (by omega)
                rw [hpa] at HSL
                have cz := row_cell HSL.out.row (j := (P + r0 + j).toNat) (by omega)
                have HPX : Hid (tPix w zs r0 r1 k j = zs.getD (P + r0 + (j : Int)).toNat 0) := by rw [← hP]; rfl
                rw [← HPX.out] at cz
                rw [hpa] at z5_3
                clear hpa
                generalize tPix w zs r0 r1 k j = pz at *
                generalize tCol w zs r0 r1 k j = cj at *
                obtain ⟨c1, hc1⟩ : ∃ c, tCol w zs r0 r1 (k + 1) j = c := ⟨_, rfl⟩
                rw [hc1] at HCS HSS
                clear hc1
                obtain ⟨s0, hs0⟩ : ∃ c, tSum w zs r0 r1 (k + 1) j = c := ⟨_, rfl⟩
                rw [hs0] at HSS sb1 sb2 ⊢
                clear hs0
                obtain ⟨s9, hs9⟩ : ∃ c, tSum w zs r0 r1 (k + 1) (j + 1) = c := ⟨_, rfl⟩
                rw [hs9] at HSS sb3 sb4
                have HS9 := hid hs9
                clear hs9
                have hcs := HCS.out
                have c1a : 0 ≤ c1 := by omega
                have c1b : c1 ≤ 1099511627776 := by omega
                have w1 : IntKind.i64.wrap (r1 + (k : Int)) = r1 + k := IntWalk.i64_in _ (by omega)
                have w2 : IntKind.i64.wrap P = P := IntWalk.i64_in _ (by omega)
                have w3 : IntKind.i64.wrap (P + r0) = P + r0 := IntWalk.i64_in _ (by omega)
                have w4 : IntKind.i64.wrap (P + r0 + (j : Int)) = P + r0 + j := IntWalk.i64_in _ (by omega)
                have w5 : IntKind.i64.wrap c1 = c1 := IntWalk.i64_in _ (by omega)
                have w6 : 0 ≤ P + r0 + (j : Int) := by omega
                have w7 : IntKind.i64.wrap s9 = s9 := IntWalk.i64_in _ (by omega)
                have hss := HSS.out
                simp only [List.take_succ_cons, List.take_zero, List.drop_succ_cons, List.drop_zero]
                iterate 22 still_step
                refine wpStill_nil ?_
                go_upto_region 22 with fail
                clear z4_0 z4_1 z4_2 z4_3 z5_0 z5_1 z5_2 z5_3
                have HCN2 := hid (show (colL w zs r0 r1 nt k j).set j c1 = colL w zs r0 r1 nt k (j + 1) by rw [← HCN.out, HCS.out])
                have H17 := hid (show St B W [.own (.slice (some ⟨D4, 0, none⟩) nt nt) (colL w zs r0 r1 nt k (j + 1)), .own (.slice (some ⟨g, 0, none⟩) ln cp) (gridL f nt k j), .cells D1 #[.int .i64 (r2 - r0), .int .i64 (r3 - r1), .int .i64 most, .slice (some ⟨g, 0, none⟩) ln cp] 26, .cells (B + 1 + 1) #[.int .i64 0, .int .i64 0, .int .i64 0, .slice none 0 0] 26, .cells (B + 1) #[.int .i64 r0, .int .i64 r1, .int .i64 r2, .int .i64 r3] 39, .cells B #[.int .i64 w, .int .i64 h, .int .i64 mx, .slice a n c] 26] [] _ from by rw [← HCN2.out]; exact H15.out.store 0 rfl j c1)
                generalize World.setCell v3 _ _ = v4 at *
                clear s1 s2 cz hcs hss w1 w2 w3 w4 w5 w6 HCN HCN2 HPX HSL hP pa0 pa1 pa2 pa3 hlt cb1 cb2 pb1 pb2 c1a c1b HCS HSS
                have H19 := hid (H17.out.drew)
                have HLC := hid (row_cell (H19.out.old HL.out).row hkn)
                have HTC := hid (row_cell (H19.out.old HT.out).row hjn)
                have HLK := hid (HLB.out k hkn)
                have HTK := hid (HTB.out j hjn)
                have HFK := hid (HFV.out k j)
                rw [HS9.out] at HFK
                obtain ⟨lv, hlv⟩ : ∃ z, left.getD k 0 = z := ⟨_, rfl⟩
                obtain ⟨tv, htv⟩ : ∃ z, top.getD j 0 = z := ⟨_, rfl⟩
                rw [hlv] at HLC HLK HFK
                rw [htv] at HTC HTK HFK
                have HLV := hid hlv
                have HTV := hid htv
                clear hlv htv
                obtain ⟨lv1, lv2⟩ := HLK.out
                obtain ⟨tv1, tv2⟩ := HTK.out
                have w1 : IntKind.i64.wrap (lv + tv) = lv + tv := IntWalk.i64_in _ (by omega)
                have w2 : IntKind.i64.wrap (lv + tv - corner) = lv + tv - corner := IntWalk.i64_in _ (by omega)
                obtain ⟨fv, hfv⟩ : ∃ z, f k j = z := ⟨_, rfl⟩
                rw [hfv] at HFK
                have HFX := hid hfv
                have hfs := HFK.out
                have w3 : IntKind.i64.wrap fv = fv := IntWalk.i64_in _ (by omega)
                clear hfv
                have HLEN9 := hid (show (gridL f nt k (j + 1)).length = ln + 1 by rw [gridL_len, HLN.out]; omega)
                refine wp_region_held_drew (S := (fun w' => w'.cell? ⟨lb, lo + k, none⟩ = some (.int .i64 lv) ∧ w'.cell? ⟨tb, to' + j, none⟩ = some (.int .i64 tv))) (by kernel_rfl) ⟨HLC.out, HTC.out⟩ (fun hHeld => ?_)
                skip
                generalize v4.drew = v5 at *
                skip
                refine wpAnyH_take (i := 0) (oi := _) (v := ?_) rfl (by kernel_rfl) (by kernel_rfl) (by kernel_rfl) (fun _ _ _ h => h) (Or.inl ⟨by rfl, ?_⟩) (by assumption) ?_
                rotate_left
                focus (intro wS hSw; (try dsimp only at hSw); go_simp; (try with_reducible rfl))
                try simp only [Act.put, List.getElem_toArray, List.getElem_cons_zero, List.getElem_cons_succ, List.setIfInBounds_toArray, List.set_cons_zero, List.set_cons_succ]
                refine wpAnyH_take (i := 2) (oi := _) (v := ?_) rfl (by kernel_rfl) (by kernel_rfl) (by kernel_rfl) (fun _ _ _ h => h) (Or.inl ⟨by rfl, ?_⟩) (by assumption) ?_
                rotate_left
                focus (intro wS hSw; (try dsimp only at hSw); go_simp; (try with_reducible rfl))
                try simp only [Act.put, List.getElem_toArray, List.getElem_cons_zero, List.getElem_cons_succ, List.setIfInBounds_toArray, List.set_cons_zero, List.set_cons_succ]
                refine wpAnyH_take (i := 3) (oi := _) (v := ?_) rfl (by kernel_rfl) (by kernel_rfl) (by kernel_rfl) (fun _ _ _ h => h) (Or.inl ⟨by rfl, ?_⟩) (by assumption) ?_
                rotate_left
                focus (intro wS hSw; (try dsimp only at hSw); go_simp; (try with_reducible rfl))
                try simp only [Act.put, List.getElem_toArray, List.getElem_cons_zero, List.getElem_cons_succ, List.setIfInBounds_toArray, List.set_cons_zero, List.set_cons_succ]
                refine wpAnyH_take (i := 4) (oi := _) (v := ?_) rfl (by kernel_rfl) (by kernel_rfl) (by kernel_rfl) (fun _ _ _ h => h) (Or.inl ⟨by rfl, ?_⟩) (by assumption) ?_
                rotate_left
                focus (intro wS hSw; (try dsimp only at hSw); go_simp; (try with_reducible rfl))
                try simp only [Act.put, List.getElem_toArray, List.getElem_cons_zero, List.getElem_cons_succ, List.setIfInBounds_toArray, List.set_cons_zero, List.set_cons_succ]
                refine wpAnyH_take (i := 5) (oi := _) (v := ?_) rfl (by kernel_rfl) (by kernel_rfl) (by kernel_rfl) (fun _ _ _ h => h) (Or.inl ⟨by rfl, ?_⟩) (by assumption) ?_
                rotate_left
                focus (intro wS hSw; (try dsimp only at hSw); go_simp; (try with_reducible rfl))
                try simp only [Act.put, List.getElem_toArray, List.getElem_cons_zero, List.getElem_cons_succ, List.setIfInBounds_toArray, List.set_cons_zero, List.set_cons_succ]
                refine wpAnyH_take (i := 6) (oi := _) (v := ?_) rfl (by kernel_rfl) (by kernel_rfl) (by kernel_rfl) (fun _ _ _ h => h) (Or.inl ⟨by rfl, ?_⟩) (by assumption) ?_
                rotate_left
                focus (intro wS hSw; (try dsimp only at hSw); go_simp; (try with_reducible rfl))
                try simp only [Act.put, List.getElem_toArray, List.getElem_cons_zero, List.getElem_cons_succ, List.setIfInBounds_toArray, List.set_cons_zero, List.set_cons_succ]
                refine wpAnyH_take (i := 7) (oi := _) (v := ?_) rfl (by kernel_rfl) (by kernel_rfl) (by kernel_rfl) (fun _ _ _ h => h) (Or.inl ⟨by rfl, ?_⟩) (by assumption) ?_
                rotate_left
                focus (intro wS hSw; (try dsimp only at hSw); go_simp; (try with_reducible rfl))
                try simp only [Act.put, List.getElem_toArray, List.getElem_cons_zero, List.getElem_cons_succ, List.setIfInBounds_toArray, List.set_cons_zero, List.set_cons_succ]
                refine wpAnyH_take (i := 8) (oi := _) (v := ?_) rfl (by kernel_rfl) (by kernel_rfl) (by kernel_rfl) (fun _ _ _ h => h) (Or.inl ⟨by rfl, ?_⟩) (by assumption) ?_
                rotate_left
                focus (intro wS hSw; (try dsimp only at hSw); go_simp; (try with_reducible rfl))
                try simp only [Act.put, List.getElem_toArray, List.getElem_cons_zero, List.getElem_cons_succ, List.setIfInBounds_toArray, List.set_cons_zero, List.set_cons_succ]
                refine wpAnyH_take (i := 9) (oi := _) (v := ?_) rfl (by kernel_rfl) (by kernel_rfl) (by kernel_rfl) (fun _ _ _ h => h) (Or.inl ⟨by rfl, ?_⟩) (by assumption) ?_
                rotate_left
                focus (intro wS hSw; (try dsimp only at hSw); go_simp; (try with_reducible rfl))
                try simp only [Act.put, List.getElem_toArray, List.getElem_cons_zero, List.getElem_cons_succ, List.setIfInBounds_toArray, List.set_cons_zero, List.set_cons_succ]
                refine wpAnyH_take (i := 10) (oi := _) (v := ?_) rfl (by kernel_rfl) (by kernel_rfl) (by kernel_rfl) (fun _ _ _ h => h) (Or.inl ⟨by rfl, ?_⟩) (by assumption) ?_
                rotate_left
                focus (intro wS hSw; (try dsimp only at hSw); go_simp; (try with_reducible rfl))
                try simp only [Act.put, List.getElem_toArray, List.getElem_cons_zero, List.getElem_cons_succ, List.setIfInBounds_toArray, List.set_cons_zero, List.set_cons_succ]
                refine wpAnyH_take (i := 11) (oi := _) (v := ?_) rfl (by kernel_rfl) (by kernel_rfl) (by kernel_rfl) (fun _ _ _ h => h) (Or.inl ⟨by rfl, ?_⟩) (by assumption) ?_
                rotate_left
                focus (intro wS hSw; (try dsimp only at hSw); go_simp; (try with_reducible rfl))
                try simp only [Act.put, List.getElem_toArray, List.getElem_cons_zero, List.getElem_cons_succ, List.setIfInBounds_toArray, List.set_cons_zero, List.set_cons_succ]
                refine wpAnyH_take (i := 12) (oi := _) (v := ?_) rfl (by kernel_rfl) (by kernel_rfl) (by kernel_rfl) (fun _ _ _ h => h) (Or.inl ⟨by rfl, ?_⟩) (by assumption) ?_
                rotate_left
                focus (intro wS hSw; (try dsimp only at hSw); go_simp; (try with_reducible rfl))
                try simp only [Act.put, List.getElem_toArray, List.getElem_cons_zero, List.getElem_cons_succ, List.setIfInBounds_toArray, List.set_cons_zero, List.set_cons_succ]
                refine wpAnyH_take (i := 13) (oi := _) (v := ?_) rfl (by kernel_rfl) (by kernel_rfl) (by kernel_rfl) (fun _ _ _ h => h) (Or.inl ⟨by rfl, ?_⟩) (by assumption) ?_
                rotate_left
                focus (intro wS hSw; (try dsimp only at hSw); go_simp; (try with_reducible rfl))
                try simp only [Act.put, List.getElem_toArray, List.getElem_cons_zero, List.getElem_cons_succ, List.setIfInBounds_toArray, List.set_cons_zero, List.set_cons_succ]
                refine wpAnyH_take (i := 14) (oi := _) (v := ?_) rfl (by kernel_rfl) (by kernel_rfl) (by kernel_rfl) (fun _ _ _ h => h) (Or.inl ⟨by rfl, ?_⟩) (by assumption) ?_
                rotate_left
                focus (intro wS hSw; (try dsimp only at hSw); go_simp; (try with_reducible rfl))
                try simp only [Act.put, List.getElem_toArray, List.getElem_cons_zero, List.getElem_cons_succ, List.setIfInBounds_toArray, List.set_cons_zero, List.set_cons_succ]
                refine wpAnyH_ready (rs := [1, 15]) (by kernel_rfl) (by simp) (AllReadyH.cons (o := _) rfl (fun K hK => ?_) (AllReadyH.cons (o := _) rfl (fun K hK => ?_) AllReadyH.nil))
                · have g0 := H19.out.cell 2 rfl 3 rfl
                  go_simp
                  refine hK.out _ _ ?_ (fun hHeld2 => ?_)
                  focus ((try dsimp only); (exact hHeld))
                  clear hK K
                  try simp only [Act.put, List.getElem_toArray, List.getElem_cons_zero, List.getElem_cons_succ, List.setIfInBounds_toArray, List.set_cons_zero, List.set_cons_succ]
                  clear hHeld2 g0
                  refine wpAnyH_ready (rs := [15]) (by kernel_rfl) (by simp) (AllReadyH.cons (o := _) rfl (fun K hK => ?_) AllReadyH.nil)
                  obtain ⟨D5, hD5⟩ : ∃ D, v5.heap.size = D := ⟨_, rfl⟩
                  have K501 := hid (H19.out.alloc #[.int .i64 fv] 3 hD5)
                  go_simp
                  refine hK.out _ _ ?_ (fun hHeld2 => ?_)
                  focus ((try dsimp only); (exact ⟨by have := row_cell (K501.out.old HL.out).row hkn; rw [HLV.out] at this; exact this, by have := row_cell (K501.out.old HT.out).row hjn; rw [HTV.out] at this; exact this⟩))
                  clear hK K
                  try simp only [Act.put, List.getElem_toArray, List.getElem_cons_zero, List.getElem_cons_succ, List.setIfInBounds_toArray, List.set_cons_zero, List.set_cons_succ]
                  clear hD5
                  clear hHeld
                  have hHeld := hHeld2
                  clear hHeld2
                  generalize World.alloc v5 _ = k501 at *
                  refine wpAnyH_ready (rs := [16]) (by kernel_rfl) (by simp) (AllReadyH.cons (o := _) rfl (fun K hK => ?_) AllReadyH.nil)
                  rw [if_pos (by rfl)]
                  refine oper_append_int _ _ rfl B _ (gridL f nt k j) fv D5 1 rfl rfl (K501.out.own 2 rfl) (K501.out.cell 0 rfl 0 rfl) (by rw [gridL_len, ← HLN.out]; omega) K501.out.size ?_
                  intro v9 k502 ho hg hv
                  have K502 := hid (K501.out.append 2 rfl ho hg hv)
                  clear hg hv
                  rw [← HFX.out, ← gridL_next] at K502 ho
                  obtain ⟨g9, c9, rfl⟩ := ho.pos (by rw [HLEN9.out]; omega)
                  rw [HLEN9.out] at K502 ⊢
                  clear ho
                  refine hK.out _ _ ?_ (fun hHeld2 => ?_)
                  focus ((try dsimp only); (exact ⟨by have := row_cell (K502.out.old HL.out).row hkn; rw [HLV.out] at this; exact this, by have := row_cell (K502.out.old HT.out).row hjn; rw [HTV.out] at this; exact this⟩))
                  clear hK K
                  try simp only [Act.put, List.getElem_toArray, List.getElem_cons_zero, List.getElem_cons_succ, List.setIfInBounds_toArray, List.set_cons_zero, List.set_cons_succ]
                  clear hHeld
                  have hHeld := hHeld2
                  clear hHeld2
                  refine wpAnyH_take (i := 17) (oi := _) (v := ?_) rfl (by kernel_rfl) (by kernel_rfl) (by kernel_rfl) (fun _ _ _ h => h) (Or.inl ⟨by rfl, ?_⟩) (by assumption) ?_
                  rotate_left
                  focus (intro wS hSw; (try dsimp only at hSw); go_simp; (try with_reducible rfl))
                  try simp only [Act.put, List.getElem_toArray, List.getElem_cons_zero, List.getElem_cons_succ, List.setIfInBounds_toArray, List.set_cons_zero, List.set_cons_succ]
                  refine wpAnyH_ready (rs := [18]) (by kernel_rfl) (by simp) (AllReadyH.cons (o := _) rfl (fun K hK => ?_) AllReadyH.nil)
                  have g0 := K502.out.cell 3 rfl 3 rfl
                  have g1 := K502.out.free 3 rfl 3
                  have K503 := hid (K502.out.set 3 rfl 3 (.slice (some ⟨g9, 0, none⟩) (ln + 1) c9))
                  go_simp
                  refine hK.out _ _ ?_ (fun hHeld2 => ?_)
                  focus ((try dsimp only); (exact ⟨by have := row_cell (K503.out.old HL.out).row hkn; rw [HLV.out] at this; exact this, by have := row_cell (K503.out.old HT.out).row hjn; rw [HTV.out] at this; exact this⟩))
                  clear hK K
                  try simp only [Act.put, List.getElem_toArray, List.getElem_cons_zero, List.getElem_cons_succ, List.setIfInBounds_toArray, List.set_cons_zero, List.set_cons_succ]
                  clear g0 g1
                  clear hHeld
                  have hHeld := hHeld2
                  clear hHeld2
                  generalize World.setCell k502 _ _ = k503 at *
                  refine wpAnyH_done (by kernel_rfl) ?_ _
                  clear hHeld w1 w2 w3 hfs
                  go_wp2_with fail
                  go_roundw
                  case rel => exact ⟨j + 1, ln + 1, g9, c9, by omega, by go_num, by rw [HLN.out]; rfl, by rw [HS9.out], K503.out.pick [1, 2, 3, 4, 5, 6] rfl (by decide)⟩
                  case measure => simp [intOf]; omega
                · obtain ⟨D5, hD5⟩ : ∃ D, v5.heap.size = D := ⟨_, rfl⟩
                  have K501 := hid (H19.out.alloc #[.int .i64 fv] 3 hD5)
                  go_simp
                  refine hK.out _ _ ?_ (fun hHeld2 => ?_)
                  focus ((try dsimp only); (exact ⟨by have := row_cell (K501.out.old HL.out).row hkn; rw [HLV.out] at this; exact this, by have := row_cell (K501.out.old HT.out).row hjn; rw [HTV.out] at this; exact this⟩))
                  clear hK K
                  try simp only [Act.put, List.getElem_toArray, List.getElem_cons_zero, List.getElem_cons_succ, List.setIfInBounds_toArray, List.set_cons_zero, List.set_cons_succ]
                  clear hD5
                  clear hHeld
                  have hHeld := hHeld2
                  clear hHeld2
                  generalize World.alloc v5 _ = k501 at *
                  refine wpAnyH_ready (rs := [1]) (by kernel_rfl) (by simp) (AllReadyH.cons (o := _) rfl (fun K hK => ?_) AllReadyH.nil)
                  have g0 := K501.out.cell 3 rfl 3 rfl
                  go_simp
                  refine hK.out _ _ ?_ (fun hHeld2 => ?_)
                  focus ((try dsimp only); (exact hHeld))
                  clear hK K
                  try simp only [Act.put, List.getElem_toArray, List.getElem_cons_zero, List.getElem_cons_succ, List.setIfInBounds_toArray, List.set_cons_zero, List.set_cons_succ]
                  clear hHeld2 g0
                  refine wpAnyH_ready (rs := [16]) (by kernel_rfl) (by simp) (AllReadyH.cons (o := _) rfl (fun K hK => ?_) AllReadyH.nil)
                  rw [if_pos (by rfl)]
                  refine oper_append_int _ _ rfl B _ (gridL f nt k j) fv D5 1 rfl rfl (K501.out.own 2 rfl) (K501.out.cell 0 rfl 0 rfl) (by rw [gridL_len, ← HLN.out]; omega) K501.out.size ?_
                  intro v9 k502 ho hg hv
                  have K502 := hid (K501.out.append 2 rfl ho hg hv)
                  clear hg hv
                  rw [← HFX.out, ← gridL_next] at K502 ho
                  obtain ⟨g9, c9, rfl⟩ := ho.pos (by rw [HLEN9.out]; omega)
                  rw [HLEN9.out] at K502 ⊢
                  clear ho
                  refine hK.out _ _ ?_ (fun hHeld2 => ?_)
                  focus ((try dsimp only); (exact ⟨by have := row_cell (K502.out.old HL.out).row hkn; rw [HLV.out] at this; exact this, by have := row_cell (K502.out.old HT.out).row hjn; rw [HTV.out] at this; exact this⟩))
                  clear hK K
                  try simp only [Act.put, List.getElem_toArray, List.getElem_cons_zero, List.getElem_cons_succ, List.setIfInBounds_toArray, List.set_cons_zero, List.set_cons_succ]
                  clear hHeld
                  have hHeld := hHeld2
                  clear hHeld2
                  refine wpAnyH_take (i := 17) (oi := _) (v := ?_) rfl (by kernel_rfl) (by kernel_rfl) (by kernel_rfl) (fun _ _ _ h => h) (Or.inl ⟨by rfl, ?_⟩) (by assumption) ?_
                  rotate_left
                  focus (intro wS hSw; (try dsimp only at hSw); go_simp; (try with_reducible rfl))
                  try simp only [Act.put, List.getElem_toArray, List.getElem_cons_zero, List.getElem_cons_succ, List.setIfInBounds_toArray, List.set_cons_zero, List.set_cons_succ]
                  refine wpAnyH_ready (rs := [18]) (by kernel_rfl) (by simp) (AllReadyH.cons (o := _) rfl (fun K hK => ?_) AllReadyH.nil)
                  have g0 := K502.out.cell 3 rfl 3 rfl
                  have g1 := K502.out.free 3 rfl 3
                  have K503 := hid (K502.out.set 3 rfl 3 (.slice (some ⟨g9, 0, none⟩) (ln + 1) c9))
                  go_simp
                  refine hK.out _ _ ?_ (fun hHeld2 => ?_)
                  focus ((try dsimp only); (exact ⟨by have := row_cell (K503.out.old HL.out).row hkn; rw [HLV.out] at this; exact this, by have := row_cell (K503.out.old HT.out).row hjn; rw [HTV.out] at this; exact this⟩))
                  clear hK K
                  try simp only [Act.put, List.getElem_toArray, List.getElem_cons_zero, List.getElem_cons_succ, List.setIfInBounds_toArray, List.set_cons_zero, List.set_cons_succ]
                  clear g0 g1
                  clear hHeld
                  have hHeld := hHeld2
                  clear hHeld2
                  generalize World.setCell k502 _ _ = k503 at *
                  refine wpAnyH_done (by kernel_rfl) ?_ _
                  clear hHeld w1 w2 w3 hfs
                  go_wp2_with fail
                  go_roundw
                  case rel => exact ⟨j + 1, ln + 1, g9, c9, by omega, by go_num, by rw [HLN.out]; rfl, by rw [HS9.out], K503.out.pick [1, 2, 3, 4, 5, 6] rfl (by decide)⟩
                  case measure => simp [intOf]; omega
              · have hj1 : ¬ ((j : Int) < r2 - r0) := by omega
                have HE := hid (show St B W [.own (.slice (some ⟨D4, 0, none⟩) nt nt) (colL w zs r0 r1 nt (k + 1) 0), .own (.slice (some ⟨g, 0, none⟩) ln cp) (gridL f nt (k + 1) 0), .cells D1 #[.int .i64 (r2 - r0), .int .i64 (r3 - r1), .int .i64 most, .slice (some ⟨g, 0, none⟩) ln cp] 26, .cells (B + 1 + 1) #[.int .i64 0, .int .i64 0, .int .i64 0, .slice none 0 0] 26, .cells (B + 1) #[.int .i64 r0, .int .i64 r1, .int .i64 r2, .int .i64 r3] 39, .cells B #[.int .i64 w, .int .i64 h, .int .i64 mx, .slice a n c] 26] [] u4 from by
                  have e : j = nt := by omega
                  subst e
                  rw [← colL_row, ← gridL_row]
                  exact HD.out)
                have HLN2 := hid (show ln = (k + 1) * nt by rw [HLN.out, Nat.add_mul, Nat.one_mul]; omega)
                go_wp2_with fail
                go_roundw
                case rel => exact ⟨k + 1, ln, g, cp, by omega, by go_num, HLN2.out, HE.out⟩
                case measure => simp [intOf]; omega
          · have hk1 : ¬ ((k : Int) < r3 - r1) := by omega
            have HAL := hid (show tAll w zs r0 r1 left top corner = gridL f nt k 0 from by unfold tAll; rw [HF.out, HTL.out, HLL.out]; congr 1; omega)
            have hgl : (gridL f nt k 0).length = ln := by rw [gridL_len, HLN.out]; rfl
            have HGL := hid hgl
            clear hgl
            have z2_0 := HC.out.cell 2 rfl 0 rfl
            have z2_1 := HC.out.cell 2 rfl 1 rfl
            have z2_2 := HC.out.cell 2 rfl 2 rfl
            have z2_3 := HC.out.cell 2 rfl 3 rfl
            go_wp2_with fail
            clear z2_0 z2_1 z2_2 z2_3
            refine (outside_any most _ _ _ (gridL f nt k 0) _ (HC.out.slc 1 rfl)).mono ?_
            rintro e w' ⟨rfl, rfl⟩
            cases h4 : allIn most (gridL f nt k 0) with
            | false =>
              have HA4 := hid h4
              clear h4
              have z2_0 := HC.out.cell 2 rfl 0 rfl
              have z2_1 := HC.out.cell 2 rfl 1 rfl
              have z2_2 := HC.out.cell 2 rfl 2 rfl
              have z2_3 := HC.out.cell 2 rfl 3 rfl
              have z3_0 := HC.out.cell 3 rfl 0 rfl
              have z3_1 := HC.out.cell 3 rfl 1 rfl
              have z3_2 := HC.out.cell 3 rfl 2 rfl
              have z3_3 := HC.out.cell 3 rfl 3 rfl
              have f3_0 := HC.out.free 3 rfl 0
              have f3_1 := HC.out.free 3 rfl 1
              have f3_2 := HC.out.free 3 rfl 2
              have f3_3 := HC.out.free 3 rfl 3
              have z4_0 := HC.out.cell 4 rfl 0 rfl
              have z4_1 := HC.out.cell 4 rfl 1 rfl
              have z4_2 := HC.out.cell 4 rfl 2 rfl
              have z4_3 := HC.out.cell 4 rfl 3 rfl
              have z5_0 := HC.out.cell 5 rfl 0 rfl
              have z5_1 := HC.out.cell 5 rfl 1 rfl
              have z5_2 := HC.out.cell 5 rfl 2 rfl
              have z5_3 := HC.out.cell 5 rfl 3 rfl
              go_wp2_with fail
              have HZ := hid (HC.out.set4 3 rfl (.int .i64 0) (.int .i64 0) (.int .i64 0) (.slice none 0 0))
              have k0 := HZ.out.cell 3 rfl 0 rfl
              have k1 := HZ.out.cell 3 rfl 1 rfl
              have k2 := HZ.out.cell 3 rfl 2 rfl
              have k3 := HZ.out.cell 3 rfl 3 rfl
              refine bodyPost_ret (v := .tuple #[.agg #[.int .i64 0, .int .i64 0, .int .i64 0, .slice none 0 0], .int .i64 2]) ?_ rfl (tile_no (by unfold tCode; rw [if_neg HNV.out, if_neg HNI.out, if_neg HNE.out, if_neg HX.out, HMO.out, HA1.out, HA2.out, HA3.out, HAL.out, HA4.out]; simp) (by omega) (by first | exact HZ.out.below | exact HZ.out.below'))
              unfold set4 at k0 k1 k2 k3
              simp [results, Try.results44, go_sem, k0, k1, k2, k3]
            | true =>
              have HA4 := hid h4
              clear h4
              have HC0 := hid (show tCode w h mx zs r0 r1 r2 r3 left top corner = 0 by unfold tCode; rw [if_neg HNV.out, if_neg HNI.out, if_neg HNE.out, if_neg HX.out, HMO.out, HA1.out, HA2.out, HA3.out, HAL.out, HA4.out]; simp)
              have HTI := hid (show ∀ x, tIf w h mx zs r0 r1 r2 r3 left top corner x = x from fun x => by unfold tIf; rw [if_pos HC0.out])
              have HTLL := hid (show tList w h mx zs r0 r1 r2 r3 left top corner = gridL f nt k 0 from by unfold tList; rw [if_pos HC0.out, HAL.out])
              have z2_0 := HC.out.cell 2 rfl 0 rfl
              have z2_1 := HC.out.cell 2 rfl 1 rfl
              have z2_2 := HC.out.cell 2 rfl 2 rfl
              have z2_3 := HC.out.cell 2 rfl 3 rfl
              have z3_0 := HC.out.cell 3 rfl 0 rfl
              have z3_1 := HC.out.cell 3 rfl 1 rfl
              have z3_2 := HC.out.cell 3 rfl 2 rfl
              have z3_3 := HC.out.cell 3 rfl 3 rfl
              have f3_0 := HC.out.free 3 rfl 0
              have f3_1 := HC.out.free 3 rfl 1
              have f3_2 := HC.out.free 3 rfl 2
              have f3_3 := HC.out.free 3 rfl 3
              go_wp2_with fail
              have HZ := hid (HC.out.set4 3 rfl (.int .i64 (r2 - r0)) (.int .i64 (r3 - r1)) (.int .i64 most) (.slice (some ⟨g, 0, none⟩) ln cp))
              have k0 := HZ.out.cell 3 rfl 0 rfl
              have k1 := HZ.out.cell 3 rfl 1 rfl
              have k2 := HZ.out.cell 3 rfl 2 rfl
              have k3 := HZ.out.cell 3 rfl 3 rfl
              refine bodyPost_ret (v := .tuple #[.agg #[.int .i64 (r2 - r0), .int .i64 (r3 - r1), .int .i64 most, .slice (some ⟨g, 0, none⟩) ln cp], .int .i64 0]) ?_ rfl ⟨_, by rw [HTI.out, HTI.out, HTI.out, HC0.out, HMO.out], by rw [HTLL.out, hB]; exact HZ.out.own 1 rfl, by first | exact HZ.out.below | exact HZ.out.below'⟩
              unfold set4 at k0 k1 k2 k3
              simp [results, Try.results44, go_sem, k0, k1, k2, k3]
      · have hl2 : ((nl : Int) != r3 - r1) = false := by simpa using hl1
        have ht2 : ((nt : Int) != r2 - r0) = true := by simpa using ht1
        have hl3 : ((nl : Int) == r3 - r1) = true := by simpa using hl1
        have ht3 : ((nt : Int) == r2 - r0) = false := by simpa using ht1
        have HX := hid (show ¬ ((left.length : Int) = r3 - r1 ∧ (top.length : Int) = r2 - r0) by rw [HLL.out, HTL.out]; exact fun e => ht1 e.2)
        clear hl1 ht1
        have z0_0 := H7.out.cell 0 rfl 0 rfl
        have z0_1 := H7.out.cell 0 rfl 1 rfl
        have z0_2 := H7.out.cell 0 rfl 2 rfl
        have z0_3 := H7.out.cell 0 rfl 3 rfl
        have z1_0 := H7.out.cell 1 rfl 0 rfl
        have z1_1 := H7.out.cell 1 rfl 1 rfl
        have z1_2 := H7.out.cell 1 rfl 2 rfl
        have z1_3 := H7.out.cell 1 rfl 3 rfl
        have f1_0 := H7.out.free 1 rfl 0
        have f1_1 := H7.out.free 1 rfl 1
        have f1_2 := H7.out.free 1 rfl 2
        have f1_3 := H7.out.free 1 rfl 3
        have z2_0 := H7.out.cell 2 rfl 0 rfl
        have z2_1 := H7.out.cell 2 rfl 1 rfl
        have z2_2 := H7.out.cell 2 rfl 2 rfl
        have z2_3 := H7.out.cell 2 rfl 3 rfl
        have z3_0 := H7.out.cell 3 rfl 0 rfl
        have z3_1 := H7.out.cell 3 rfl 1 rfl
        have z3_2 := H7.out.cell 3 rfl 2 rfl
        have z3_3 := H7.out.cell 3 rfl 3 rfl
        go_wp2_with fail
        have HZ := hid (H7.out.set4 1 rfl (.int .i64 0) (.int .i64 0) (.int .i64 0) (.slice none 0 0))
        have k0 := HZ.out.cell 1 rfl 0 rfl
        have k1 := HZ.out.cell 1 rfl 1 rfl
        have k2 := HZ.out.cell 1 rfl 2 rfl
        have k3 := HZ.out.cell 1 rfl 3 rfl
        refine bodyPost_ret (v := .tuple #[.agg #[.int .i64 0, .int .i64 0, .int .i64 0, .slice none 0 0], .int .i64 8]) ?_ rfl (tile_no (by unfold tCode; rw [if_neg HNV.out, if_neg HNI.out, if_neg HNE.out, if_pos HX.out]) (by omega) (by first | exact HZ.out.below | exact HZ.out.below'))
        unfold set4 at k0 k1 k2 k3
        simp [results, Try.results44, go_sem, k0, k1, k2, k3]
    · have hl2 : ((nl : Int) != r3 - r1) = true := by simpa using hl1
      have hl3 : ((nl : Int) == r3 - r1) = false := by simpa using hl1
      have HX := hid (show ¬ ((left.length : Int) = r3 - r1 ∧ (top.length : Int) = r2 - r0) by rw [HLL.out]; exact fun e => hl1 e.1)
      clear hl1
      have z0_0 := H7.out.cell 0 rfl 0 rfl
      have z0_1 := H7.out.cell 0 rfl 1 rfl
      have z0_2 := H7.out.cell 0 rfl 2 rfl
      have z0_3 := H7.out.cell 0 rfl 3 rfl
      have z1_0 := H7.out.cell 1 rfl 0 rfl
      have z1_1 := H7.out.cell 1 rfl 1 rfl
      have z1_2 := H7.out.cell 1 rfl 2 rfl
      have z1_3 := H7.out.cell 1 rfl 3 rfl
      have f1_0 := H7.out.free 1 rfl 0
      have f1_1 := H7.out.free 1 rfl 1
      have f1_2 := H7.out.free 1 rfl 2
      have f1_3 := H7.out.free 1 rfl 3
      have z2_0 := H7.out.cell 2 rfl 0 rfl
      have z2_1 := H7.out.cell 2 rfl 1 rfl
      have z2_2 := H7.out.cell 2 rfl 2 rfl
      have z2_3 := H7.out.cell 2 rfl 3 rfl
      have z3_0 := H7.out.cell 3 rfl 0 rfl
      have z3_1 := H7.out.cell 3 rfl 1 rfl
      have z3_2 := H7.out.cell 3 rfl 2 rfl
      have z3_3 := H7.out.cell 3 rfl 3 rfl
      go_wp2_with fail
      have HZ := hid (H7.out.set4 1 rfl (.int .i64 0) (.int .i64 0) (.int .i64 0) (.slice none 0 0))
      have k0 := HZ.out.cell 1 rfl 0 rfl
      have k1 := HZ.out.cell 1 rfl 1 rfl
      have k2 := HZ.out.cell 1 rfl 2 rfl
      have k3 := HZ.out.cell 1 rfl 3 rfl
      refine bodyPost_ret (v := .tuple #[.agg #[.int .i64 0, .int .i64 0, .int .i64 0, .slice none 0 0], .int .i64 8]) ?_ rfl (tile_no (by unfold tCode; rw [if_neg HNV.out, if_neg HNI.out, if_neg HNE.out, if_pos HX.out]) (by omega) (by first | exact HZ.out.below | exact HZ.out.below'))
      unfold set4 at k0 k1 k2 k3
      simp [results, Try.results44, go_sem, k0, k1, k2, k3]
  · have hk1 : (kc == 0) = false := by simpa using hk0
    have hk2 : (kc != 0) = true := by simpa using hk0
    have HC := hid (HKC.out hk0)
    have hk3 := hid hk0
    clear hk0
    have z0_0 := H2.out.cell 0 rfl 0 rfl
    have z0_1 := H2.out.cell 0 rfl 1 rfl
    have z0_2 := H2.out.cell 0 rfl 2 rfl
    have z0_3 := H2.out.cell 0 rfl 3 rfl
    have f0_0 := H2.out.free 0 rfl 0
    have f0_1 := H2.out.free 0 rfl 1
    have f0_2 := H2.out.free 0 rfl 2
    have f0_3 := H2.out.free 0 rfl 3
    have z1_0 := H2.out.cell 1 rfl 0 rfl
    have z1_1 := H2.out.cell 1 rfl 1 rfl
    have z1_2 := H2.out.cell 1 rfl 2 rfl
    have z1_3 := H2.out.cell 1 rfl 3 rfl
    have z2_0 := H2.out.cell 2 rfl 0 rfl
    have z2_1 := H2.out.cell 2 rfl 1 rfl
    have z2_2 := H2.out.cell 2 rfl 2 rfl
    have z2_3 := H2.out.cell 2 rfl 3 rfl
    go_wp2_with fail
    have HZ := hid (H2.out.set4 0 rfl (.int .i64 0) (.int .i64 0) (.int .i64 0) (.slice none 0 0))
    have k0 := HZ.out.cell 0 rfl 0 rfl
    have k1 := HZ.out.cell 0 rfl 1 rfl
    have k2 := HZ.out.cell 0 rfl 2 rfl
    have k3 := HZ.out.cell 0 rfl 3 rfl
    refine bodyPost_ret (v := .tuple #[.agg #[.int .i64 0, .int .i64 0, .int .i64 0, .slice none 0 0], .int .i64 kc]) ?_ rfl (tile_no (HC.out) hk3.out (by first | exact HZ.out.below | exact HZ.out.below'))
    unfold set4 at k0 k1 k2 k3
    simp [results, Try.results44, go_sem, k0, k1, k2, k3]
end

section
open Go.RowKit
set_option linter.unusedVariables false
set_option linter.unusedSimpArgs false

theorem tCode_of_k {w h mx : Int} {zs : List Int} {r0 r1 r2 r3 : Int} {left top : List Int} {corner : Int} (hk : kCode w h mx zs ≠ 0) : tCode w h mx zs r0 r1 r2 r3 left top corner = kCode w h mx zs := by
  cases hv : pValid w h mx zs with
  | false => unfold tCode kCode; rw [hv, if_pos rfl, if_neg (by simp)]
  | true =>
    cases hi : iOk w h mx with
    | false => unfold tCode kCode iCode; rw [hv, hi, if_neg (by simp), if_pos rfl, if_pos rfl, if_neg (by simp)]
    | true => exact absurd (by simp [kCode, iCode, hv, hi]) hk
theorem valid_of_k {w h mx : Int} {zs : List Int} (hk : kCode w h mx zs = 0) : pValid w h mx zs = true ∧ iOk w h mx = true := by
  cases hv : pValid w h mx zs with
  | false => simp [kCode, hv] at hk
  | true =>
    cases hi : iOk w h mx with
    | false => simp [kCode, iCode, hv, hi] at hk
    | true => exact ⟨rfl, rfl⟩

set_option maxRecDepth 100000 in
set_option maxHeartbeats 3200000 in
theorem iwhole_any (w h mx : Int) (a : Option Addr) (n c : Nat) (zs : List Int) (W : World) (hs : Slc W a n c zs) :
    Calls Try.prog 37 #[.agg #[.int .i64 w, .int .i64 h, .int .i64 mx, .slice a n c]] W (TilePost w h mx zs 0 0 w h (List.replicate h.toNat 0) (List.replicate w.toNat 0) 0 W) := by
  obtain ⟨B, hB⟩ : ∃ B, W.heap.size = B := ⟨_, rfl⟩
  have H0 := hid (((St.init hB).alloc #[.int .i64 w, .int .i64 h, .int .i64 mx, .slice a n c] 26 hB).alloc #[.int .i64 0, .int .i64 0, .int .i64 0, .slice none 0 0] 26 (alloc_size _ hB))
  have HS := hid hs
  clear hs
  go_enter Try.func37, Try.ntmps37
  go_wp2_with fail
  refine (checked_any _ _ _ _ _ _ _ _ (H0.out.old HS.out)).mono ?_
  rintro e w1 ⟨rfl, hb⟩
  have H1 := hid (H0.out.call hb)
  clear hb
  have y0 := H1.out.cell 0 rfl 0 rfl
  have y1 := H1.out.cell 0 rfl 1 rfl
  have y2 := H1.out.cell 0 rfl 2 rfl
  have y3 := H1.out.cell 0 rfl 3 rfl
  have e0 := H1.out.free 0 rfl 0
  have e1 := H1.out.free 0 rfl 1
  have e2 := H1.out.free 0 rfl 2
  have e3 := H1.out.free 0 rfl 3
  by_cases hk : kCode w h mx zs = 0
  · obtain ⟨hv, hio⟩ := valid_of_k hk
    obtain ⟨p1, p2, p3, p4, p5, _, _⟩ := pOk_iff.1 (pValid_iff.1 hv).1
    rw [hk]
    obtain ⟨kv, hkv⟩ : ∃ k, kVal w h mx zs = k := ⟨_, rfl⟩
    rw [hkv]
    clear hk hkv hv hio y0 y1 y2 y3 e0 e1 e2 e3
    obtain ⟨nh, hnh⟩ : ∃ m : Nat, h.toNat = m := ⟨_, rfl⟩
    obtain ⟨nw, hnw⟩ : ∃ m : Nat, w.toNat = m := ⟨_, rfl⟩
    have nh1 : h = (nh : Int) := by omega
    have nw1 : w = (nw : Int) := by omega
    have HNH := hid nh1
    have HNW := hid nw1
    rw [hnh, hnw]
    have nh2 : nh ≤ 128 := by omega
    have nw2 : nw ≤ 128 := by omega
    clear hnh hnw nh1 nw1
    go_wp2_with fail
    have H2 := hid H1.out.drew
    refine wp_region_held_drew (S := (fun w' => w'.cell? ⟨B, 0, none⟩ = some (.int .i64 w) ∧ w'.cell? ⟨B, 1, none⟩ = some (.int .i64 h) ∧ w'.cell? ⟨B, 2, none⟩ = some (.int .i64 mx) ∧ w'.cell? ⟨B, 3, none⟩ = some (.slice a n c))) (by kernel_rfl) ⟨H2.out.cell 1 rfl 0 rfl, H2.out.cell 1 rfl 1 rfl, H2.out.cell 1 rfl 2 rfl, H2.out.cell 1 rfl 3 rfl⟩ (fun hHeld => ?_)
    generalize w1.drew = k0 at *
    refine wpAnyH_take (i := 0) (oi := _) (v := ?_) rfl (by kernel_rfl) (by kernel_rfl) (by kernel_rfl) (fun _ _ _ h => h) (Or.inl ⟨by rfl, ?_⟩) (by assumption) ?_
    rotate_left
    focus (intro wS hSw; (try dsimp only at hSw); go_simp; (try with_reducible rfl))
    try simp only [Act.put, List.getElem_toArray, List.getElem_cons_zero, List.getElem_cons_succ, List.setIfInBounds_toArray, List.set_cons_zero, List.set_cons_succ]
    refine wpAnyH_take (i := 1) (oi := _) (v := ?_) rfl (by kernel_rfl) (by kernel_rfl) (by kernel_rfl) (fun _ _ _ h => h) (Or.inl ⟨by rfl, ?_⟩) (by assumption) ?_
    rotate_left
    focus (intro wS hSw; (try dsimp only at hSw); go_simp; (try with_reducible rfl))
    try simp only [Act.put, List.getElem_toArray, List.getElem_cons_zero, List.getElem_cons_succ, List.setIfInBounds_toArray, List.set_cons_zero, List.set_cons_succ]
    refine wpAnyH_take (i := 2) (oi := _) (v := ?_) rfl (by kernel_rfl) (by kernel_rfl) (by kernel_rfl) (fun _ _ _ h => h) (Or.inl ⟨by rfl, ?_⟩) (by assumption) ?_
    rotate_left
    focus (intro wS hSw; (try dsimp only at hSw); go_simp; (try with_reducible rfl))
    try simp only [Act.put, List.getElem_toArray, List.getElem_cons_zero, List.getElem_cons_succ, List.setIfInBounds_toArray, List.set_cons_zero, List.set_cons_succ]
    refine wpAnyH_take (i := 3) (oi := _) (v := ?_) rfl (by kernel_rfl) (by kernel_rfl) (by kernel_rfl) (fun _ _ _ h => h) (Or.inl ⟨by rfl, ?_⟩) (by assumption) ?_
    rotate_left
    focus (intro wS hSw; (try dsimp only at hSw); go_simp; (try with_reducible rfl))
    try simp only [Act.put, List.getElem_toArray, List.getElem_cons_zero, List.getElem_cons_succ, List.setIfInBounds_toArray, List.set_cons_zero, List.set_cons_succ]
    refine wpAnyH_take (i := 4) (oi := _) (v := ?_) rfl (by kernel_rfl) (by kernel_rfl) (by kernel_rfl) (fun _ _ _ h => h) (Or.inl ⟨by rfl, ?_⟩) (by assumption) ?_
    rotate_left
    focus (intro wS hSw; (try dsimp only at hSw); go_simp; (try with_reducible rfl))
    try simp only [Act.put, List.getElem_toArray, List.getElem_cons_zero, List.getElem_cons_succ, List.setIfInBounds_toArray, List.set_cons_zero, List.set_cons_succ]
    refine wpAnyH_take (i := 5) (oi := _) (v := ?_) rfl (by kernel_rfl) (by kernel_rfl) (by kernel_rfl) (fun _ _ _ h => h) (Or.inl ⟨by rfl, ?_⟩) (by assumption) ?_
    rotate_left
    focus (intro wS hSw; (try dsimp only at hSw); go_simp; (try with_reducible rfl))
    try simp only [Act.put, List.getElem_toArray, List.getElem_cons_zero, List.getElem_cons_succ, List.setIfInBounds_toArray, List.set_cons_zero, List.set_cons_succ]
    refine wpAnyH_take (i := 6) (oi := _) (v := ?_) rfl (by kernel_rfl) (by kernel_rfl) (by kernel_rfl) (fun _ _ _ h => h) (Or.inl ⟨by rfl, ?_⟩) (by assumption) ?_
    rotate_left
    focus (intro wS hSw; (try dsimp only at hSw); go_simp; (try with_reducible rfl))
    try simp only [Act.put, List.getElem_toArray, List.getElem_cons_zero, List.getElem_cons_succ, List.setIfInBounds_toArray, List.set_cons_zero, List.set_cons_succ]
    refine wpAnyH_take (i := 7) (oi := _) (v := ?_) rfl (by kernel_rfl) (by kernel_rfl) (by kernel_rfl) (fun _ _ _ h => h) (Or.inl ⟨by rfl, ?_⟩) (by assumption) ?_
    rotate_left
    focus (intro wS hSw; (try dsimp only at hSw); go_simp; (try with_reducible rfl))
    try simp only [Act.put, List.getElem_toArray, List.getElem_cons_zero, List.getElem_cons_succ, List.setIfInBounds_toArray, List.set_cons_zero, List.set_cons_succ]
    refine wpAnyH_take (i := 9) (oi := _) (v := ?_) rfl (by kernel_rfl) (by kernel_rfl) (by kernel_rfl) (fun _ _ _ h => h) (Or.inl ⟨by rfl, ?_⟩) (by assumption) ?_
    rotate_left
    focus (intro wS hSw; (try dsimp only at hSw); go_simp; (try with_reducible rfl))
    try simp only [Act.put, List.getElem_toArray, List.getElem_cons_zero, List.getElem_cons_succ, List.setIfInBounds_toArray, List.set_cons_zero, List.set_cons_succ]
    refine wpAnyH_take (i := 10) (oi := _) (v := ?_) rfl (by kernel_rfl) (by kernel_rfl) (by kernel_rfl) (fun _ _ _ h => h) (Or.inl ⟨by rfl, ?_⟩) (by assumption) ?_
    rotate_left
    focus (intro wS hSw; (try dsimp only at hSw); go_simp; (try with_reducible rfl))
    try simp only [Act.put, List.getElem_toArray, List.getElem_cons_zero, List.getElem_cons_succ, List.setIfInBounds_toArray, List.set_cons_zero, List.set_cons_succ]
    refine wpAnyH_ready (rs := [8, 11]) (by kernel_rfl) (by simp) (AllReadyH.cons (o := _) rfl (fun K hK => ?_) (AllReadyH.cons (o := _) rfl (fun K hK => ?_) AllReadyH.nil))
    · obtain ⟨DL, hD1⟩ : ∃ L, k0.heap.size = L := ⟨_, rfl⟩
      have hBD1 : B ≤ DL := by have := H2.out.size; omega
      rw [if_pos (by rfl)]
      refine oper_make_int _ _ rfl DL _ _ nh rfl rfl HNH.out HNH.out (by omega) (by omega) ?_
      intro k1 ho hb
      rw [hD1] at ho ⊢
      have K1 := hid (H2.out.made hD1 ho hb)
      clear ho hb hD1 hBD1
      refine hK.out _ _ ?_ (fun hHeld2 => ?_)
      focus ((try dsimp only); (exact ⟨K1.out.cell 2 rfl 0 rfl, K1.out.cell 2 rfl 1 rfl, K1.out.cell 2 rfl 2 rfl, K1.out.cell 2 rfl 3 rfl⟩))
      clear hK K
      try simp only [Act.put, List.getElem_toArray, List.getElem_cons_zero, List.getElem_cons_succ, List.setIfInBounds_toArray, List.set_cons_zero, List.set_cons_succ]
      clear hHeld
      have hHeld := hHeld2
      clear hHeld2
      refine wpAnyH_ready (rs := [11]) (by kernel_rfl) (by simp) (AllReadyH.cons (o := _) rfl (fun K hK => ?_) AllReadyH.nil)
      obtain ⟨DT, hD2⟩ : ∃ L, k1.heap.size = L := ⟨_, rfl⟩
      have hBD2 : B ≤ DT := by have := K1.out.size; omega
      rw [if_pos (by rfl)]
      refine oper_make_int _ _ rfl DT _ _ nw rfl rfl HNW.out HNW.out (by omega) (by omega) ?_
      intro k2 ho hb
      rw [hD2] at ho ⊢
      have K2 := hid (K1.out.made hD2 ho hb)
      clear ho hb hD2 hBD2
      refine hK.out _ _ ?_ (fun hHeld2 => ?_)
      focus ((try dsimp only); (exact ⟨K2.out.cell 3 rfl 0 rfl, K2.out.cell 3 rfl 1 rfl, K2.out.cell 3 rfl 2 rfl, K2.out.cell 3 rfl 3 rfl⟩))
      clear hK K
      try simp only [Act.put, List.getElem_toArray, List.getElem_cons_zero, List.getElem_cons_succ, List.setIfInBounds_toArray, List.set_cons_zero, List.set_cons_succ]
      clear hHeld
      have hHeld := hHeld2
      clear hHeld2
      refine wpAnyH_ready (rs := [12]) (by kernel_rfl) (by simp) (AllReadyH.cons (o := _) rfl (fun K hK => ?_) AllReadyH.nil)
      go_simp
      go_at_call 44; with_reducible refine (itile_any w h mx a n c zs 0 0 w h _ nh nh (List.replicate nh 0) _ nw nw (List.replicate nw 0) 0 _ (K2.out.old HS.out) (K2.out.slc 1 rfl) (K2.out.slc 0 rfl)).mono ?_
      rintro e k3 ⟨v, rfl, ho, hb⟩
      have K3 := hid (K2.out.grow hb ho)
      obtain ⟨va, vc, rfl, _⟩ := ho.slc
      clear ho hb
      obtain ⟨ti, hti⟩ : ∃ f, tIf w h mx zs 0 0 w h (List.replicate nh 0) (List.replicate nw 0) 0 = f := ⟨_, rfl⟩
      obtain ⟨tc, htc⟩ : ∃ f, tCode w h mx zs 0 0 w h (List.replicate nh 0) (List.replicate nw 0) 0 = f := ⟨_, rfl⟩
      obtain ⟨tl, htl⟩ : ∃ f, tList w h mx zs 0 0 w h (List.replicate nh 0) (List.replicate nw 0) 0 = f := ⟨_, rfl⟩
      have HTI := hid hti
      have HTC := hid htc
      have HTL := hid htl
      rw [hti, htc, htl]
      rw [htl] at K3
      clear hti htc htl
      obtain ⟨t1, ht1⟩ : ∃ z, ti (w - 0) = z := ⟨_, rfl⟩
      obtain ⟨t2, ht2⟩ : ∃ z, ti (h - 0) = z := ⟨_, rfl⟩
      obtain ⟨t3, ht3⟩ : ∃ z, ti (w * h * mx) = z := ⟨_, rfl⟩
      rw [ht1, ht2, ht3]
      have HT1 := hid ht1
      have HT2 := hid ht2
      have HT3 := hid ht3
      clear ht1 ht2 ht3
      refine hK.out _ _ ?_ (fun hHeld2 => ?_)
      focus ((try dsimp only); (exact ⟨K3.out.cell 4 rfl 0 rfl, K3.out.cell 4 rfl 1 rfl, K3.out.cell 4 rfl 2 rfl, K3.out.cell 4 rfl 3 rfl⟩))
      clear hK K
      try simp only [Act.put, List.getElem_toArray, List.getElem_cons_zero, List.getElem_cons_succ, List.setIfInBounds_toArray, List.set_cons_zero, List.set_cons_succ]
      clear hHeld
      have hHeld := hHeld2
      clear hHeld2
      refine wpAnyH_take (i := 13) (oi := _) (v := ?_) rfl (by kernel_rfl) (by kernel_rfl) (by kernel_rfl) (fun _ _ _ h => h) (Or.inl ⟨by rfl, ?_⟩) (by assumption) ?_
      rotate_left
      focus (intro wS hSw; (try dsimp only at hSw); go_simp; (try with_reducible rfl))
      try simp only [Act.put, List.getElem_toArray, List.getElem_cons_zero, List.getElem_cons_succ, List.setIfInBounds_toArray, List.set_cons_zero, List.set_cons_succ]
      refine wpAnyH_take (i := 14) (oi := _) (v := ?_) rfl (by kernel_rfl) (by kernel_rfl) (by kernel_rfl) (fun _ _ _ h => h) (Or.inl ⟨by rfl, ?_⟩) (by assumption) ?_
      rotate_left
      focus (intro wS hSw; (try dsimp only at hSw); go_simp; (try with_reducible rfl))
      try simp only [Act.put, List.getElem_toArray, List.getElem_cons_zero, List.getElem_cons_succ, List.setIfInBounds_toArray, List.set_cons_zero, List.set_cons_succ]
      refine wpAnyH_ready (rs := [15]) (by kernel_rfl) (by simp) (AllReadyH.cons (o := _) rfl (fun K hK => ?_) AllReadyH.nil)
      have c0 := K3.out.cell 3 rfl 0 rfl
      have c1 := K3.out.cell 3 rfl 1 rfl
      have c2 := K3.out.cell 3 rfl 2 rfl
      have c3 := K3.out.cell 3 rfl 3 rfl
      have f0 := K3.out.free 3 rfl 0
      have f1 := K3.out.free 3 rfl 1
      have f2 := K3.out.free 3 rfl 2
      have f3 := K3.out.free 3 rfl 3
      have K4 := hid (K3.out.set4 3 rfl (.int .i64 t1) (.int .i64 t2) (.int .i64 t3) (.slice va tl.length vc))
      go_simp
      refine hK.out _ _ ?_ (fun hHeld2 => ?_)
      focus ((try dsimp only); (exact ⟨K4.out.cell 4 rfl 0 rfl, K4.out.cell 4 rfl 1 rfl, K4.out.cell 4 rfl 2 rfl, K4.out.cell 4 rfl 3 rfl⟩))
      clear hK K
      try simp only [Act.put, List.getElem_toArray, List.getElem_cons_zero, List.getElem_cons_succ, List.setIfInBounds_toArray, List.set_cons_zero, List.set_cons_succ]
      clear c0 c1 c2 c3 f0 f1 f2 f3
      clear hHeld
      have hHeld := hHeld2
      clear hHeld2
      refine wpAnyH_take (i := 16) (oi := _) (v := ?_) rfl (by kernel_rfl) (by kernel_rfl) (by kernel_rfl) (fun _ _ _ h => h) (Or.inl ⟨by rfl, ?_⟩) (by assumption) ?_
      rotate_left
      focus (intro wS hSw; (try dsimp only at hSw); go_simp; (try with_reducible rfl))
      try simp only [Act.put, List.getElem_toArray, List.getElem_cons_zero, List.getElem_cons_succ, List.setIfInBounds_toArray, List.set_cons_zero, List.set_cons_succ]
      refine wpAnyH_done (by kernel_rfl) ?_ _
      have q0 := K4.out.cell 3 rfl 0 rfl
      have q1 := K4.out.cell 3 rfl 1 rfl
      have q2 := K4.out.cell 3 rfl 2 rfl
      have q3 := K4.out.cell 3 rfl 3 rfl
      unfold set4 at q0 q1 q2 q3
      go_wp2_with fail
      have e1 : h.toNat = nh := by have := HNH.out; omega
      have e2 : w.toNat = nw := by have := HNW.out; omega
      rw [e1, e2]
      refine bodyPost_ret (v := .tuple #[.agg #[.int .i64 t1, .int .i64 t2, .int .i64 t3, .slice va tl.length vc], .int .i64 tc]) ?_ rfl ⟨_, by rw [HTI.out, HTC.out, HT1.out, HT2.out, HT3.out], by rw [HTL.out, hB]; exact K4.out.own 0 rfl, by first | exact K4.out.below | exact K4.out.below'⟩
      simp [results, Try.results37, go_sem, q0, q1, q2, q3]
    · obtain ⟨DT, hD1⟩ : ∃ L, k0.heap.size = L := ⟨_, rfl⟩
      have hBD1 : B ≤ DT := by have := H2.out.size; omega
      rw [if_pos (by rfl)]
      refine oper_make_int _ _ rfl DT _ _ nw rfl rfl HNW.out HNW.out (by omega) (by omega) ?_
      intro k1 ho hb
      rw [hD1] at ho ⊢
      have K1 := hid (H2.out.made hD1 ho hb)
      clear ho hb hD1 hBD1
      refine hK.out _ _ ?_ (fun hHeld2 => ?_)
      focus ((try dsimp only); (exact ⟨K1.out.cell 2 rfl 0 rfl, K1.out.cell 2 rfl 1 rfl, K1.out.cell 2 rfl 2 rfl, K1.out.cell 2 rfl 3 rfl⟩))
      clear hK K
      try simp only [Act.put, List.getElem_toArray, List.getElem_cons_zero, List.getElem_cons_succ, List.setIfInBounds_toArray, List.set_cons_zero, List.set_cons_succ]
      clear hHeld
      have hHeld := hHeld2
      clear hHeld2
      refine wpAnyH_ready (rs := [8]) (by kernel_rfl) (by simp) (AllReadyH.cons (o := _) rfl (fun K hK => ?_) AllReadyH.nil)
      obtain ⟨DL, hD2⟩ : ∃ L, k1.heap.size = L := ⟨_, rfl⟩
      have hBD2 : B ≤ DL := by have := K1.out.size; omega
      rw [if_pos (by rfl)]
      refine oper_make_int _ _ rfl DL _ _ nh rfl rfl HNH.out HNH.out (by omega) (by omega) ?_
      intro k2 ho hb
      rw [hD2] at ho ⊢
      have K2 := hid (K1.out.made hD2 ho hb)
      clear ho hb hD2 hBD2
      refine hK.out _ _ ?_ (fun hHeld2 => ?_)
      focus ((try dsimp only); (exact ⟨K2.out.cell 3 rfl 0 rfl, K2.out.cell 3 rfl 1 rfl, K2.out.cell 3 rfl 2 rfl, K2.out.cell 3 rfl 3 rfl⟩))
      clear hK K
      try simp only [Act.put, List.getElem_toArray, List.getElem_cons_zero, List.getElem_cons_succ, List.setIfInBounds_toArray, List.set_cons_zero, List.set_cons_succ]
      clear hHeld
      have hHeld := hHeld2
      clear hHeld2
      refine wpAnyH_ready (rs := [12]) (by kernel_rfl) (by simp) (AllReadyH.cons (o := _) rfl (fun K hK => ?_) AllReadyH.nil)
      go_simp
      go_at_call 44; with_reducible refine (itile_any w h mx a n c zs 0 0 w h _ nh nh (List.replicate nh 0) _ nw nw (List.replicate nw 0) 0 _ (K2.out.old HS.out) (K2.out.slc 0 rfl) (K2.out.slc 1 rfl)).mono ?_
      rintro e k3 ⟨v, rfl, ho, hb⟩
      have K3 := hid (K2.out.grow hb ho)
      obtain ⟨va, vc, rfl, _⟩ := ho.slc
      clear ho hb
      obtain ⟨ti, hti⟩ : ∃ f, tIf w h mx zs 0 0 w h (List.replicate nh 0) (List.replicate nw 0) 0 = f := ⟨_, rfl⟩
      obtain ⟨tc, htc⟩ : ∃ f, tCode w h mx zs 0 0 w h (List.replicate nh 0) (List.replicate nw 0) 0 = f := ⟨_, rfl⟩
      obtain ⟨tl, htl⟩ : ∃ f, tList w h mx zs 0 0 w h (List.replicate nh 0) (List.replicate nw 0) 0 = f := ⟨_, rfl⟩
      have HTI := hid hti
      have HTC := hid htc
      have HTL := hid htl
      rw [hti, htc, htl]
      rw [htl] at K3
      clear hti htc htl
      obtain ⟨t1, ht1⟩ : ∃ z, ti (w - 0) = z := ⟨_, rfl⟩
      obtain ⟨t2, ht2⟩ : ∃ z, ti (h - 0) = z := ⟨_, rfl⟩
      obtain ⟨t3, ht3⟩ : ∃ z, ti (w * h * mx) = z := ⟨_, rfl⟩
      rw [ht1, ht2, ht3]
      have HT1 := hid ht1
      have HT2 := hid ht2
      have HT3 := hid ht3
      clear ht1 ht2 ht3
      refine hK.out _ _ ?_ (fun hHeld2 => ?_)
      focus ((try dsimp only); (exact ⟨K3.out.cell 4 rfl 0 rfl, K3.out.cell 4 rfl 1 rfl, K3.out.cell 4 rfl 2 rfl, K3.out.cell 4 rfl 3 rfl⟩))
      clear hK K
      try simp only [Act.put, List.getElem_toArray, List.getElem_cons_zero, List.getElem_cons_succ, List.setIfInBounds_toArray, List.set_cons_zero, List.set_cons_succ]
      clear hHeld
      have hHeld := hHeld2
      clear hHeld2
      refine wpAnyH_take (i := 13) (oi := _) (v := ?_) rfl (by kernel_rfl) (by kernel_rfl) (by kernel_rfl) (fun _ _ _ h => h) (Or.inl ⟨by rfl, ?_⟩) (by assumption) ?_
      rotate_left
      focus (intro wS hSw; (try dsimp only at hSw); go_simp; (try with_reducible rfl))
      try simp only [Act.put, List.getElem_toArray, List.getElem_cons_zero, List.getElem_cons_succ, List.setIfInBounds_toArray, List.set_cons_zero, List.set_cons_succ]
      refine wpAnyH_take (i := 14) (oi := _) (v := ?_) rfl (by kernel_rfl) (by kernel_rfl) (by kernel_rfl) (fun _ _ _ h => h) (Or.inl ⟨by rfl, ?_⟩) (by assumption) ?_
      rotate_left
      focus (intro wS hSw; (try dsimp only at hSw); go_simp; (try with_reducible rfl))
      try simp only [Act.put, List.getElem_toArray, List.getElem_cons_zero, List.getElem_cons_succ, List.setIfInBounds_toArray, List.set_cons_zero, List.set_cons_succ]
      refine wpAnyH_ready (rs := [15]) (by kernel_rfl) (by simp) (AllReadyH.cons (o := _) rfl (fun K hK => ?_) AllReadyH.nil)
      have c0 := K3.out.cell 3 rfl 0 rfl
      have c1 := K3.out.cell 3 rfl 1 rfl
      have c2 := K3.out.cell 3 rfl 2 rfl
      have c3 := K3.out.cell 3 rfl 3 rfl
      have f0 := K3.out.free 3 rfl 0
      have f1 := K3.out.free 3 rfl 1
      have f2 := K3.out.free 3 rfl 2
      have f3 := K3.out.free 3 rfl 3
      have K4 := hid (K3.out.set4 3 rfl (.int .i64 t1) (.int .i64 t2) (.int .i64 t3) (.slice va tl.length vc))
      go_simp
      refine hK.out _ _ ?_ (fun hHeld2 => ?_)
      focus ((try dsimp only); (exact ⟨K4.out.cell 4 rfl 0 rfl, K4.out.cell 4 rfl 1 rfl, K4.out.cell 4 rfl 2 rfl, K4.out.cell 4 rfl 3 rfl⟩))
      clear hK K
      try simp only [Act.put, List.getElem_toArray, List.getElem_cons_zero, List.getElem_cons_succ, List.setIfInBounds_toArray, List.set_cons_zero, List.set_cons_succ]
      clear c0 c1 c2 c3 f0 f1 f2 f3
      clear hHeld
      have hHeld := hHeld2
      clear hHeld2
      refine wpAnyH_take (i := 16) (oi := _) (v := ?_) rfl (by kernel_rfl) (by kernel_rfl) (by kernel_rfl) (fun _ _ _ h => h) (Or.inl ⟨by rfl, ?_⟩) (by assumption) ?_
      rotate_left
      focus (intro wS hSw; (try dsimp only at hSw); go_simp; (try with_reducible rfl))
      try simp only [Act.put, List.getElem_toArray, List.getElem_cons_zero, List.getElem_cons_succ, List.setIfInBounds_toArray, List.set_cons_zero, List.set_cons_succ]
      refine wpAnyH_done (by kernel_rfl) ?_ _
      have q0 := K4.out.cell 3 rfl 0 rfl
      have q1 := K4.out.cell 3 rfl 1 rfl
      have q2 := K4.out.cell 3 rfl 2 rfl
      have q3 := K4.out.cell 3 rfl 3 rfl
      unfold set4 at q0 q1 q2 q3
      go_wp2_with fail
      have e1 : h.toNat = nh := by have := HNH.out; omega
      have e2 : w.toNat = nw := by have := HNW.out; omega
      rw [e1, e2]
      refine bodyPost_ret (v := .tuple #[.agg #[.int .i64 t1, .int .i64 t2, .int .i64 t3, .slice va tl.length vc], .int .i64 tc]) ?_ rfl ⟨_, by rw [HTI.out, HTC.out, HT1.out, HT2.out, HT3.out], by rw [HTL.out, hB]; exact K4.out.own 0 rfl, by first | exact K4.out.below | exact K4.out.below'⟩
      simp [results, Try.results37, go_sem, q0, q1, q2, q3]
  · have HC := hid (tCode_of_k (r0 := 0) (r1 := 0) (r2 := w) (r3 := h) (left := List.replicate h.toNat 0) (top := List.replicate w.toNat 0) (corner := 0) hk)
    have HK := hid hk
    obtain ⟨kc, hkc⟩ : ∃ k, kCode w h mx zs = k := ⟨_, rfl⟩
    rw [hkc] at HC HK ⊢
    have hk1 : (kc == 0) = false := by rw [← hkc]; simpa using hk
    have hk2 : (kc != 0) = true := by rw [← hkc]; simpa using hk
    clear hk hkc
    go_wp2_with fail
    have HZ := hid (H1.out.set4 0 rfl (.int .i64 0) (.int .i64 0) (.int .i64 0) (.slice none 0 0))
    have k0 := HZ.out.cell 0 rfl 0 rfl
    have k1 := HZ.out.cell 0 rfl 1 rfl
    have k2 := HZ.out.cell 0 rfl 2 rfl
    have k3 := HZ.out.cell 0 rfl 3 rfl
    refine bodyPost_ret (v := .tuple #[.agg #[.int .i64 0, .int .i64 0, .int .i64 0, .slice none 0 0], .int .i64 kc]) ?_ rfl (tile_no HC.out HK.out (by first | exact HZ.out.below | exact HZ.out.below'))
    unfold set4 at k0 k1 k2 k3
    simp [results, Try.results37, go_sem, k0, k1, k2, k3]
end

section
open Go.RowKit
set_option linter.unusedVariables false
set_option linter.unusedSimpArgs false

theorem fullInside {r0 r1 r2 r3 b0 b1 b2 b3 : Int} : (rFull r0 r1 r2 r3 && rInside r0 r1 r2 r3 b0 b1 b2 b3) = (!rEmpty r0 r1 r2 r3 && rInside r0 r1 r2 r3 b0 b1 b2 b3) := by
  unfold rFull rInside
  cases rValid r0 r1 r2 r3 <;> simp
def sCode (w h mx : Int) (zs : List Int) (r0 r1 r2 r3 : Int) : Int := if pValid w h mx zs = false then 1 else if (!rEmpty r0 r1 r2 r3 && rInside r0 r1 r2 r3 0 0 w h) = false then 8 else 0
def sRaw (w : Int) (zs : List Int) (r0 r1 r2 r3 : Int) : Int := qAt w zs (r2 - 1) (r3 - 1) - qAt w zs (r0 - 1) (r3 - 1) - qAt w zs (r2 - 1) (r1 - 1) + qAt w zs (r0 - 1) (r1 - 1)
def sVal (w h mx : Int) (zs : List Int) (r0 r1 r2 r3 : Int) : Int := if sCode w h mx zs r0 r1 r2 r3 = 0 then sRaw w zs r0 r1 r2 r3 else 0
def SumPost (w h mx : Int) (zs : List Int) (r0 r1 r2 r3 : Int) (W : World) (e : Ending) (w' : World) : Prop :=
  e = .returned (.tuple #[.int .i64 (sVal w h mx zs r0 r1 r2 r3), .int .i64 (sCode w h mx zs r0 r1 r2 r3)]) ∧ Below W.heap.size W w'
theorem sum_no {w h mx : Int} {zs : List Int} {r0 r1 r2 r3 : Int} {W w' : World} {k : Int} (hk : sCode w h mx zs r0 r1 r2 r3 = k) (h0 : k ≠ 0) (hb : Below W.heap.size W w') :
    SumPost w h mx zs r0 r1 r2 r3 W (.returned (.tuple #[.int .i64 0, .int .i64 k])) w' :=
  ⟨ret_ii (by unfold sVal; rw [hk, if_neg h0]) hk.symm, hb⟩
theorem sum_yes {w h mx : Int} {zs : List Int} {r0 r1 r2 r3 : Int} {W w' : World} (hk : sCode w h mx zs r0 r1 r2 r3 = 0) {z : Int} (hz : z = sRaw w zs r0 r1 r2 r3) (hb : Below W.heap.size W w') :
    SumPost w h mx zs r0 r1 r2 r3 W (.returned (.tuple #[.int .i64 z, .int .i64 0])) w' :=
  ⟨ret_ii (by unfold sVal; rw [hk, if_pos rfl, hz]) hk.symm, hb⟩
theorem pr_mk {B : Nat} {W : World} {w h mx : Int} {a : Option Addr} {n c : Nat} {r0 r1 r2 r3 : Int} {wB : World} (hSt : St B W [.cells (B + 1) #[.int .i64 r0, .int .i64 r1, .int .i64 r2, .int .i64 r3] 39, .cells B #[.int .i64 w, .int .i64 h, .int .i64 mx, .slice a n c] 26] [] wB) : St B W [.cells (B + 1) #[.int .i64 r0, .int .i64 r1, .int .i64 r2, .int .i64 r3] 39, .cells B #[.int .i64 w, .int .i64 h, .int .i64 mx, .slice a n c] 26] [] wB ∧ wB.cell? ⟨B + 1, 0, none⟩ = some (.int .i64 r0) ∧ wB.cell? ⟨B + 1, 1, none⟩ = some (.int .i64 r1) ∧ wB.cell? ⟨B + 1, 2, none⟩ = some (.int .i64 r2) ∧ wB.cell? ⟨B + 1, 3, none⟩ = some (.int .i64 r3) ∧ wB.cell? ⟨B, 0, none⟩ = some (.int .i64 w) ∧ wB.cell? ⟨B, 1, none⟩ = some (.int .i64 h) ∧ wB.cell? ⟨B, 2, none⟩ = some (.int .i64 mx) ∧ wB.cell? ⟨B, 3, none⟩ = some (.slice a n c) := ⟨hSt, (hSt).cell 0 rfl 0 rfl, (hSt).cell 0 rfl 1 rfl, (hSt).cell 0 rfl 2 rfl, (hSt).cell 0 rfl 3 rfl, (hSt).cell 1 rfl 0 rfl, (hSt).cell 1 rfl 1 rfl, (hSt).cell 1 rfl 2 rfl, (hSt).cell 1 rfl 3 rfl⟩
theorem pr_keep {B : Nat} {W : World} {w h mx : Int} {a : Option Addr} {n c : Nat} {r0 r1 r2 r3 : Int} {wA wB : World} (hb : Below wA.heap.size wA wB) (p : St B W [.cells (B + 1) #[.int .i64 r0, .int .i64 r1, .int .i64 r2, .int .i64 r3] 39, .cells B #[.int .i64 w, .int .i64 h, .int .i64 mx, .slice a n c] 26] [] wA ∧ wA.cell? ⟨B + 1, 0, none⟩ = some (.int .i64 r0) ∧ wA.cell? ⟨B + 1, 1, none⟩ = some (.int .i64 r1) ∧ wA.cell? ⟨B + 1, 2, none⟩ = some (.int .i64 r2) ∧ wA.cell? ⟨B + 1, 3, none⟩ = some (.int .i64 r3) ∧ wA.cell? ⟨B, 0, none⟩ = some (.int .i64 w) ∧ wA.cell? ⟨B, 1, none⟩ = some (.int .i64 h) ∧ wA.cell? ⟨B, 2, none⟩ = some (.int .i64 mx) ∧ wA.cell? ⟨B, 3, none⟩ = some (.slice a n c)) : St B W [.cells (B + 1) #[.int .i64 r0, .int .i64 r1, .int .i64 r2, .int .i64 r3] 39, .cells B #[.int .i64 w, .int .i64 h, .int .i64 mx, .slice a n c] 26] [] wB ∧ wB.cell? ⟨B + 1, 0, none⟩ = some (.int .i64 r0) ∧ wB.cell? ⟨B + 1, 1, none⟩ = some (.int .i64 r1) ∧ wB.cell? ⟨B + 1, 2, none⟩ = some (.int .i64 r2) ∧ wB.cell? ⟨B + 1, 3, none⟩ = some (.int .i64 r3) ∧ wB.cell? ⟨B, 0, none⟩ = some (.int .i64 w) ∧ wB.cell? ⟨B, 1, none⟩ = some (.int .i64 h) ∧ wB.cell? ⟨B, 2, none⟩ = some (.int .i64 mx) ∧ wB.cell? ⟨B, 3, none⟩ = some (.slice a n c) := pr_mk (p.1.call hb)

set_option maxRecDepth 100000 in
set_option maxHeartbeats 3200000 in
theorem isum_any (w h mx : Int) (a : Option Addr) (n c : Nat) (zs : List Int) (r0 r1 r2 r3 : Int) (W : World) (hs : Slc W a n c zs) :
    Calls Try.prog 38 #[.agg #[.int .i64 w, .int .i64 h, .int .i64 mx, .slice a n c], .agg #[.int .i64 r0, .int .i64 r1, .int .i64 r2, .int .i64 r3]] W (SumPost w h mx zs r0 r1 r2 r3 W) := by
  obtain ⟨B, hB⟩ : ∃ B, W.heap.size = B := ⟨_, rfl⟩
  have H0 := hid (((St.init hB).alloc #[.int .i64 w, .int .i64 h, .int .i64 mx, .slice a n c] 26 hB).alloc #[.int .i64 r0, .int .i64 r1, .int .i64 r2, .int .i64 r3] 39 (alloc_size _ hB))
  have HS := hid hs
  clear hs
  go_enter Try.func38, Try.ntmps38
  go_wp2_with fail
  refine (pvalid_any _ _ _ _ _ _ _ _ (by have := HS.out.nc; have := HS.out.cap; omega) (H0.out.old HS.out).row).mono ?_
  rintro e w1 ⟨rfl, hb⟩
  have H1 := hid (H0.out.call hb)
  clear hb
  cases hv : pValid w h mx zs with
  | false =>
    have HV := hid hv
    clear hv
    go_wp2_with fail
    go_ret2
    exact sum_no (by unfold sCode; rw [if_pos HV.out]) (by omega) (by first | exact H1.out.below | exact H1.out.below')
  | true =>
    have HV := hid hv
    have HP := hid (pOk_iff.1 (pValid_iff.1 hv).1)
    have HNV := hid (show ¬ pValid w h mx zs = false by rw [hv]; simp)
    have hn : (n : Int) = w * h := by rw [← (pValid_iff.1 hv).2.1, HS.out.len]
    have HN := hid hn
    clear hv hn
    have x0_0 := H1.out.cell 0 rfl 0 rfl
    have x0_1 := H1.out.cell 0 rfl 1 rfl
    have x0_2 := H1.out.cell 0 rfl 2 rfl
    have x0_3 := H1.out.cell 0 rfl 3 rfl
    have x1_0 := H1.out.cell 1 rfl 0 rfl
    have x1_1 := H1.out.cell 1 rfl 1 rfl
    have x1_2 := H1.out.cell 1 rfl 2 rfl
    have x1_3 := H1.out.cell 1 rfl 3 rfl
    go_wp2_with fail
    refine (rempty_any _ _ _ _ _).mono ?_
    rintro e w2 ⟨rfl, hb⟩
    have H2 := hid (H1.out.call hb)
    clear hb x0_0 x0_1 x0_2 x0_3 x1_0 x1_1 x1_2 x1_3
    have x0_0 := H2.out.cell 0 rfl 0 rfl
    have x0_1 := H2.out.cell 0 rfl 1 rfl
    have x0_2 := H2.out.cell 0 rfl 2 rfl
    have x0_3 := H2.out.cell 0 rfl 3 rfl
    have x1_0 := H2.out.cell 1 rfl 0 rfl
    have x1_1 := H2.out.cell 1 rfl 1 rfl
    have x1_2 := H2.out.cell 1 rfl 2 rfl
    have x1_3 := H2.out.cell 1 rfl 3 rfl
    cases he : rEmpty r0 r1 r2 r3 with
    | true =>
      have HE := hid he
      clear he
      go_wp2_with fail
      go_ret2
      exact sum_no (by unfold sCode; rw [if_neg HNV.out, if_pos (by rw [HE.out]; rfl)]) (by omega) (by first | exact H2.out.below | exact H2.out.below')
    | false =>
    have HEE := hid he
    clear he
    go_wp2_with fail
    refine (rinside_any _ _ _ _ _ _ _ _ _).mono ?_
    rintro e w3 ⟨rfl, hb⟩
    have H3 := hid (H2.out.call hb)
    clear hb x0_0 x0_1 x0_2 x0_3 x1_0 x1_1 x1_2 x1_3
    have x0_0 := H3.out.cell 0 rfl 0 rfl
    have x0_1 := H3.out.cell 0 rfl 1 rfl
    have x0_2 := H3.out.cell 0 rfl 2 rfl
    have x0_3 := H3.out.cell 0 rfl 3 rfl
    have x1_0 := H3.out.cell 1 rfl 0 rfl
    have x1_1 := H3.out.cell 1 rfl 1 rfl
    have x1_2 := H3.out.cell 1 rfl 2 rfl
    have x1_3 := H3.out.cell 1 rfl 3 rfl
    cases hi : rInside r0 r1 r2 r3 0 0 w h with
    | false =>
      have HI := hid hi
      clear hi
      go_wp2_with fail
      go_ret2
      exact sum_no (by unfold sCode; rw [if_neg HNV.out, if_pos (by rw [HI.out, HEE.out]; rfl)]) (by omega) (by first | exact H3.out.below | exact H3.out.below')
    | true =>
    have HE : (!rEmpty r0 r1 r2 r3 && rInside r0 r1 r2 r3 0 0 w h) = true := by rw [hi, HEE.out]; rfl
    clear hi
    have hin := (inside_iff (by have := HP.out; omega) (by have := HP.out; omega) (by have := HP.out; omega) (by have := HP.out; omega)).1 HE
    have HC := hid (show sCode w h mx zs r0 r1 r2 r3 = 0 by unfold sCode; rw [if_neg HNV.out, if_neg (by rw [HE]; simp)])
    clear HE
    obtain ⟨i1, i2, i3, i4, i5, i6⟩ := hin
    obtain ⟨p1, p2, p3, p4, p5, p6, p7⟩ := HP.out
    have HR : Hid (qAt w zs (r2 - 1) (r3 - 1) - qAt w zs (r0 - 1) (r3 - 1) - qAt w zs (r2 - 1) (r1 - 1) + qAt w zs (r0 - 1) (r1 - 1) = sRaw w zs r0 r1 r2 r3) := rfl
    have b1 := qAt_bd HV.out (r2 - 1) (r3 - 1)
    have b2 := qAt_bd HV.out (r0 - 1) (r3 - 1)
    have b3 := qAt_bd HV.out (r2 - 1) (r1 - 1)
    have b4 := qAt_bd HV.out (r0 - 1) (r1 - 1)
    obtain ⟨z1, hz1⟩ : ∃ z, qAt w zs (r2 - 1) (r3 - 1) = z := ⟨_, rfl⟩
    obtain ⟨z2, hz2⟩ : ∃ z, qAt w zs (r0 - 1) (r3 - 1) = z := ⟨_, rfl⟩
    obtain ⟨z3, hz3⟩ : ∃ z, qAt w zs (r2 - 1) (r1 - 1) = z := ⟨_, rfl⟩
    obtain ⟨z4, hz4⟩ : ∃ z, qAt w zs (r0 - 1) (r1 - 1) = z := ⟨_, rfl⟩
    rw [hz1] at b1
    rw [hz2] at b2
    rw [hz3] at b3
    rw [hz4] at b4
    rw [hz1, hz2, hz3, hz4] at HR
    obtain ⟨b1a, b1b⟩ := b1
    obtain ⟨b2a, b2b⟩ := b2
    obtain ⟨b3a, b3b⟩ := b3
    obtain ⟨b4a, b4b⟩ := b4
    have g1 : IntKind.i64.wrap (r2 - 1) = r2 - 1 := IntWalk.i64_in _ (by omega)
    have g2 : IntKind.i64.wrap (r3 - 1) = r3 - 1 := IntWalk.i64_in _ (by omega)
    have g3 : IntKind.i64.wrap (r0 - 1) = r0 - 1 := IntWalk.i64_in _ (by omega)
    have g4 : IntKind.i64.wrap (r1 - 1) = r1 - 1 := IntWalk.i64_in _ (by omega)
    have g5 : IntKind.i64.wrap (z1 - z2) = z1 - z2 := IntWalk.i64_in _ (by omega)
    have g6 : IntKind.i64.wrap (z1 - z2 - z3) = z1 - z2 - z3 := IntWalk.i64_in _ (by omega)
    have g7 : IntKind.i64.wrap (z1 - z2 - z3 + z4) = z1 - z2 - z3 + z4 := IntWalk.i64_in _ (by omega)
    have HSL := hid (H3.out.old HS.out)
    go_wp2_with fail
    go_quiet ((go_at_call 72; exact Calls.quiet_of_same (sumAt_any w h _ _ B a n c zs _ (by first | exact HSL.out | exact HSL.out.drewN _) HN.out p1 p2 p4 p5 (by omega) (by omega) (by omega) (by omega) (by first | assumption | simpa using x1_0) (by first | assumption | simpa using x1_3))))
    go_wp2_with fail
    go_ret2
    exact sum_yes HC.out HR.out (by first | exact (H3.out.drewN _).below | exact (H3.out.drewN _).below')

set_option maxRecDepth 100000 in
set_option maxHeartbeats 3200000 in
theorem qsum_any (w h mx : Int) (a : Option Addr) (n c : Nat) (zs : List Int) (r0 r1 r2 r3 : Int) (W : World) (hs : Slc W a n c zs) :
    Calls Try.prog 43 #[.agg #[.int .i64 w, .int .i64 h, .int .i64 mx, .slice a n c], .agg #[.int .i64 r0, .int .i64 r1, .int .i64 r2, .int .i64 r3]] W (SumPost w h mx zs r0 r1 r2 r3 W) := by
  obtain ⟨B, hB⟩ : ∃ B, W.heap.size = B := ⟨_, rfl⟩
  have H0 := hid (((St.init hB).alloc #[.int .i64 w, .int .i64 h, .int .i64 mx, .slice a n c] 26 hB).alloc #[.int .i64 r0, .int .i64 r1, .int .i64 r2, .int .i64 r3] 39 (alloc_size _ hB))
  have HS := hid hs
  clear hs
  go_enter Try.func43, Try.ntmps43
  go_wp2_with fail
  refine (qpvalid_any _ _ _ _ _ _ _ _ (by have := HS.out.nc; have := HS.out.cap; omega) (H0.out.old HS.out).row).mono ?_
  rintro e w1 ⟨rfl, hb⟩
  have H1 := hid (H0.out.call hb)
  clear hb
  cases hv : pValid w h mx zs with
  | false =>
    have HV := hid hv
    clear hv
    go_wp2_with fail
    go_ret2
    exact sum_no (by unfold sCode; rw [if_pos HV.out]) (by omega) (by first | exact H1.out.below | exact H1.out.below')
  | true =>
    have HV := hid hv
    have HP := hid (pOk_iff.1 (pValid_iff.1 hv).1)
    have HNV := hid (show ¬ pValid w h mx zs = false by rw [hv]; simp)
    have hn : (n : Int) = w * h := by rw [← (pValid_iff.1 hv).2.1, HS.out.len]
    have HN := hid hn
    clear hv hn
    go_wp2_with fail
    cases hfu : rFull r0 r1 r2 r3 with
    | false =>
      have HFU := hid hfu
      have HE : Hid ((!rEmpty r0 r1 r2 r3 && rInside r0 r1 r2 r3 0 0 w h) = false) := hid (by rw [← fullInside, hfu]; rfl)
      clear hfu
      have HD := hid (pr_mk (H1.out.drew))
      refine wp_region_held_drew (S := (fun w' => St B W [.cells (B + 1) #[.int .i64 r0, .int .i64 r1, .int .i64 r2, .int .i64 r3] 39, .cells B #[.int .i64 w, .int .i64 h, .int .i64 mx, .slice a n c] 26] [] w' ∧ w'.cell? ⟨B + 1, 0, none⟩ = some (.int .i64 r0) ∧ w'.cell? ⟨B + 1, 1, none⟩ = some (.int .i64 r1) ∧ w'.cell? ⟨B + 1, 2, none⟩ = some (.int .i64 r2) ∧ w'.cell? ⟨B + 1, 3, none⟩ = some (.int .i64 r3) ∧ w'.cell? ⟨B, 0, none⟩ = some (.int .i64 w) ∧ w'.cell? ⟨B, 1, none⟩ = some (.int .i64 h) ∧ w'.cell? ⟨B, 2, none⟩ = some (.int .i64 mx) ∧ w'.cell? ⟨B, 3, none⟩ = some (.slice a n c))) (by kernel_rfl) HD.out (fun hHeld => ?_)
      generalize w1.drew = k0 at *
      clear HD
      refine wpAnyH_take (i := 0) (oi := _) (v := ?_) rfl (by kernel_rfl) (by kernel_rfl) (by kernel_rfl) (fun _ _ _ h => h) (Or.inl ⟨by rfl, ?_⟩) (by assumption) ?_
      rotate_left
      focus (intro wS hSw; (try dsimp only at hSw); go_simp; (try with_reducible rfl))
      try simp only [Act.put, List.getElem_toArray, List.getElem_cons_zero, List.getElem_cons_succ, List.setIfInBounds_toArray, List.set_cons_zero, List.set_cons_succ]
      refine wpAnyH_ready (rs := [1]) (by kernel_rfl) (by simp) (AllReadyH.cons (o := _) rfl (fun K hK => ?_) AllReadyH.nil)
      go_simp
      go_at_call 68; refine (qfull_any _ _ _ _ _).mono ?_; rw [HFU.out]; rintro e k1 ⟨rfl, hbs⟩
      refine hK.out _ _ ?_ (fun hHeld2 => ?_)
      focus ((try dsimp only); (exact pr_keep hbs hHeld))
      clear hK K
      try simp only [Act.put, List.getElem_toArray, List.getElem_cons_zero, List.getElem_cons_succ, List.setIfInBounds_toArray, List.set_cons_zero, List.set_cons_succ]
      clear hbs
      clear hHeld
      have hHeld := hHeld2
      clear hHeld2
      refine wpAnyH_take (i := 2) (oi := _) (v := ?_) rfl (by kernel_rfl) (by kernel_rfl) (by kernel_rfl) (fun _ _ _ h => h) (Or.inl ⟨by rfl, ?_⟩) (by assumption) ?_
      rotate_left
      focus (intro wS hSw; (try dsimp only at hSw); go_simp; (try with_reducible rfl))
      try simp only [Act.put, List.getElem_toArray, List.getElem_cons_zero, List.getElem_cons_succ, List.setIfInBounds_toArray, List.set_cons_zero, List.set_cons_succ]
      refine wpAnyH_take (i := 3) (oi := _) (v := ?_) rfl (by kernel_rfl) (by kernel_rfl) (by kernel_rfl) (fun _ _ _ h => h) (Or.inl ⟨by rfl, ?_⟩) (by assumption) ?_
      rotate_left
      focus (intro wS hSw; (try dsimp only at hSw); go_simp; (try with_reducible rfl))
      try simp only [Act.put, List.getElem_toArray, List.getElem_cons_zero, List.getElem_cons_succ, List.setIfInBounds_toArray, List.set_cons_zero, List.set_cons_succ]
      refine wpAnyH_take (i := 4) (oi := _) (v := _) rfl (by kernel_rfl) (by kernel_rfl) (by kernel_rfl) (fun _ _ _ h => h) (Or.inr ⟨by rfl, rfl⟩) (by assumption) ?_
      try simp only [Act.put, List.getElem_toArray, List.getElem_cons_zero, List.getElem_cons_succ, List.setIfInBounds_toArray, List.set_cons_zero, List.set_cons_succ]
      refine wpAnyH_take (i := 5) (oi := _) (v := _) rfl (by kernel_rfl) (by kernel_rfl) (by kernel_rfl) (fun _ _ _ h => h) (Or.inr ⟨by rfl, rfl⟩) (by assumption) ?_
      try simp only [Act.put, List.getElem_toArray, List.getElem_cons_zero, List.getElem_cons_succ, List.setIfInBounds_toArray, List.set_cons_zero, List.set_cons_succ]
      refine wpAnyH_take (i := 6) (oi := _) (v := _) rfl (by kernel_rfl) (by kernel_rfl) (by kernel_rfl) (fun _ _ _ h => h) (Or.inr ⟨by rfl, rfl⟩) (by assumption) ?_
      try simp only [Act.put, List.getElem_toArray, List.getElem_cons_zero, List.getElem_cons_succ, List.setIfInBounds_toArray, List.set_cons_zero, List.set_cons_succ]
      refine wpAnyH_take (i := 7) (oi := _) (v := _) rfl (by kernel_rfl) (by kernel_rfl) (by kernel_rfl) (fun _ _ _ h => h) (Or.inr ⟨by rfl, rfl⟩) (by assumption) ?_
      try simp only [Act.put, List.getElem_toArray, List.getElem_cons_zero, List.getElem_cons_succ, List.setIfInBounds_toArray, List.set_cons_zero, List.set_cons_succ]
      refine wpAnyH_take (i := 8) (oi := _) (v := _) rfl (by kernel_rfl) (by kernel_rfl) (by kernel_rfl) (fun _ _ _ h => h) (Or.inr ⟨by rfl, rfl⟩) (by assumption) ?_
      try simp only [Act.put, List.getElem_toArray, List.getElem_cons_zero, List.getElem_cons_succ, List.setIfInBounds_toArray, List.set_cons_zero, List.set_cons_succ]
      refine wpAnyH_take (i := 9) (oi := _) (v := ?_) rfl (by kernel_rfl) (by kernel_rfl) (by kernel_rfl) (fun _ _ _ h => h) (Or.inl ⟨by rfl, ?_⟩) (by assumption) ?_
      rotate_left
      focus (intro wS hSw; (try dsimp only at hSw); go_simp; (try with_reducible rfl))
      try simp only [Act.put, List.getElem_toArray, List.getElem_cons_zero, List.getElem_cons_succ, List.setIfInBounds_toArray, List.set_cons_zero, List.set_cons_succ]
      refine wpAnyH_done (by kernel_rfl) ?_ _
      have H3 := hid hHeld.1
      clear hHeld
      go_wp2_with fail
      go_ret2
      exact sum_no (by unfold sCode; rw [if_neg HNV.out, if_pos HE.out]) (by omega) (by first | exact H3.out.below | exact H3.out.below')
    | true =>
    have HFU := hid hfu
    cases hi : rInside r0 r1 r2 r3 0 0 w h with
    | false =>
      have HI := hid hi
      have HE : Hid ((!rEmpty r0 r1 r2 r3 && rInside r0 r1 r2 r3 0 0 w h) = false) := hid (by rw [hi]; simp)
      clear hfu hi
      have HD := hid (pr_mk (H1.out.drew))
      refine wp_region_held_drew (S := (fun w' => St B W [.cells (B + 1) #[.int .i64 r0, .int .i64 r1, .int .i64 r2, .int .i64 r3] 39, .cells B #[.int .i64 w, .int .i64 h, .int .i64 mx, .slice a n c] 26] [] w' ∧ w'.cell? ⟨B + 1, 0, none⟩ = some (.int .i64 r0) ∧ w'.cell? ⟨B + 1, 1, none⟩ = some (.int .i64 r1) ∧ w'.cell? ⟨B + 1, 2, none⟩ = some (.int .i64 r2) ∧ w'.cell? ⟨B + 1, 3, none⟩ = some (.int .i64 r3) ∧ w'.cell? ⟨B, 0, none⟩ = some (.int .i64 w) ∧ w'.cell? ⟨B, 1, none⟩ = some (.int .i64 h) ∧ w'.cell? ⟨B, 2, none⟩ = some (.int .i64 mx) ∧ w'.cell? ⟨B, 3, none⟩ = some (.slice a n c))) (by kernel_rfl) HD.out (fun hHeld => ?_)
      generalize w1.drew = k0 at *
      clear HD
      refine wpAnyH_take (i := 0) (oi := _) (v := ?_) rfl (by kernel_rfl) (by kernel_rfl) (by kernel_rfl) (fun _ _ _ h => h) (Or.inl ⟨by rfl, ?_⟩) (by assumption) ?_
      rotate_left
      focus (intro wS hSw; (try dsimp only at hSw); go_simp; (try with_reducible rfl))
      try simp only [Act.put, List.getElem_toArray, List.getElem_cons_zero, List.getElem_cons_succ, List.setIfInBounds_toArray, List.set_cons_zero, List.set_cons_succ]
      refine wpAnyH_ready (rs := [1]) (by kernel_rfl) (by simp) (AllReadyH.cons (o := _) rfl (fun K hK => ?_) AllReadyH.nil)
      go_simp
      go_at_call 68; refine (qfull_any _ _ _ _ _).mono ?_; rw [HFU.out]; rintro e k1 ⟨rfl, hbs⟩
      refine hK.out _ _ ?_ (fun hHeld2 => ?_)
      focus ((try dsimp only); (exact pr_keep hbs hHeld))
      clear hK K
      try simp only [Act.put, List.getElem_toArray, List.getElem_cons_zero, List.getElem_cons_succ, List.setIfInBounds_toArray, List.set_cons_zero, List.set_cons_succ]
      clear hbs
      clear hHeld
      have hHeld := hHeld2
      clear hHeld2
      refine wpAnyH_take (i := 2) (oi := _) (v := ?_) rfl (by kernel_rfl) (by kernel_rfl) (by kernel_rfl) (fun _ _ _ h => h) (Or.inl ⟨by rfl, ?_⟩) (by assumption) ?_
      rotate_left
      focus (intro wS hSw; (try dsimp only at hSw); go_simp; (try with_reducible rfl))
      try simp only [Act.put, List.getElem_toArray, List.getElem_cons_zero, List.getElem_cons_succ, List.setIfInBounds_toArray, List.set_cons_zero, List.set_cons_succ]
      refine wpAnyH_take (i := 3) (oi := _) (v := ?_) rfl (by kernel_rfl) (by kernel_rfl) (by kernel_rfl) (fun _ _ _ h => h) (Or.inl ⟨by rfl, ?_⟩) (by assumption) ?_
      rotate_left
      focus (intro wS hSw; (try dsimp only at hSw); go_simp; (try with_reducible rfl))
      try simp only [Act.put, List.getElem_toArray, List.getElem_cons_zero, List.getElem_cons_succ, List.setIfInBounds_toArray, List.set_cons_zero, List.set_cons_succ]
      refine wpAnyH_take (i := 4) (oi := _) (v := ?_) rfl (by kernel_rfl) (by kernel_rfl) (by kernel_rfl) (fun _ _ _ h => h) (Or.inl ⟨by rfl, ?_⟩) (by assumption) ?_
      rotate_left
      focus (intro wS hSw; (try dsimp only at hSw); go_simp; (try with_reducible rfl))
      try simp only [Act.put, List.getElem_toArray, List.getElem_cons_zero, List.getElem_cons_succ, List.setIfInBounds_toArray, List.set_cons_zero, List.set_cons_succ]
      refine wpAnyH_take (i := 5) (oi := _) (v := ?_) rfl (by kernel_rfl) (by kernel_rfl) (by kernel_rfl) (fun _ _ _ h => h) (Or.inl ⟨by rfl, ?_⟩) (by assumption) ?_
      rotate_left
      focus (intro wS hSw; (try dsimp only at hSw); go_simp; (try with_reducible rfl))
      try simp only [Act.put, List.getElem_toArray, List.getElem_cons_zero, List.getElem_cons_succ, List.setIfInBounds_toArray, List.set_cons_zero, List.set_cons_succ]
      refine wpAnyH_ready (rs := [6]) (by kernel_rfl) (by simp) (AllReadyH.cons (o := _) rfl (fun K hK => ?_) AllReadyH.nil)
      go_simp
      go_at_call 70; refine (qcover_any _ _ _ _ _ _ _).mono ?_; rintro e k2 ⟨rfl, hbs⟩
      refine hK.out _ _ ?_ (fun hHeld2 => ?_)
      focus ((try dsimp only); (exact pr_keep hbs hHeld))
      clear hK K
      try simp only [Act.put, List.getElem_toArray, List.getElem_cons_zero, List.getElem_cons_succ, List.setIfInBounds_toArray, List.set_cons_zero, List.set_cons_succ]
      clear hbs
      clear hHeld
      have hHeld := hHeld2
      clear hHeld2
      refine wpAnyH_ready (rs := [7]) (by kernel_rfl) (by simp) (AllReadyH.cons (o := _) rfl (fun K hK => ?_) AllReadyH.nil)
      go_simp
      go_at_call 69; refine (qinside_any _ _ _ _ _ _ _ _ _).mono ?_; rw [HI.out]; rintro e k3 ⟨rfl, hbs⟩
      refine hK.out _ _ ?_ (fun hHeld2 => ?_)
      focus ((try dsimp only); (exact pr_keep hbs hHeld))
      clear hK K
      try simp only [Act.put, List.getElem_toArray, List.getElem_cons_zero, List.getElem_cons_succ, List.setIfInBounds_toArray, List.set_cons_zero, List.set_cons_succ]
      clear hbs
      clear hHeld
      have hHeld := hHeld2
      clear hHeld2
      refine wpAnyH_take (i := 8) (oi := _) (v := ?_) rfl (by kernel_rfl) (by kernel_rfl) (by kernel_rfl) (fun _ _ _ h => h) (Or.inl ⟨by rfl, ?_⟩) (by assumption) ?_
      rotate_left
      focus (intro wS hSw; (try dsimp only at hSw); go_simp; (try with_reducible rfl))
      try simp only [Act.put, List.getElem_toArray, List.getElem_cons_zero, List.getElem_cons_succ, List.setIfInBounds_toArray, List.set_cons_zero, List.set_cons_succ]
      refine wpAnyH_take (i := 9) (oi := _) (v := ?_) rfl (by kernel_rfl) (by kernel_rfl) (by kernel_rfl) (fun _ _ _ h => h) (Or.inl ⟨by rfl, ?_⟩) (by assumption) ?_
      rotate_left
      focus (intro wS hSw; (try dsimp only at hSw); go_simp; (try with_reducible rfl))
      try simp only [Act.put, List.getElem_toArray, List.getElem_cons_zero, List.getElem_cons_succ, List.setIfInBounds_toArray, List.set_cons_zero, List.set_cons_succ]
      refine wpAnyH_done (by kernel_rfl) ?_ _
      have H3 := hid hHeld.1
      clear hHeld
      go_wp2_with fail
      go_ret2
      exact sum_no (by unfold sCode; rw [if_neg HNV.out, if_pos HE.out]) (by omega) (by first | exact H3.out.below | exact H3.out.below')
    | true =>
    have HI := hid hi
    have HE : (!rEmpty r0 r1 r2 r3 && rInside r0 r1 r2 r3 0 0 w h) = true := by rw [← fullInside, hfu, hi]; rfl
    clear hfu hi
    have hin := (inside_iff (by have := HP.out; omega) (by have := HP.out; omega) (by have := HP.out; omega) (by have := HP.out; omega)).1 HE
    have HC := hid (show sCode w h mx zs r0 r1 r2 r3 = 0 by unfold sCode; rw [if_neg HNV.out, if_neg (by rw [HE]; simp)])
    clear HE
    obtain ⟨i1, i2, i3, i4, i5, i6⟩ := hin
    obtain ⟨p1, p2, p3, p4, p5, p6, p7⟩ := HP.out
    have HR : Hid (qAt w zs (r2 - 1) (r3 - 1) - qAt w zs (r0 - 1) (r3 - 1) - qAt w zs (r2 - 1) (r1 - 1) + qAt w zs (r0 - 1) (r1 - 1) = sRaw w zs r0 r1 r2 r3) := rfl
    have b1 := qAt_bd HV.out (r2 - 1) (r3 - 1)
    have b2 := qAt_bd HV.out (r0 - 1) (r3 - 1)
    have b3 := qAt_bd HV.out (r2 - 1) (r1 - 1)
    have b4 := qAt_bd HV.out (r0 - 1) (r1 - 1)
    obtain ⟨z1, hz1⟩ : ∃ z, qAt w zs (r2 - 1) (r3 - 1) = z := ⟨_, rfl⟩
    obtain ⟨z2, hz2⟩ : ∃ z, qAt w zs (r0 - 1) (r3 - 1) = z := ⟨_, rfl⟩
    obtain ⟨z3, hz3⟩ : ∃ z, qAt w zs (r2 - 1) (r1 - 1) = z := ⟨_, rfl⟩
    obtain ⟨z4, hz4⟩ : ∃ z, qAt w zs (r0 - 1) (r1 - 1) = z := ⟨_, rfl⟩
    rw [hz1] at b1
    rw [hz2] at b2
    rw [hz3] at b3
    rw [hz4] at b4
    rw [hz1, hz2, hz3, hz4] at HR
    obtain ⟨b1a, b1b⟩ := b1
    obtain ⟨b2a, b2b⟩ := b2
    obtain ⟨b3a, b3b⟩ := b3
    obtain ⟨b4a, b4b⟩ := b4
    have g1 : IntKind.i64.wrap (r2 - 1) = r2 - 1 := IntWalk.i64_in _ (by omega)
    have g2 : IntKind.i64.wrap (r3 - 1) = r3 - 1 := IntWalk.i64_in _ (by omega)
    have g3 : IntKind.i64.wrap (r0 - 1) = r0 - 1 := IntWalk.i64_in _ (by omega)
    have g4 : IntKind.i64.wrap (r1 - 1) = r1 - 1 := IntWalk.i64_in _ (by omega)
    have g5 : IntKind.i64.wrap (z1 - z2) = z1 - z2 := IntWalk.i64_in _ (by omega)
    have g6 : IntKind.i64.wrap (z1 - z2 - z3) = z1 - z2 - z3 := IntWalk.i64_in _ (by omega)
    have g7 : IntKind.i64.wrap (z1 - z2 - z3 + z4) = z1 - z2 - z3 + z4 := IntWalk.i64_in _ (by omega)
    have HD := hid (pr_mk (H1.out.drew))
    refine wp_region_held_drew (S := (fun w' => St B W [.cells (B + 1) #[.int .i64 r0, .int .i64 r1, .int .i64 r2, .int .i64 r3] 39, .cells B #[.int .i64 w, .int .i64 h, .int .i64 mx, .slice a n c] 26] [] w' ∧ w'.cell? ⟨B + 1, 0, none⟩ = some (.int .i64 r0) ∧ w'.cell? ⟨B + 1, 1, none⟩ = some (.int .i64 r1) ∧ w'.cell? ⟨B + 1, 2, none⟩ = some (.int .i64 r2) ∧ w'.cell? ⟨B + 1, 3, none⟩ = some (.int .i64 r3) ∧ w'.cell? ⟨B, 0, none⟩ = some (.int .i64 w) ∧ w'.cell? ⟨B, 1, none⟩ = some (.int .i64 h) ∧ w'.cell? ⟨B, 2, none⟩ = some (.int .i64 mx) ∧ w'.cell? ⟨B, 3, none⟩ = some (.slice a n c))) (by kernel_rfl) HD.out (fun hHeld => ?_)
    generalize w1.drew = k0 at *
    clear HD
    refine wpAnyH_take (i := 0) (oi := _) (v := ?_) rfl (by kernel_rfl) (by kernel_rfl) (by kernel_rfl) (fun _ _ _ h => h) (Or.inl ⟨by rfl, ?_⟩) (by assumption) ?_
    rotate_left
    focus (intro wS hSw; (try dsimp only at hSw); go_simp; (try with_reducible rfl))
    try simp only [Act.put, List.getElem_toArray, List.getElem_cons_zero, List.getElem_cons_succ, List.setIfInBounds_toArray, List.set_cons_zero, List.set_cons_succ]
    refine wpAnyH_ready (rs := [1]) (by kernel_rfl) (by simp) (AllReadyH.cons (o := _) rfl (fun K hK => ?_) AllReadyH.nil)
    go_simp
    go_at_call 68; refine (qfull_any _ _ _ _ _).mono ?_; rw [HFU.out]; rintro e k1 ⟨rfl, hbs⟩
    refine hK.out _ _ ?_ (fun hHeld2 => ?_)
    focus ((try dsimp only); (exact pr_keep hbs hHeld))
    clear hK K
    try simp only [Act.put, List.getElem_toArray, List.getElem_cons_zero, List.getElem_cons_succ, List.setIfInBounds_toArray, List.set_cons_zero, List.set_cons_succ]
    clear hbs
    clear hHeld
    have hHeld := hHeld2
    clear hHeld2
    refine wpAnyH_take (i := 2) (oi := _) (v := ?_) rfl (by kernel_rfl) (by kernel_rfl) (by kernel_rfl) (fun _ _ _ h => h) (Or.inl ⟨by rfl, ?_⟩) (by assumption) ?_
    rotate_left
    focus (intro wS hSw; (try dsimp only at hSw); go_simp; (try with_reducible rfl))
    try simp only [Act.put, List.getElem_toArray, List.getElem_cons_zero, List.getElem_cons_succ, List.setIfInBounds_toArray, List.set_cons_zero, List.set_cons_succ]
    refine wpAnyH_take (i := 3) (oi := _) (v := ?_) rfl (by kernel_rfl) (by kernel_rfl) (by kernel_rfl) (fun _ _ _ h => h) (Or.inl ⟨by rfl, ?_⟩) (by assumption) ?_
    rotate_left
    focus (intro wS hSw; (try dsimp only at hSw); go_simp; (try with_reducible rfl))
    try simp only [Act.put, List.getElem_toArray, List.getElem_cons_zero, List.getElem_cons_succ, List.setIfInBounds_toArray, List.set_cons_zero, List.set_cons_succ]
    refine wpAnyH_take (i := 4) (oi := _) (v := ?_) rfl (by kernel_rfl) (by kernel_rfl) (by kernel_rfl) (fun _ _ _ h => h) (Or.inl ⟨by rfl, ?_⟩) (by assumption) ?_
    rotate_left
    focus (intro wS hSw; (try dsimp only at hSw); go_simp; (try with_reducible rfl))
    try simp only [Act.put, List.getElem_toArray, List.getElem_cons_zero, List.getElem_cons_succ, List.setIfInBounds_toArray, List.set_cons_zero, List.set_cons_succ]
    refine wpAnyH_take (i := 5) (oi := _) (v := ?_) rfl (by kernel_rfl) (by kernel_rfl) (by kernel_rfl) (fun _ _ _ h => h) (Or.inl ⟨by rfl, ?_⟩) (by assumption) ?_
    rotate_left
    focus (intro wS hSw; (try dsimp only at hSw); go_simp; (try with_reducible rfl))
    try simp only [Act.put, List.getElem_toArray, List.getElem_cons_zero, List.getElem_cons_succ, List.setIfInBounds_toArray, List.set_cons_zero, List.set_cons_succ]
    refine wpAnyH_ready (rs := [6]) (by kernel_rfl) (by simp) (AllReadyH.cons (o := _) rfl (fun K hK => ?_) AllReadyH.nil)
    go_simp
    go_at_call 70; refine (qcover_any _ _ _ _ _ _ _).mono ?_; rintro e k2 ⟨rfl, hbs⟩
    refine hK.out _ _ ?_ (fun hHeld2 => ?_)
    focus ((try dsimp only); (exact pr_keep hbs hHeld))
    clear hK K
    try simp only [Act.put, List.getElem_toArray, List.getElem_cons_zero, List.getElem_cons_succ, List.setIfInBounds_toArray, List.set_cons_zero, List.set_cons_succ]
    clear hbs
    clear hHeld
    have hHeld := hHeld2
    clear hHeld2
    refine wpAnyH_ready (rs := [7]) (by kernel_rfl) (by simp) (AllReadyH.cons (o := _) rfl (fun K hK => ?_) AllReadyH.nil)
    go_simp
    go_at_call 69; refine (qinside_any _ _ _ _ _ _ _ _ _).mono ?_; rw [HI.out]; rintro e k3 ⟨rfl, hbs⟩
    refine hK.out _ _ ?_ (fun hHeld2 => ?_)
    focus ((try dsimp only); (exact pr_keep hbs hHeld))
    clear hK K
    try simp only [Act.put, List.getElem_toArray, List.getElem_cons_zero, List.getElem_cons_succ, List.setIfInBounds_toArray, List.set_cons_zero, List.set_cons_succ]
    clear hbs
    clear hHeld
    have hHeld := hHeld2
    clear hHeld2
    refine wpAnyH_take (i := 8) (oi := _) (v := ?_) rfl (by kernel_rfl) (by kernel_rfl) (by kernel_rfl) (fun _ _ _ h => h) (Or.inl ⟨by rfl, ?_⟩) (by assumption) ?_
    rotate_left
    focus (intro wS hSw; (try dsimp only at hSw); go_simp; (try with_reducible rfl))
    try simp only [Act.put, List.getElem_toArray, List.getElem_cons_zero, List.getElem_cons_succ, List.setIfInBounds_toArray, List.set_cons_zero, List.set_cons_succ]
    refine wpAnyH_take (i := 9) (oi := _) (v := ?_) rfl (by kernel_rfl) (by kernel_rfl) (by kernel_rfl) (fun _ _ _ h => h) (Or.inl ⟨by rfl, ?_⟩) (by assumption) ?_
    rotate_left
    focus (intro wS hSw; (try dsimp only at hSw); go_simp; (try with_reducible rfl))
    try simp only [Act.put, List.getElem_toArray, List.getElem_cons_zero, List.getElem_cons_succ, List.setIfInBounds_toArray, List.set_cons_zero, List.set_cons_succ]
    refine wpAnyH_done (by kernel_rfl) ?_ _
    have H3 := hid hHeld.1
    clear hHeld
    go_wp2_with fail
    have HD := hid (pr_mk (H3.out.drew))
    refine wp_region_held_drew (S := (fun w' => St B W [.cells (B + 1) #[.int .i64 r0, .int .i64 r1, .int .i64 r2, .int .i64 r3] 39, .cells B #[.int .i64 w, .int .i64 h, .int .i64 mx, .slice a n c] 26] [] w' ∧ w'.cell? ⟨B + 1, 0, none⟩ = some (.int .i64 r0) ∧ w'.cell? ⟨B + 1, 1, none⟩ = some (.int .i64 r1) ∧ w'.cell? ⟨B + 1, 2, none⟩ = some (.int .i64 r2) ∧ w'.cell? ⟨B + 1, 3, none⟩ = some (.int .i64 r3) ∧ w'.cell? ⟨B, 0, none⟩ = some (.int .i64 w) ∧ w'.cell? ⟨B, 1, none⟩ = some (.int .i64 h) ∧ w'.cell? ⟨B, 2, none⟩ = some (.int .i64 mx) ∧ w'.cell? ⟨B, 3, none⟩ = some (.slice a n c))) (by kernel_rfl) HD.out (fun hHeld => ?_)
    generalize World.drew _ = j0 at *
    clear HD H3
    refine wpAnyH_take (i := 0) (oi := _) (v := ?_) rfl (by kernel_rfl) (by kernel_rfl) (by kernel_rfl) (fun _ _ _ h => h) (Or.inl ⟨by rfl, ?_⟩) (by assumption) ?_
    rotate_left
    focus (intro wS hSw; (try dsimp only at hSw); go_simp; (try with_reducible rfl))
    try simp only [Act.put, List.getElem_toArray, List.getElem_cons_zero, List.getElem_cons_succ, List.setIfInBounds_toArray, List.set_cons_zero, List.set_cons_succ]
    refine wpAnyH_take (i := 1) (oi := _) (v := ?_) rfl (by kernel_rfl) (by kernel_rfl) (by kernel_rfl) (fun _ _ _ h => h) (Or.inl ⟨by rfl, ?_⟩) (by assumption) ?_
    rotate_left
    focus (intro wS hSw; (try dsimp only at hSw); go_simp; (try with_reducible rfl))
    try simp only [Act.put, List.getElem_toArray, List.getElem_cons_zero, List.getElem_cons_succ, List.setIfInBounds_toArray, List.set_cons_zero, List.set_cons_succ]
    refine wpAnyH_take (i := 2) (oi := _) (v := ?_) rfl (by kernel_rfl) (by kernel_rfl) (by kernel_rfl) (fun _ _ _ h => h) (Or.inl ⟨by rfl, ?_⟩) (by assumption) ?_
    rotate_left
    focus (intro wS hSw; (try dsimp only at hSw); go_simp; (try with_reducible rfl))
    try simp only [Act.put, List.getElem_toArray, List.getElem_cons_zero, List.getElem_cons_succ, List.setIfInBounds_toArray, List.set_cons_zero, List.set_cons_succ]
    refine wpAnyH_take (i := 3) (oi := _) (v := ?_) rfl (by kernel_rfl) (by kernel_rfl) (by kernel_rfl) (fun _ _ _ h => h) (Or.inl ⟨by rfl, ?_⟩) (by assumption) ?_
    rotate_left
    focus (intro wS hSw; (try dsimp only at hSw); go_simp; (try with_reducible rfl))
    try simp only [Act.put, List.getElem_toArray, List.getElem_cons_zero, List.getElem_cons_succ, List.setIfInBounds_toArray, List.set_cons_zero, List.set_cons_succ]
    refine wpAnyH_take (i := 4) (oi := _) (v := ?_) rfl (by kernel_rfl) (by kernel_rfl) (by kernel_rfl) (fun _ _ _ h => h) (Or.inl ⟨by rfl, ?_⟩) (by assumption) ?_
    rotate_left
    focus (intro wS hSw; (try dsimp only at hSw); go_simp; (try with_reducible rfl))
    try simp only [Act.put, List.getElem_toArray, List.getElem_cons_zero, List.getElem_cons_succ, List.setIfInBounds_toArray, List.set_cons_zero, List.set_cons_succ]
    refine wpAnyH_take (i := 5) (oi := _) (v := ?_) rfl (by kernel_rfl) (by kernel_rfl) (by kernel_rfl) (fun _ _ _ h => h) (Or.inl ⟨by rfl, ?_⟩) (by assumption) ?_
    rotate_left
    focus (intro wS hSw; (try dsimp only at hSw); go_simp; (try with_reducible rfl))
    try simp only [Act.put, List.getElem_toArray, List.getElem_cons_zero, List.getElem_cons_succ, List.setIfInBounds_toArray, List.set_cons_zero, List.set_cons_succ]
    refine wpAnyH_take (i := 6) (oi := _) (v := ?_) rfl (by kernel_rfl) (by kernel_rfl) (by kernel_rfl) (fun _ _ _ h => h) (Or.inl ⟨by rfl, ?_⟩) (by assumption) ?_
    rotate_left
    focus (intro wS hSw; (try dsimp only at hSw); go_simp; (try with_reducible rfl))
    try simp only [Act.put, List.getElem_toArray, List.getElem_cons_zero, List.getElem_cons_succ, List.setIfInBounds_toArray, List.set_cons_zero, List.set_cons_succ]
    refine wpAnyH_take (i := 8) (oi := _) (v := ?_) rfl (by kernel_rfl) (by kernel_rfl) (by kernel_rfl) (fun _ _ _ h => h) (Or.inl ⟨by rfl, ?_⟩) (by assumption) ?_
    rotate_left
    focus (intro wS hSw; (try dsimp only at hSw); go_simp; (try with_reducible rfl))
    try simp only [Act.put, List.getElem_toArray, List.getElem_cons_zero, List.getElem_cons_succ, List.setIfInBounds_toArray, List.set_cons_zero, List.set_cons_succ]
    refine wpAnyH_take (i := 9) (oi := _) (v := ?_) rfl (by kernel_rfl) (by kernel_rfl) (by kernel_rfl) (fun _ _ _ h => h) (Or.inl ⟨by rfl, ?_⟩) (by assumption) ?_
    rotate_left
    focus (intro wS hSw; (try dsimp only at hSw); go_simp; (try with_reducible rfl))
    try simp only [Act.put, List.getElem_toArray, List.getElem_cons_zero, List.getElem_cons_succ, List.setIfInBounds_toArray, List.set_cons_zero, List.set_cons_succ]
    refine wpAnyH_take (i := 10) (oi := _) (v := ?_) rfl (by kernel_rfl) (by kernel_rfl) (by kernel_rfl) (fun _ _ _ h => h) (Or.inl ⟨by rfl, ?_⟩) (by assumption) ?_
    rotate_left
    focus (intro wS hSw; (try dsimp only at hSw); go_simp; (try with_reducible rfl))
    try simp only [Act.put, List.getElem_toArray, List.getElem_cons_zero, List.getElem_cons_succ, List.setIfInBounds_toArray, List.set_cons_zero, List.set_cons_succ]
    refine wpAnyH_take (i := 11) (oi := _) (v := ?_) rfl (by kernel_rfl) (by kernel_rfl) (by kernel_rfl) (fun _ _ _ h => h) (Or.inl ⟨by rfl, ?_⟩) (by assumption) ?_
    rotate_left
    focus (intro wS hSw; (try dsimp only at hSw); go_simp; (try with_reducible rfl))
    try simp only [Act.put, List.getElem_toArray, List.getElem_cons_zero, List.getElem_cons_succ, List.setIfInBounds_toArray, List.set_cons_zero, List.set_cons_succ]
    refine wpAnyH_take (i := 12) (oi := _) (v := ?_) rfl (by kernel_rfl) (by kernel_rfl) (by kernel_rfl) (fun _ _ _ h => h) (Or.inl ⟨by rfl, ?_⟩) (by assumption) ?_
    rotate_left
    focus (intro wS hSw; (try dsimp only at hSw); go_simp; (try with_reducible rfl))
    try simp only [Act.put, List.getElem_toArray, List.getElem_cons_zero, List.getElem_cons_succ, List.setIfInBounds_toArray, List.set_cons_zero, List.set_cons_succ]
    refine wpAnyH_take (i := 13) (oi := _) (v := ?_) rfl (by kernel_rfl) (by kernel_rfl) (by kernel_rfl) (fun _ _ _ h => h) (Or.inl ⟨by rfl, ?_⟩) (by assumption) ?_
    rotate_left
    focus (intro wS hSw; (try dsimp only at hSw); go_simp; (try with_reducible rfl))
    try simp only [Act.put, List.getElem_toArray, List.getElem_cons_zero, List.getElem_cons_succ, List.setIfInBounds_toArray, List.set_cons_zero, List.set_cons_succ]
    refine wpAnyH_take (i := 14) (oi := _) (v := ?_) rfl (by kernel_rfl) (by kernel_rfl) (by kernel_rfl) (fun _ _ _ h => h) (Or.inl ⟨by rfl, ?_⟩) (by assumption) ?_
    rotate_left
    focus (intro wS hSw; (try dsimp only at hSw); go_simp; (try with_reducible rfl))
    try simp only [Act.put, List.getElem_toArray, List.getElem_cons_zero, List.getElem_cons_succ, List.setIfInBounds_toArray, List.set_cons_zero, List.set_cons_succ]
    refine wpAnyH_take (i := 17) (oi := _) (v := ?_) rfl (by kernel_rfl) (by kernel_rfl) (by kernel_rfl) (fun _ _ _ h => h) (Or.inl ⟨by rfl, ?_⟩) (by assumption) ?_
    rotate_left
    focus (intro wS hSw; (try dsimp only at hSw); go_simp; (try with_reducible rfl))
    try simp only [Act.put, List.getElem_toArray, List.getElem_cons_zero, List.getElem_cons_succ, List.setIfInBounds_toArray, List.set_cons_zero, List.set_cons_succ]
    refine wpAnyH_take (i := 18) (oi := _) (v := ?_) rfl (by kernel_rfl) (by kernel_rfl) (by kernel_rfl) (fun _ _ _ h => h) (Or.inl ⟨by rfl, ?_⟩) (by assumption) ?_
    rotate_left
    focus (intro wS hSw; (try dsimp only at hSw); go_simp; (try with_reducible rfl))
    try simp only [Act.put, List.getElem_toArray, List.getElem_cons_zero, List.getElem_cons_succ, List.setIfInBounds_toArray, List.set_cons_zero, List.set_cons_succ]
    refine wpAnyH_take (i := 19) (oi := _) (v := ?_) rfl (by kernel_rfl) (by kernel_rfl) (by kernel_rfl) (fun _ _ _ h => h) (Or.inl ⟨by rfl, ?_⟩) (by assumption) ?_
    rotate_left
    focus (intro wS hSw; (try dsimp only at hSw); go_simp; (try with_reducible rfl))
    try simp only [Act.put, List.getElem_toArray, List.getElem_cons_zero, List.getElem_cons_succ, List.setIfInBounds_toArray, List.set_cons_zero, List.set_cons_succ]
    refine wpAnyH_take (i := 20) (oi := _) (v := ?_) rfl (by kernel_rfl) (by kernel_rfl) (by kernel_rfl) (fun _ _ _ h => h) (Or.inl ⟨by rfl, ?_⟩) (by assumption) ?_
    rotate_left
    focus (intro wS hSw; (try dsimp only at hSw); go_simp; (try with_reducible rfl))
    try simp only [Act.put, List.getElem_toArray, List.getElem_cons_zero, List.getElem_cons_succ, List.setIfInBounds_toArray, List.set_cons_zero, List.set_cons_succ]
    refine wpAnyH_take (i := 21) (oi := _) (v := ?_) rfl (by kernel_rfl) (by kernel_rfl) (by kernel_rfl) (fun _ _ _ h => h) (Or.inl ⟨by rfl, ?_⟩) (by assumption) ?_
    rotate_left
    focus (intro wS hSw; (try dsimp only at hSw); go_simp; (try with_reducible rfl))
    try simp only [Act.put, List.getElem_toArray, List.getElem_cons_zero, List.getElem_cons_succ, List.setIfInBounds_toArray, List.set_cons_zero, List.set_cons_succ]
    refine wpAnyH_take (i := 22) (oi := _) (v := ?_) rfl (by kernel_rfl) (by kernel_rfl) (by kernel_rfl) (fun _ _ _ h => h) (Or.inl ⟨by rfl, ?_⟩) (by assumption) ?_
    rotate_left
    focus (intro wS hSw; (try dsimp only at hSw); go_simp; (try with_reducible rfl))
    try simp only [Act.put, List.getElem_toArray, List.getElem_cons_zero, List.getElem_cons_succ, List.setIfInBounds_toArray, List.set_cons_zero, List.set_cons_succ]
    refine wpAnyH_take (i := 23) (oi := _) (v := ?_) rfl (by kernel_rfl) (by kernel_rfl) (by kernel_rfl) (fun _ _ _ h => h) (Or.inl ⟨by rfl, ?_⟩) (by assumption) ?_
    rotate_left
    focus (intro wS hSw; (try dsimp only at hSw); go_simp; (try with_reducible rfl))
    try simp only [Act.put, List.getElem_toArray, List.getElem_cons_zero, List.getElem_cons_succ, List.setIfInBounds_toArray, List.set_cons_zero, List.set_cons_succ]
    refine wpAnyH_take (i := 26) (oi := _) (v := ?_) rfl (by kernel_rfl) (by kernel_rfl) (by kernel_rfl) (fun _ _ _ h => h) (Or.inl ⟨by rfl, ?_⟩) (by assumption) ?_
    rotate_left
    focus (intro wS hSw; (try dsimp only at hSw); go_simp; (try with_reducible rfl))
    try simp only [Act.put, List.getElem_toArray, List.getElem_cons_zero, List.getElem_cons_succ, List.setIfInBounds_toArray, List.set_cons_zero, List.set_cons_succ]
    refine wpAnyH_take (i := 27) (oi := _) (v := ?_) rfl (by kernel_rfl) (by kernel_rfl) (by kernel_rfl) (fun _ _ _ h => h) (Or.inl ⟨by rfl, ?_⟩) (by assumption) ?_
    rotate_left
    focus (intro wS hSw; (try dsimp only at hSw); go_simp; (try with_reducible rfl))
    try simp only [Act.put, List.getElem_toArray, List.getElem_cons_zero, List.getElem_cons_succ, List.setIfInBounds_toArray, List.set_cons_zero, List.set_cons_succ]
    refine wpAnyH_take (i := 28) (oi := _) (v := ?_) rfl (by kernel_rfl) (by kernel_rfl) (by kernel_rfl) (fun _ _ _ h => h) (Or.inl ⟨by rfl, ?_⟩) (by assumption) ?_
    rotate_left
    focus (intro wS hSw; (try dsimp only at hSw); go_simp; (try with_reducible rfl))
    try simp only [Act.put, List.getElem_toArray, List.getElem_cons_zero, List.getElem_cons_succ, List.setIfInBounds_toArray, List.set_cons_zero, List.set_cons_succ]
    refine wpAnyH_take (i := 29) (oi := _) (v := ?_) rfl (by kernel_rfl) (by kernel_rfl) (by kernel_rfl) (fun _ _ _ h => h) (Or.inl ⟨by rfl, ?_⟩) (by assumption) ?_
    rotate_left
    focus (intro wS hSw; (try dsimp only at hSw); go_simp; (try with_reducible rfl))
    try simp only [Act.put, List.getElem_toArray, List.getElem_cons_zero, List.getElem_cons_succ, List.setIfInBounds_toArray, List.set_cons_zero, List.set_cons_succ]
    refine wpAnyH_take (i := 30) (oi := _) (v := ?_) rfl (by kernel_rfl) (by kernel_rfl) (by kernel_rfl) (fun _ _ _ h => h) (Or.inl ⟨by rfl, ?_⟩) (by assumption) ?_
    rotate_left
    focus (intro wS hSw; (try dsimp only at hSw); go_simp; (try with_reducible rfl))
    try simp only [Act.put, List.getElem_toArray, List.getElem_cons_zero, List.getElem_cons_succ, List.setIfInBounds_toArray, List.set_cons_zero, List.set_cons_succ]
    refine wpAnyH_take (i := 31) (oi := _) (v := ?_) rfl (by kernel_rfl) (by kernel_rfl) (by kernel_rfl) (fun _ _ _ h => h) (Or.inl ⟨by rfl, ?_⟩) (by assumption) ?_
    rotate_left
    focus (intro wS hSw; (try dsimp only at hSw); go_simp; (try with_reducible rfl))
    try simp only [Act.put, List.getElem_toArray, List.getElem_cons_zero, List.getElem_cons_succ, List.setIfInBounds_toArray, List.set_cons_zero, List.set_cons_succ]
    refine wpAnyH_take (i := 32) (oi := _) (v := ?_) rfl (by kernel_rfl) (by kernel_rfl) (by kernel_rfl) (fun _ _ _ h => h) (Or.inl ⟨by rfl, ?_⟩) (by assumption) ?_
    rotate_left
    focus (intro wS hSw; (try dsimp only at hSw); go_simp; (try with_reducible rfl))
    try simp only [Act.put, List.getElem_toArray, List.getElem_cons_zero, List.getElem_cons_succ, List.setIfInBounds_toArray, List.set_cons_zero, List.set_cons_succ]
    refine wpAnyH_ready (rs := [7]) (by kernel_rfl) (by simp) (AllReadyH.cons (o := _) rfl (fun K hK => ?_) AllReadyH.nil)
    go_simp
    go_at_call 76; refine (qat_any w h mx _ _ a n c zs _ (hHeld.1.old HS.out) HN.out p1 p2 p4 p5 (by omega) (by omega) (by omega) (by omega)).mono ?_; rintro e j1 ⟨rfl, hbs⟩
    rw [hz1]
    refine hK.out _ _ ?_ (fun hHeld2 => ?_)
    focus ((try dsimp only); (exact pr_keep hbs hHeld))
    clear hK K
    try simp only [Act.put, List.getElem_toArray, List.getElem_cons_zero, List.getElem_cons_succ, List.setIfInBounds_toArray, List.set_cons_zero, List.set_cons_succ]
    clear hbs
    clear hHeld
    have hHeld := hHeld2
    clear hHeld2
    refine wpAnyH_ready (rs := [15]) (by kernel_rfl) (by simp) (AllReadyH.cons (o := _) rfl (fun K hK => ?_) AllReadyH.nil)
    go_simp
    go_at_call 76; refine (qat_any w h mx _ _ a n c zs _ (hHeld.1.old HS.out) HN.out p1 p2 p4 p5 (by omega) (by omega) (by omega) (by omega)).mono ?_; rintro e j2 ⟨rfl, hbs⟩
    rw [hz2]
    refine hK.out _ _ ?_ (fun hHeld2 => ?_)
    focus ((try dsimp only); (exact pr_keep hbs hHeld))
    clear hK K
    try simp only [Act.put, List.getElem_toArray, List.getElem_cons_zero, List.getElem_cons_succ, List.setIfInBounds_toArray, List.set_cons_zero, List.set_cons_succ]
    clear hbs
    clear hHeld
    have hHeld := hHeld2
    clear hHeld2
    refine wpAnyH_take (i := 16) (oi := _) (v := ?_) rfl (by kernel_rfl) (by kernel_rfl) (by kernel_rfl) (fun _ _ _ h => h) (Or.inl ⟨by rfl, ?_⟩) (by assumption) ?_
    rotate_left
    focus (intro wS hSw; (try dsimp only at hSw); go_simp; (try with_reducible rfl))
    try simp only [Act.put, List.getElem_toArray, List.getElem_cons_zero, List.getElem_cons_succ, List.setIfInBounds_toArray, List.set_cons_zero, List.set_cons_succ]
    refine wpAnyH_ready (rs := [24]) (by kernel_rfl) (by simp) (AllReadyH.cons (o := _) rfl (fun K hK => ?_) AllReadyH.nil)
    go_simp
    go_at_call 76; refine (qat_any w h mx _ _ a n c zs _ (hHeld.1.old HS.out) HN.out p1 p2 p4 p5 (by omega) (by omega) (by omega) (by omega)).mono ?_; rintro e j3 ⟨rfl, hbs⟩
    rw [hz3]
    refine hK.out _ _ ?_ (fun hHeld2 => ?_)
    focus ((try dsimp only); (exact pr_keep hbs hHeld))
    clear hK K
    try simp only [Act.put, List.getElem_toArray, List.getElem_cons_zero, List.getElem_cons_succ, List.setIfInBounds_toArray, List.set_cons_zero, List.set_cons_succ]
    clear hbs
    clear hHeld
    have hHeld := hHeld2
    clear hHeld2
    refine wpAnyH_take (i := 25) (oi := _) (v := ?_) rfl (by kernel_rfl) (by kernel_rfl) (by kernel_rfl) (fun _ _ _ h => h) (Or.inl ⟨by rfl, ?_⟩) (by assumption) ?_
    rotate_left
    focus (intro wS hSw; (try dsimp only at hSw); go_simp; (try with_reducible rfl))
    try simp only [Act.put, List.getElem_toArray, List.getElem_cons_zero, List.getElem_cons_succ, List.setIfInBounds_toArray, List.set_cons_zero, List.set_cons_succ]
    refine wpAnyH_ready (rs := [33]) (by kernel_rfl) (by simp) (AllReadyH.cons (o := _) rfl (fun K hK => ?_) AllReadyH.nil)
    go_simp
    go_at_call 76; refine (qat_any w h mx _ _ a n c zs _ (hHeld.1.old HS.out) HN.out p1 p2 p4 p5 (by omega) (by omega) (by omega) (by omega)).mono ?_; rintro e j4 ⟨rfl, hbs⟩
    rw [hz4]
    refine hK.out _ _ ?_ (fun hHeld2 => ?_)
    focus ((try dsimp only); (exact pr_keep hbs hHeld))
    clear hK K
    try simp only [Act.put, List.getElem_toArray, List.getElem_cons_zero, List.getElem_cons_succ, List.setIfInBounds_toArray, List.set_cons_zero, List.set_cons_succ]
    clear hbs
    clear hHeld
    have hHeld := hHeld2
    clear hHeld2
    refine wpAnyH_take (i := 34) (oi := _) (v := ?_) rfl (by kernel_rfl) (by kernel_rfl) (by kernel_rfl) (fun _ _ _ h => h) (Or.inl ⟨by rfl, ?_⟩) (by assumption) ?_
    rotate_left
    focus (intro wS hSw; (try dsimp only at hSw); go_simp; (try with_reducible rfl))
    try simp only [Act.put, List.getElem_toArray, List.getElem_cons_zero, List.getElem_cons_succ, List.setIfInBounds_toArray, List.set_cons_zero, List.set_cons_succ]
    refine wpAnyH_take (i := 35) (oi := _) (v := ?_) rfl (by kernel_rfl) (by kernel_rfl) (by kernel_rfl) (fun _ _ _ h => h) (Or.inl ⟨by rfl, ?_⟩) (by assumption) ?_
    rotate_left
    focus (intro wS hSw; (try dsimp only at hSw); go_simp; (try with_reducible rfl))
    try simp only [Act.put, List.getElem_toArray, List.getElem_cons_zero, List.getElem_cons_succ, List.setIfInBounds_toArray, List.set_cons_zero, List.set_cons_succ]
    refine wpAnyH_take (i := 36) (oi := _) (v := ?_) rfl (by kernel_rfl) (by kernel_rfl) (by kernel_rfl) (fun _ _ _ h => h) (Or.inl ⟨by rfl, ?_⟩) (by assumption) ?_
    rotate_left
    focus (intro wS hSw; (try dsimp only at hSw); go_simp; (try with_reducible rfl))
    try simp only [Act.put, List.getElem_toArray, List.getElem_cons_zero, List.getElem_cons_succ, List.setIfInBounds_toArray, List.set_cons_zero, List.set_cons_succ]
    refine wpAnyH_done (by kernel_rfl) ?_ _
    have H4 := hid hHeld.1
    clear hHeld
    go_wp2_with fail
    go_ret2
    exact sum_yes HC.out HR.out (by first | exact H4.out.below | exact H4.out.below')
end
end Go.Proofs.Ytoojiabdgaflgaa
